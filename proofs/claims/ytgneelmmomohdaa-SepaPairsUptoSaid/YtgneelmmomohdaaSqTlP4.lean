/- Plain texts of this claim, part 4. By an AI agent. -/
import Derived.Test.YtgneelmmomohdaaSqTlP3
import Derived.RowKit
import Derived.Shelf.SlSortCmp.WholeK
/-
  TlSortP: the library's sort by a function, of pairs, met in this frame; pairs in order.
  By an AI agent.
-/
set_option linter.all false
namespace TL
open Go Go.Proofs Go.Shelf Go.Sort Go.Lib
theorem e8.grown2{w w':World}(h:e8 w.heap.size w w'):∃q os,w'=grow (w.drewN q) os:=by
 obtain⟨h1,h2,h3,h4,h5,h6⟩:=h
 refine⟨w'.drawn-w.drawn,w'.heap.extract w.heap.size w'.heap.size,?_⟩
 have hh:w'.heap=w.heap++w'.heap.extract w.heap.size w'.heap.size:=by
   apply Array.ext_getElem?
   intro k
   rw[Array.getElem?_append]
   by_cases hk:k<w.heap.size
   · rw[if_pos hk];exact h5 k hk
   · rw[if_neg hk,Array.getElem?_extract]
     split
     · rw[show w.heap.size+(k-w.heap.size)=k by omega]
     · exact Array.getElem?_eq_none (by omega)
 have hd:w'.drawn=w.drawn+(w'.drawn-w.drawn):=by omega
 cases w with
 |mk a b c d e=>
   cases w' with
   |mk a' b' c' d' e'=>
     simp only[grow,World.drewN] at*
     subst h1 h2 h3
     simp only[World.mk.injEq,true_and,and_true]
     exact⟨hh,hd⟩
def gr(x:Int×Int):List Value:=[.int .i64 x.1,.int .i64 x.2]
section
variable{γ:aL}{w:World}{j b:Nat}
theorem n3(hb:is j (γ b))(m:Nat)(d:Array (Int×Int))(os:Array Obj):bI (is j) γ w γ (sortWorldK gr 2 w b 0 m d os):=by
 refine⟨rfl,rfl,rfl,?_,λ_ _ _=>rfl,λk hk hn=>?_,?_⟩
 · unfold sortWorldK putRowK;rw[size_grow,Go.Sort.size_putRow];simp only[heap_ahead];omega
 · unfold sortWorldK putRowK
   rw[heap_grow_old _ _ (by rw[Go.Sort.size_putRow];exact hk)]
   have:b≠k:=λe=>hn (by subst e;exact hb)
   simp[putRow,mapBlock,Array.getElem?_modify,this]
 · show w.drawn<=w.drawn+m
   omega
theorem qR{c:Array Value}{e:TypeId}{fr:Nat×Nat}(h:w.heap[b]? =some (.cells c e fr))(m:Nat)(d:Array (Int×Int))(os:Array Obj):(sortWorldK gr 2 w b 0 m d os).heap[b]? =some (.cells (putCells id 0 (flatK gr 2 d) c) e fr):=by
 unfold sortWorldK putRowK
 rw[heap_grow_old _ _ (by rw[Go.Sort.size_putRow];exact ck h)]
 simp[putRow,mapBlock,Array.getElem?_modify,h,onCells]
theorem oa{d:Array Value}{c:Array Value}{k:Nat}(h:k<d.size)(hc:k<c.size):(putCells id 0 d c)[k]? =some d[k]! :=by
 simp[putCells,h,hc]
theorem rj{d:Array (Int×Int)}{i q:Nat}(hi:i<d.size)(hq:q<2):(flatK gr 2 d)[i*2+q]! =(gr d[i]!)[q]! :=by
 rw[get_flatK _ _ _ _ (by omega),show(i*2+q)/2=i by omega,show(i*2+q)%2=q by omega]
end
theorem qW{P:Program}{ρ:Ren}(L:SlLaysF0.n6 P ρ)(aE:∀w,(isAgg (ρ.t 24)).run P w= .ok true w)(zE:∀w,(Go.sizeOf (ρ.t 24)).run P w= .ok 2 w)(cf:Int×Int->Int×Int->Int)(hO:SWO (ltOf cf))(g:Nat)(cb:Array Value)(eg:∀args w,(callFunc g args).run P w= .ok (.enter g args) w)
   {γ:aL}{w:World}{j:Nat}{v:Value}{ds:List (Int×Int)}(hne:ds≠[])(hl:Ow γ (is j) (is j) w v ds)
   (hc:∀W,bI (is j) γ w γ W->∀x y,Calls P g (#[.agg (gr x).toArray,.agg (gr y).toArray]++cb) W λe w'=>e= .returned (.int .i64 (cf x y))/\e8 W.heap.size W w'):
   Calls P (ρ.f 6) #[v,.func (.func g) #[] cb] w λe w'=>e= .returned (.tuple #[])/\∃ds':List (Int×Int),ds'.Perm ds/\ds'.Pairwise (λx y=>ltOf cf y x=false)/\bI (is j) γ w γ w'/\Ow γ (is j) (is j) w' v ds':=by
 rcases hl with⟨_,h⟩|⟨b,cap,c,e,rfl,hcap,hm,hJ,hb,hcs,hx⟩
 · exact absurd h hne
 · have hsz1:Rp.sz (Int×Int)=2:=rfl
   rw[hsz1] at hcs
   have hbs:=ck hb
   have hlen:ds.length=ds.toArray.size:=by simp
   have hget:∀i,i<ds.length->∀q,q<2->c[i*2+q]? =some (gr ds.toArray[i]!)[q]! :=λi hi q hq=>by
     obtain⟨cs,h1,h2⟩:=hx i ds[i] (by simp[hi])
     have h2:cs=gr ds[i]:=by
       obtain⟨c1,c2,e0,e1,e2⟩:=h2
       have e1:c1=[Value.int .i64 ds[i].1]:=e1
       have e2:c2=[Value.int .i64 ds[i].2]:=e2
       rw[e0,e1,e2];rfl
     have h1:=h1 q hq
     rw[h2] at h1
     rw[hsz1] at h1
     rw[h1]
     have e3:ds.toArray[i]! =ds[i]:=by simp[hi]
     rw[e3]
     have:q<(gr ds[i]).length:=hq
     rw[List.getElem?_eq_getElem this,getElem!_pos (gr ds[i]) q this]
   have hH:HoldsK gr 2 w b 0 ds.toArray:=λt ht=>by
     have ht:t<ds.length*2:=by simpa using ht
     constructor
     · have:=hget (t/2) (by omega) (t%2) (by omega)
       rw[show t/2*2+t%2=t by omega] at this
       simp only[World.cell?,hb,Nat.zero_add]
       rw[this]
       have e4:=rj (d:=ds.toArray) (i:=t/2) (q:=t%2) (by simp;omega) (by omega)
       rw[show t/2*2+t%2=t by omega] at e4
       rw[e4];rfl
     · simp[World.frozen?,hb]
   have hcmp:CmpLays P g cb gr 2 cf b 0 ds.toArray.size w:=λm os dk hs x y=>
     (hc _ (n3 hJ m dk os) x y).mono λe w' ⟨h1,h2⟩=>⟨h1,h2.grown2⟩
   have key:=AnyQ.slices_SortFunc L 2 aE zE gr (λ_=>rfl) (λx v hv=>by
     unfold gr at hv
     rcases List.mem_cons.1 hv with q|q
     · rw[q];rfl
     · rw[List.mem_singleton.1 q];rfl) cf hO g cb b 0 cap ds.toArray w eg hcmp hH hbs (by simp;omega)
   rw[hlen]
   refine key.mono λe' w' ⟨h1,d',n,os,hp,hs,hw⟩=>⟨h1,d'.toList,?_,?_,?_,?_⟩
   · obtain⟨q1,_,q3⟩:=hp
     rw[<-q1] at q3
     have e1:(d'.extract 0 d'.size)=d':=by simp
     rw[e1,q1] at q3
     have e2:(ds.toArray.extract 0 ds.toArray.size)=ds.toArray:=Array.extract_size
     rw[e2] at q3
     simpa using q3
   · rw[List.pairwise_iff_getElem]
     intro i k hi hk hik
     have hi:i<d'.size:=by simpa using hi
     have hk:k<d'.size:=by simpa using hk
     have:=hs i k (Nat.zero_le _) hik (by rw[<-hp.1];exact hk)
     rw[getElem!_pos d' k hk,getElem!_pos d' i hi] at this
     simpa using this
   · rw[hw];exact n3 hJ n d' os
   · have hs':d'.size=ds.length:=by rw[hp.1];simp
     have hd:d'.toList.length=ds.length:=by simpa using hs'
     refine .inr ⟨b,cap,_,e,by rw[hd];simp,by rw[hd];exact hcap,hm,hJ,by rw[hw];exact qR hb n d' os,by rw[hsz1];simpa[putCells] using hcs,λi x hi=>?_⟩
     have hi':i<d'.size:=by
       have:=(List.getElem?_eq_some_iff.1 hi).1
       simpa using this
     have hx':d'[i]! =x:=by
       rw[getElem!_pos d' i hi']
       have:=List.getElem?_eq_some_iff.1 hi
       obtain⟨p1,p2⟩:=this
       simpa using p2
     refine⟨gr x,λq hq=>?_,⟨[.int .i64 x.1],[.int .i64 x.2],rfl,rfl,rfl⟩⟩
     have hq2:q<2:=hq
     have hl2:q<(gr x).length:=hq2
     rw[hsz1,oa (by rw[size_flatK];omega) (by rw[hcs];omega),rj hi' hq2,hx',List.getElem?_eq_getElem hl2,getElem!_pos (gr x) q hl2]
def iJ(x y:Int×Int):Prop:=x.1<y.1\/(x.1=y.1/\x.2<y.2)
instance (x y:Int×Int):Decidable (iJ x y):=by unfold iJ;infer_instance
def qe(x:Int×Int):List (Int×Int)->List (Int×Int)
 |[]=>[x]
 |y::t=>if iJ y x then y::qe x t else x::y::t
def iW(l:List (Int×Int)):List (Int×Int):=l.foldr qe []
theorem qp{x y z:Int×Int}(h:iJ x y)(h2:iJ y z):iJ x z:=by unfold iJ at*;omega
theorem l9{x:Int×Int}:¬iJ x x:=by unfold iJ;omega
theorem rt{x y:Int×Int}(h:¬iJ x y)(h2:¬iJ y x):x=y:=by
 unfold iJ at*
 exact Prod.ext (by omega) (by omega)
theorem rZ{x y z:Int×Int}(h:¬iJ y x)(h2:¬iJ z y):¬iJ z x:=by unfold iJ at*;omega
theorem jL(x:Int×Int):∀l,(qe x l).Perm (x::l)
 |[]=>List.Perm.refl _
 |y::t=>by
   unfold qe
   split
   · exact((jL x t).cons y).trans (List.Perm.swap x y t)
   · exact List.Perm.refl _
theorem fV:∀l,(iW l).Perm l
 |[]=>List.Perm.refl _
 |x::t=>(jL x (iW t)).trans ((fV t).cons x)
theorem kH(x:Int×Int):∀l,l.Pairwise (λa b=>¬iJ b a)->(qe x l).Pairwise λa b=>¬iJ b a
 |[],_=>by simp[qe]
 |y::t,h=>by
   obtain⟨h1,h2⟩:=List.pairwise_cons.1 h
   unfold qe
   split
   · rename_i c
     refine List.pairwise_cons.2 ⟨λz hz=>?_,kH x t h2⟩
     rcases List.mem_cons.1 ((jL x t).mem_iff.1 hz) with q|q
     · rw[q];exact λk=>l9 (qp c k)
     · exact h1 z q
   · rename_i c
     refine List.pairwise_cons.2 ⟨λz hz=>?_,h⟩
     rcases List.mem_cons.1 hz with q|q
     · rw[q];exact c
     · exact rZ c (h1 z q)
theorem fE:∀l,(iW l).Pairwise λa b=>¬iJ b a
 |[]=>.nil
 |x::t=>kH x _ (fE t)
theorem ml:∀(l m:List (Int×Int)),l.Perm m->l.Pairwise (λa b=>¬iJ b a)->m.Pairwise (λa b=>¬iJ b a)->l=m
 |[],m,hp,_,_=>(List.nil_perm.1 hp).symm▸rfl
 |x::t,[],hp,_,_=>absurd (List.perm_nil.1 hp) (by simp)
 |x::t,y::u,hp,h1,h2=>by
   obtain⟨a1,a2⟩:=List.pairwise_cons.1 h1
   obtain⟨b1,b2⟩:=List.pairwise_cons.1 h2
   have e:x=y:=by
     have hx:x∈y::u:=hp.mem_iff.1 (List.mem_cons_self ..)
     have hy:y∈x::t:=hp.mem_iff.2 (List.mem_cons_self ..)
     rcases List.mem_cons.1 hx with q|q
     · exact q
     · rcases List.mem_cons.1 hy with q2|q2
       · exact q2.symm
       · exact rt (b1 x q) (a1 y q2)
   subst e
   rw[ml t u (List.Perm.cons_inv hp) a2 b2]
theorem vY{l m:List (Int×Int)}(hp:m.Perm l)(hs:m.Pairwise λa b=>¬iJ b a):m=iW l:=
 ml m (iW l) (hp.trans (fV l).symm) hs (fE l)
end TL
/-
  TlSepS: split pairs, put in order.
  By an AI agent.
-/
set_option linter.all false
namespace TL
section
variable{l:List Int}{k:Nat}{g:bh}
theorem yG(x y:Int×Int):qF [eG x.1 y.1,eG x.2 y.2]=mL x y:=by
 unfold mL
 simp only[qF,wd]
structure pN(g:bh)(l:List (Int×Int))(D:List (Int×Int))(k n:Nat)(m:(Int×Int->Int)×List (Int×Int)):Prop where
 eq:m.2=eC l D k
 bd:∀q,0<=m.1 q/\m.1 q<=(n:Int)
variable{L D:List (Int×Int)}{n:Nat}{m m2:(Int×Int->Int)×List (Int×Int)}
theorem pN.next(h:pN g L D k n m)(hk:(k:Int)<(L.length:Int)){p:Int×Int}(hp:p=gI L (k:Int))(e1:m2.1=λq=>if q=p then m.1 p+1 else m.1 q)(e2:m2.2=ib m.2 p):pN g L D (k+1) (n+1) m2:=by
 subst hp
 refine⟨by rw[e2];exact i5 h.eq hk,λq=>?_⟩
 rw[e1]
 show 0<=(if q=_ then _ else _)/\(if q=_ then _ else _)<=_
 have h1:=h.bd q
 have h2:=h.bd (gI L (k:Int))
 split<;>omega
def k5(g:bh):List (Int×Int):=iW ((fN g).filter λp=>eO g p.1 p.2)
def aY(g:bh):List (Int×Int)×Int:=if b7 g then if cU g=true then(k5 g,0) else([],7) else([],1)
theorem wC{S:List (Int×Int)}(hn:S.Nodup)(hd:(fN g).Nodup)(h1:∀q∈S,q∈fN g)(h2:∀q∈fN g,q∈S):iW (S.filter λp=>eO g p.1 p.2)=k5 g:=by
  have hp:S.Perm (fN g):=(List.perm_ext_iff_of_nodup hn hd).2 λq=>⟨h1 q,h2 q⟩
  exact ml _ _ ((fV _).trans ((hp.filter _).trans (fV _).symm)) (fE _) (fE _)
theorem wJ{S:List (Int×Int)}{q:Int×Int}(h:eO g q.1 q.2=true):(S.filter λp=>eO g p.1 p.2)++[q]=(S++[q]).filter λp=>eO g p.1 p.2:=by
 rw[List.filter_append,List.filter_cons_of_pos (p:=λp:Int×Int=>eO g p.1 p.2) (a:=q) h];rfl
theorem xU{S:List (Int×Int)}{q:Int×Int}(h:¬eO g q.1 q.2=true):(S.filter λp=>eO g p.1 p.2)=(S++[q]).filter λp=>eO g p.1 p.2:=by
 rw[List.filter_append,List.filter_cons_of_neg (p:=λp:Int×Int=>eO g p.1 p.2) (a:=q) h,List.filter_nil,List.append_nil]
theorem kp{l:List (Int×Int)}{D:List (Int×Int)}:∀k:Nat,(k:Int)<=(l.length:Int)->(eC l D k).length<=D.length+k
 |0,_=>by simp[eC]
 |k+1,h=>by
   have ih:=kp (l:=l) (D:=D) k (by omega)
   rw[<-i5 rfl (by omega)]
   unfold ib
   split
   · omega
   · rw[List.length_append];simp;omega
theorem jY{K:Type}{nb:Bool}{q:K}{D S:List K}(h:nb=true->q∈D/\q∉S/\S.length+1<=D.length)(hb:nb=true):S.length+1<=D.length:=(h hb).2.2
theorem pN.base(h:pN g (cq g (g.1*g.1)) [] k k m)(h1:(k:Int)<=((cq g (g.1*g.1)).length:Int))(hk:¬(k:Int)<((cq g (g.1*g.1)).length:Int))(hm:b7 g)(hN:2<g.1):pN g (g.2.map cP) (eC (dw g) [] (dw g).length) 0 1048576 m:=by
 have e:k=(cq g (g.1*g.1)).length:=by omega
 have hb:dw g=cq g (g.1*g.1):=if_pos hN
 have hl:=lZ (most:=g.1*g.1) hm
 refine⟨by rw[h.eq,hb,e];rfl,λq=>?_⟩
 have:=h.bd q
 omega
theorem pN.none(hN:¬2<g.1):pN g (g.2.map cP) (eC (dw g) [] (dw g).length) 0 1048576 (λ_=>0,[]):=by
 have hb:dw g=[]:=if_neg hN
 exact⟨by rw[hb];rfl,λq=>⟨Int.le_refl _,by show(0:Int)<=_;omega⟩⟩
theorem pN.done(h:pN g (g.2.map cP) (eC (dw g) [] (dw g).length) k n m)(h1:(k:Int)<=(g.2.length:Int))(hk:¬(k:Int)<(g.2.length:Int)):m.2=fN g:=by
 have e:k=g.2.length:=by omega
 rw[h.eq,e];rfl
theorem ip{l D:List (Int×Int)}(h:D.Nodup):∀k:Nat,(k:Int)<=(l.length:Int)->(eC l D k).Nodup
 |0,_=>by simpa[eC] using h
 |k+1,hk=>by
   have ih:=ip (l:=l) h k (by omega)
   rw[<-i5 rfl (by omega)]
   unfold ib
   split
   · exact ih
   · rw[List.nodup_append]
     refine⟨ih,by simp,λa ha b hb=>?_⟩
     rw[List.mem_singleton.1 hb]
     intro e;rw[e] at ha;exact absurd ha (by assumption)
theorem kN:(fN g).Nodup:=ip (ip List.nodup_nil _ (Int.le_refl _)) _ (by rw[List.length_map];omega)
theorem sK(hm:b7 g):((fN g).length:Int)<=1051648:=by
 have h1:=kp (l:=g.2.map cP) (D:=eC (dw g) [] (dw g).length) g.2.length (by rw[List.length_map];omega)
 have h2:=kp (l:=dw g) (D:=[]) (dw g).length (Int.le_refl _)
 have h3:((dw g).length:Int)<=1048576:=by
   unfold dw
   split
   · exact lZ hm
   · simp
 have h4:=hm.2.2.1
 have h5:(fN g).length=(eC (g.2.map cP) (eC (dw g) [] (dw g).length) g.2.length).length:=rfl
 simp at h2
 omega
structure mD(g:bh)(D S l:List (Int×Int)):Prop where
  eq:l=S.filter λp=>eO g p.1 p.2
  nd:S.Nodup
  sub:∀q∈S,q∈D
variable{S ll:List (Int×Int)}{nb:Bool}{q:Int×Int}
theorem mD.start:mD g D [] []:=⟨rfl,List.nodup_nil,λq h=>absurd h List.not_mem_nil⟩
theorem mD.nd'(h:mD g D S ll)(hy:nb=true->q∈D/\q∉S/\S.length+1<=D.length)(hb:nb=true):(S++[q]).Nodup/\∀z∈S++[q],z∈D:=by
 refine⟨?_,λz hz=>?_⟩
 · rw[List.nodup_append]
   exact⟨h.nd,by simp,λa ha b hb'=>by rw[List.mem_singleton.1 hb'];intro e;exact(hy hb).2.1 (e▸ha)⟩
 · rcases List.mem_append.1 hz with hz|hz
   · exact h.sub z hz
   · rw[List.mem_singleton.1 hz];exact(hy hb).1
theorem mD.yes(h:mD g D S ll)(hy:nb=true->q∈D/\q∉S/\S.length+1<=D.length)(hb:nb=true)(hh:eO g q.1 q.2=true):mD g D (oJ nb S q) (ll++[q]):=by
 rw[lJ hb]
 exact⟨by rw[h.eq];exact wJ hh,(h.nd' hy hb).1,(h.nd' hy hb).2⟩
theorem mD.no(h:mD g D S ll)(hy:nb=true->q∈D/\q∉S/\S.length+1<=D.length)(hb:nb=true)(hh:¬eO g q.1 q.2=true):mD g D (oJ nb S q) ll:=by
 rw[lJ hb]
 exact⟨by rw[h.eq];exact xU hh,(h.nd' hy hb).1,(h.nd' hy hb).2⟩
theorem mD.len(h:mD g D S ll):ll.length<=S.length:=by rw[h.eq];exact List.length_filter_le _ _
theorem mD.done(h:mD g D S ll)(hD:D=fN g)(hz:nb=false->∀q∈D,q∈S)(hb:¬nb=true):iW ll=k5 g:=by
 subst hD
 rw[h.eq]
 exact wC h.nd kN h.sub (hz (by cases nb;rfl;exact absurd rfl hb))
theorem o9(h:(c9 g).2=0):b7 g:=by
 unfold c9 at h
 by_cases c:b7 g
 · exact c
 · rw[if_neg c] at h;exact absurd h (by decide)
theorem ur(h:¬(c9 g).2=0):aY g=([],(c9 g).2):=by
 unfold c9 at h ⊢
 unfold aY
 by_cases c:b7 g
 · rw[if_pos c] at h;exact absurd rfl h
 · rw[if_neg c,if_neg c]
theorem xM(h:(c9 g).2=0)(h2:¬(c9 g).1=true):aY g=([],7):=by
 have hm:=o9 h
 unfold c9 at h2
 rw[if_pos hm] at h2
 unfold aY;rw[if_pos hm,if_neg h2]
theorem nQ(h:(c9 g).2=0)(h2:(c9 g).1=true):aY g=(k5 g,0):=by
 have hm:=o9 h
 unfold c9 at h2
 rw[if_pos hm] at h2
 unfold aY;rw[if_pos hm,if_pos h2]
end
end TL
/-
  TlSep4: classes of edges, seen from two nodes.
  By an AI agent.
-/
set_option linter.all false
namespace TL
section
variable{g:bh}{p:List Int}{u v x y q:Int}{k m i j:Nat}{l ls:List (List Int)}{at_:(Int->Int)×List Int}
def sP(g:bh)(u v:Int)(e:Int):Prop:=nD u v (gI g.2 e)
def gN(p:List Int)(g:bh)(u v:Int)(e:Int):Int:=gI p (eJ u v (gI g.2 e))
theorem ot:∀(l:List (List Int)) (j:Nat) (x:Int),j<l.length->(l.set j (gI l (j:Int)++[x])).flatten.Perm (l.flatten++[x])
 |[],j,x,h=>by simp at h
 |a::l,0,x,_=>by
   simp only[List.set_cons_zero,List.flatten_cons]
   have:gI (a::l) ((0:Nat):Int)=a:=by simp[gI]
   rw[this]
   simp only[List.append_assoc]
   exact List.Perm.append_left a List.perm_append_comm
 |a::l,j+1,x,h=>by
   have h1:j<l.length:=by simpa using h
   have:=ot l j x h1
   have e:gI (a::l) ((j+1:Nat):Int)=gI l (j:Int):=by simp[gI]
   rw[e]
   simp only[List.set_cons_succ,List.flatten_cons,List.append_assoc]
   exact List.Perm.append_left a this
structure kR(p:List Int)(g:bh)(u v:Int)(k:Nat)(l:List (List Int))(at_:(Int->Int)×List Int):Prop where
  pm:l.flatten.Perm (bG k)
  ne:∀r∈l,0<r.length/\r.Pairwise (· < ·)
  hd:(l.map λr=>gI r 0).Pairwise (· < ·)
  al:∀i:Nat,i<k->sP g u v (i:Int)->[(i:Int)]∈l
  rg:∀q∈at_.2,(0<=at_.1 q/\at_.1 q<(l.length:Int))/\∀e∈gI l (at_.1 q),¬sP g u v e/\gN p g u v e=q
  cm:∀i:Nat,i<k->¬sP g u v (i:Int)->gN p g u v (i:Int)∈at_.2/\(i:Int)∈gI l (at_.1 (gN p g u v (i:Int)))
  kd:∀r∈l,(∃e,r=[e]/\sP g u v e)\/∃q∈at_.2,r=gI l (at_.1 q)
theorem kR.lt(h:kR p g u v k l at_){r:List Int}(hr:r∈l){e:Int}(he:e∈r):0<=e/\e<(k:Int):=
 cw.1 (h.pm.mem_iff.1 (List.mem_flatten.2 ⟨r,hr,he⟩))
theorem kR.hds(h:kR p g u v k l at_):∀z∈l.map λr=>gI r 0,z<(k:Int):=λz hz=>by
 obtain⟨r,hr,rfl⟩:=List.mem_map.1 hz
 exact(h.lt hr (bv (Int.le_refl 0) (by have:=(h.ne r hr).1;omega))).2
theorem jQ{r:List Int}{i:Int}(h0:0<=i)(h1:i<(l.length:Int)):gI (l++[r]) i=gI l i:=by
 obtain⟨n,rfl⟩:∃n:Nat,i=(n:Int):=⟨i.toNat,by omega⟩
 have:n<l.length:=by omega
 simp[gI,List.getElem?_append_left this]
theorem qi{r:List Int}:gI (l++[r]) (l.length:Int)=r:=by simp[gI]
theorem xZ{r:List Int}{x:Int}(h:0<r.length):gI (r++[x]) 0=gI r 0:=by
 cases r with
 |nil=>simp at h
 |cons a r=>simp[gI]
theorem kR.start:kR p g u v 0 [] (λ_=>0,[]):=
 ⟨by simp[bG],λr h=>absurd h List.not_mem_nil,by simp,λi h=>by omega,λq h=>absurd h List.not_mem_nil,λi h=>by omega,λr h=>absurd h List.not_mem_nil⟩
theorem kR.pmn(h:kR p g u v k l at_):(l++[[(k:Int)]]).flatten.Perm (bG (k+1)):=by
 rw[List.flatten_append,cV]
 simpa using h.pm.append_right [(k:Int)]
theorem kR.hdn(h:kR p g u v k l at_):((l++[[(k:Int)]]).map λr=>gI r 0).Pairwise (· < ·):=by
 rw[List.map_append,List.pairwise_append]
 refine⟨h.hd,by simp,λa ha b hb=>?_⟩
 simp[gI] at hb
 rw[hb];exact h.hds a ha
theorem kR.nen(h:kR p g u v k l at_):∀r∈l++[[(k:Int)]],0<r.length/\r.Pairwise (· < ·):=λr hr=>by
 rcases List.mem_append.1 hr with hr|hr
 · exact h.ne r hr
 · rw[List.mem_singleton.1 hr];simp
theorem kR.alone(h:kR p g u v k l at_)(ha:sP g u v (k:Int)):kR p g u v (k+1) (l++[[(k:Int)]]) at_:=by
 refine⟨h.pmn,h.nen,h.hdn,λi hi hai=>?_,λq hq=>?_,λi hi hni=>?_,λr hr=>?_⟩
 · by_cases c:i=k
   · rw[c];simp
   · exact List.mem_append.2 (.inl (h.al i (by omega) hai))
 · obtain⟨⟨a,b⟩,c⟩:=h.rg q hq
   rw[jQ a b]
   exact⟨⟨a,by rw[List.length_append];simp;omega⟩,c⟩
 · have hk:i<k:=by
     rcases Nat.lt_or_ge i k with z|z
     · exact z
     · exact absurd (by rw[show i=k by omega];exact ha) hni
   obtain⟨a,b⟩:=h.cm i hk hni
   obtain⟨⟨c,d⟩,_⟩:=h.rg _ a
   exact⟨a,by rw[jQ c d];exact b⟩
 · rcases List.mem_append.1 hr with hr|hr
   · rcases h.kd r hr with z|⟨q,hq,e⟩
     · exact .inl z
     · exact .inr ⟨q,hq,by rw[jQ (h.rg q hq).1.1 (h.rg q hq).1.2];exact e⟩
   · exact .inl ⟨(k:Int),List.mem_singleton.1 hr,ha⟩
theorem kR.new(h:kR p g u v k l at_)(ha:¬sP g u v (k:Int))(hin:¬gN p g u v (k:Int)∈at_.2):kR p g u v (k+1) (l++[[(k:Int)]]) ((λq=>if q=gN p g u v (k:Int) then(l.length:Int) else at_.1 q),at_.2++[gN p g u v (k:Int)]):=by
 have hold:∀q∈at_.2,(if q=gN p g u v (k:Int) then(l.length:Int) else at_.1 q)=at_.1 q:=λq hq=>if_neg (λe:q=gN p g u v (k:Int)=>hin (by rw[<-e];exact hq))
 refine⟨h.pmn,h.nen,h.hdn,λi hi hai=>?_,λq hq=>?_,λi hi hni=>?_,λr hr=>?_⟩
 · by_cases c:i=k
   · rw[c];simp
   · exact List.mem_append.2 (.inl (h.al i (by omega) hai))
 · show(0<=(if q=_ then _ else _)/\(if q=_ then _ else _)<_)/\∀e∈gI _ (if q=_ then _ else _),_
   rcases List.mem_append.1 hq with hq|hq
   · rw[hold q hq]
     obtain⟨⟨a,b⟩,c⟩:=h.rg q hq
     rw[jQ a b]
     exact⟨⟨a,by rw[List.length_append];simp;omega⟩,c⟩
   · have e:=List.mem_singleton.1 hq
     rw[if_pos e,qi]
     refine⟨⟨by omega,by rw[List.length_append];simp;omega⟩,λz hz=>?_⟩
     rw[List.mem_singleton.1 hz];exact⟨ha,e.symm⟩
 · show _/\_∈gI _ (if _=_ then _ else _)
   by_cases c:i=k
   · subst c
     rw[if_pos rfl,qi]
     exact⟨List.mem_append.2 (.inr (by simp)),by simp⟩
   · obtain⟨a,b⟩:=h.cm i (by omega) hni
     obtain⟨⟨c,d⟩,_⟩:=h.rg _ a
     rw[hold _ a,jQ c d]
     exact⟨List.mem_append.2 (.inl a),b⟩
 · rcases List.mem_append.1 hr with hr|hr
   · rcases h.kd r hr with z|⟨q,hq,e⟩
     · exact .inl z
     · exact .inr ⟨q,List.mem_append.2 (.inl hq),by show r=gI _ (if q=_ then _ else _);rw[hold q hq,jQ (h.rg q hq).1.1 (h.rg q hq).1.2];exact e⟩
   · exact .inr ⟨gN p g u v (k:Int),List.mem_append.2 (.inr (by simp)),by show r=gI _ (if gN p g u v (k:Int)=gN p g u v (k:Int) then(l.length:Int) else _);rw[if_pos rfl,qi];exact List.mem_singleton.1 hr⟩
theorem kR.inj(h:kR p g u v k l at_){q q':Int}(hq:q∈at_.2)(hq':q'∈at_.2)(e:at_.1 q=at_.1 q'):q=q':=by
 obtain⟨⟨a,b⟩,c⟩:=h.rg q hq
 obtain⟨_,c'⟩:=h.rg q' hq'
 have hr:=bv (xs:=l) a b
 have hz:=bv (xs:=gI l (at_.1 q)) (i:=0) (Int.le_refl 0) (by have:=(h.ne _ hr).1;omega)
 have h1:=(c _ hz).2
 rw[e] at hz
 have h2:=(c' _ hz).2
 rw[e] at h1
 exact h1.symm.trans h2
theorem kR.old(h:kR p g u v k l at_)(ha:¬sP g u v (k:Int))(hin:gN p g u v (k:Int)∈at_.2):kR p g u v (k+1) (l.set (at_.1 (gN p g u v (k:Int))).toNat (gI l (at_.1 (gN p g u v (k:Int)))++[(k:Int)])) at_:=by
 obtain⟨⟨a,b⟩,c⟩:=h.rg _ hin
 have hr:=bv (xs:=l) a b
 have hgs:∀i,0<=i->gI (l.set (at_.1 (gN p g u v (k:Int))).toNat (gI l (at_.1 (gN p g u v (k:Int)))++[(k:Int)])) i=if i=at_.1 (gN p g u v (k:Int)) then gI l (at_.1 (gN p g u v (k:Int)))++[(k:Int)] else gI l i:=λi i0=>c5 a b i0
 have hh:=(h.ne _ hr).1
 have hg0:gI (gI l (at_.1 (gN p g u v (k:Int)))++[(k:Int)]) 0=gI (gI l (at_.1 (gN p g u v (k:Int)))) 0:=by
   exact xZ hh
 refine⟨?_,λr hr'=>?_,?_,λi hi hai=>?_,λq hq=>?_,λi hi hni=>?_,λr hr'=>?_⟩
 · have h2:=ot l (at_.1 (gN p g u v (k:Int))).toNat (k:Int) (by omega)
   rw[Int.toNat_of_nonneg a] at h2
   rw[cV]
   exact h2.trans (h.pm.append_right _)
 · rcases List.mem_or_eq_of_mem_set hr' with z|z
   · exact h.ne r z
   · rw[z]
     refine⟨by rw[List.length_append];simp,?_⟩
     rw[List.pairwise_append]
     exact⟨(h.ne _ hr).2,by simp,λx hx y hy=>by rw[List.mem_singleton.1 hy];exact(h.lt hr hx).2⟩
 · have e:(l.set (at_.1 (gN p g u v (k:Int))).toNat (gI l (at_.1 (gN p g u v (k:Int)))++[(k:Int)])).map (λr=>gI r 0)=l.map λr=>gI r 0:=by
     rw[List.map_set,hg0]
     refine List.ext_getElem (by simp) λn h1 h2=>?_
     rw[List.getElem_set]
     split
     · rename_i q
       have h3:n<l.length:=by simpa using h2
       have e2:gI l (at_.1 (gN p g u v (k:Int)))=l[n]:=by
         rw[show at_.1 (gN p g u v (k:Int))=(n:Int) by omega];simp[gI,h3]
       rw[e2,List.getElem_map]
     · rfl
   rw[e];exact h.hd
 · have hk:i<k:=by
     rcases Nat.lt_or_ge i k with z|z
     · exact z
     · exact absurd (by rw[show k=i by omega];exact hai) ha
   have hm:=h.al i hk hai
   obtain⟨n,hn,e⟩:=List.mem_iff_getElem.1 hm
   refine List.mem_iff_getElem.2 ⟨n,by rw[List.length_set];exact hn,?_⟩
   rw[List.getElem_set,if_neg]
   · exact e
   · intro q
     have e2:gI l (at_.1 (gN p g u v (k:Int)))=l[n]:=by
       rw[show at_.1 (gN p g u v (k:Int))=(n:Int) by omega];simp[gI,hn]
     rw[e2,e] at c
     exact(c (i:Int) (by simp)).1 hai
 · obtain⟨⟨a',b'⟩,c'⟩:=h.rg q hq
   refine⟨⟨a',by rw[List.length_set];exact b'⟩,λe he=>?_⟩
   rw[hgs _ a'] at he
   by_cases z:at_.1 q=at_.1 (gN p g u v (k:Int))
   · rw[if_pos z] at he
     have hqq:=h.inj hq hin z
     rcases List.mem_append.1 he with he|he
     · rw[hqq];exact c e he
     · rw[List.mem_singleton.1 he];exact⟨ha,hqq.symm⟩
   · rw[if_neg z] at he;exact c' e he
 · by_cases ci:i=k
   · subst ci
     exact⟨hin,by rw[hgs _ a,if_pos rfl];simp⟩
   · obtain⟨a',b'⟩:=h.cm i (by omega) hni
     refine⟨a',?_⟩
     rw[hgs _ (h.rg _ a').1.1]
     split
     · rename_i z;rw[z] at b';exact List.mem_append.2 (.inl b')
     · exact b'
 · rcases List.mem_or_eq_of_mem_set hr' with z|z
   · rcases h.kd r z with y|⟨q,hq,e⟩
     · exact .inl y
     · by_cases y:at_.1 q=at_.1 (gN p g u v (k:Int))
       · -- the row itself stands elsewhere in the list only if it is the same place
         exfalso
         obtain⟨n,hn,en⟩:=List.mem_iff_getElem.1 hr'
         rw[List.getElem_set] at en
         split at en
         · rename_i zz
           have:=congrArg List.length en
           rw[e,y,List.length_append] at this
           simp at this
         · rename_i zz
           have hn':n<l.length:=by simpa using hn
           have hnd:l.flatten.Nodup:=h.pm.nodup_iff.2 (ea _)
           have e2:gI l (at_.1 (gN p g u v (k:Int)))=l[(at_.1 (gN p g u v (k:Int))).toNat]'(by omega):=by
             have:(at_.1 (gN p g u v (k:Int))).toNat<l.length:=by omega
             simp[gI,this]
           have hpw:=List.pairwise_iff_getElem.1 h.hd
           have e3:gI (l[n]) 0=gI (l[(at_.1 (gN p g u v (k:Int))).toNat]'(by omega)) 0:=by rw[en,e,y,e2]
           rcases Nat.lt_trichotomy n (at_.1 (gN p g u v (k:Int))).toNat with w|w|w
           · have:=hpw n _ (by simpa using hn') (by simp;omega) w
             simp only[List.getElem_map] at this
             omega
           · exact zz w.symm
           · have:=hpw _ n (by simp;omega) (by simpa using hn') w
             simp only[List.getElem_map] at this
             omega
       · exact .inr ⟨q,hq,by rw[hgs _ (h.rg q hq).1.1,if_neg y];exact e⟩
   · exact .inr ⟨_,hin,by rw[hgs _ a,if_pos rfl];exact z⟩
theorem kX(p:List Int)(g:bh)(u v:Int):∀k:Nat,kR p g u v k (gQ p g u v k).1 (gQ p g u v k).2
 |0=>kR.start
 |k+1=>by
   have h:=kX p g u v k
   rw[gV]
   unfold hG
   by_cases ha:nD u v (gI g.2 (k:Int))
   · rw[if_pos ha];exact h.alone ha
   · rw[if_neg ha]
     by_cases hin:gI p (eJ u v (gI g.2 (k:Int)))∈(gQ p g u v k).2.2
     · rw[if_pos hin];exact h.old ha hin
     · rw[if_neg hin];exact h.new ha hin
end
end TL
/-
  TlSep5: pairs that separate are split pairs.
  By an AI agent.
-/
set_option linter.all false
namespace TL
section
variable{E:List (Int×Int)}{A:Int->Prop}{g:bh}{p:List Int}{u v x y q:Int}{k m i j:Nat}{l ls:List (List Int)}{at_:(Int->Int)×List Int}
theorem Js.exit(h:Js E A x y)(S:Int->Prop)(hx:S x)(hy:¬S y):∃e∈E,A e.1/\A e.2/\((S e.1/\¬S e.2)\/(S e.2/\¬S e.1)):=by
  induction h with
  |refl a=>exact absurd hx hy
  | @fw e k he a ih=>
    by_cases c:S e.1
    · exact⟨e,he,k.right,a,.inl ⟨c,hy⟩⟩
    · exact ih c
  | @bw e k he a ih=>
    by_cases c:S e.2
    · exact⟨e,he,a,k.right,.inr ⟨c,hy⟩⟩
    · exact ih c
theorem uo:∀{k:Nat} {i:Nat},i<k->(k:Int)<=(l.length:Int)->((gI l (i:Int)).length:Int)<=pZ l k
 |0,i,h,_=>by omega
 |k+1,i,h,hk=>by
   rw[<-jF rfl (by omega)]
   by_cases c:i=k
   · rw[c];exact Int.le_max_right _ _
   · exact Int.le_trans (uo (by omega) (by omega)) (Int.le_max_left _ _)
theorem xK:∀{k:Nat},0<k->(k:Int)<=(l.length:Int)->∃i:Nat,i<k/\pZ l k=((gI l (i:Int)).length:Int)
 |k+1,_,hk=>by
   rw[<-jF rfl (by omega)]
   by_cases c:k=0
   · subst c
     refine⟨0,by omega,?_⟩
     show max (0:Int) _=_
     exact Int.max_eq_right (by omega)
   · obtain⟨i,hi,e⟩:=xK (k:=k) (by omega) (by omega)
     rw[e]
     by_cases z:((gI l (i:Int)).length:Int)<=((gI l (k:Int)).length:Int)
     · exact⟨k,by omega,Int.max_eq_right z⟩
     · exact⟨i,by omega,Int.max_eq_left (by omega)⟩
theorem rU:∀(l:List (List Int)) (i:Nat),i<l.length->(gI l (i:Int)).length<=l.flatten.length
 |[],i,h=>by simp at h
 |a::l,0,_=>by simp[gI]
 |a::l,i+1,h=>by
   have:=rU l i (by simpa using h)
   have e:gI (a::l) ((i+1:Nat):Int)=gI l (i:Int):=by simp[gI]
   rw[e,List.flatten_cons,List.length_append];omega
theorem mg:∀(l:List (List Int)) (i j:Nat),i<j->j<l.length->(gI l (i:Int)).length+(gI l (j:Int)).length<=l.flatten.length
 |[],i,j,_,h=>by simp at h
 |a::l,0,j+1,_,h=>by
   have:=rU l j (by simpa using h)
   have e:gI (a::l) ((j+1:Nat):Int)=gI l (j:Int):=by simp[gI]
   have e0:gI (a::l) ((0:Nat):Int)=a:=by simp[gI]
   rw[e,e0,List.flatten_cons,List.length_append];omega
 |a::l,i+1,j+1,h1,h=>by
   have:=mg l i j (by omega) (by simpa using h)
   have e:gI (a::l) ((j+1:Nat):Int)=gI l (j:Int):=by simp[gI]
   have e0:gI (a::l) ((i+1:Nat):Int)=gI l (i:Int):=by simp[gI]
   rw[e,e0,List.flatten_cons,List.length_append];omega
theorem nf{i j:Int}(i0:0<=i)(i1:i<(l.length:Int))(j0:0<=j)(j1:j<(l.length:Int))(h:i≠j):(gI l i).length+(gI l j).length<=l.flatten.length:=by
 rcases Int.lt_or_gt_of_ne h with c|c
 · have:=mg l i.toNat j.toNat (by omega) (by omega)
   rwa[Int.toNat_of_nonneg i0,Int.toNat_of_nonneg j0] at this
 · have:=mg l j.toNat i.toNat (by omega) (by omega)
   rw[Int.toNat_of_nonneg i0,Int.toNat_of_nonneg j0] at this
   omega
theorem uK{r:List Int}{a b:Int}(ha:a∈r)(hb:b∈r)(h:a≠b):2<=r.length:=by
 match r,ha,hb with
 |[c],ha,hb=>exact absurd ((List.mem_singleton.1 ha).trans (List.mem_singleton.1 hb).symm) h
 |c::d::r,_,_=>simp
def pE(g:bh)(u v:Int):List Int:=(aH (ko g u v)).1
theorem lb{e:Int×Int}:e∈(ko g u v).2↔e∈g.2/\e.1∉[u,v]/\e.2∉[u,v]:=by
 unfold ko ia
 rw[List.take_length]
 show e∈g.2.filter (mK u v)↔_
 rw[List.mem_filter]
 unfold mK
 rw[decide_eq_true_eq]
 simp only[List.mem_cons,List.not_mem_nil,or_false,not_or]
 exact⟨λ⟨a,b,c,d,f⟩=>⟨a,⟨b,c⟩,d,f⟩,λ⟨a,⟨b,c⟩,d,f⟩=>⟨a,b,c,d,f⟩⟩
theorem yc(hx:x∉[u,v]):Js (ko g u v).2 (λ_=>True) x y↔Js g.2 (λz=>z∉[u,v]) x y:=by
 constructor
 · exact λh=>h.map (λ_=>hx) λe he _ _=>.edge (lb.1 he).1 (lb.1 he).2.1 (lb.1 he).2.2
 · exact λh=>h.map (λ_=>trivial) λe he a b=>.edge (lb.2 ⟨he,a,b⟩) trivial trivial
theorem nN(hm:b7 g)(hx:0<=x/\x<g.1)(hy:0<=y/\y<g.1)(nx:x∉[u,v]):gI (pE g u v) x=gI (pE g u v) y↔Js g.2 (λz=>z∉[u,v]) x y:=by
 have hmi:=pc (u:=u) (v:=v) hm
 have hP:=kj (gone:=[]) (cut:=[]) hmi
 obtain⟨l,hi⟩:=dT (gone:=[]) (cut:=[]) hmi
 have hdx:ic (ko g u v) x:=hx
 have hdy:ic (ko g u v) y:=hy
 have hall:=hi.all x.toNat (by show x.toNat<g.1.toNat;omega) (by show(x.toNat:Int)<g.1;omega) (by simp[gI])
 rw[Int.toNat_of_nonneg hx.1] at hall
 have h0:=(hi.iff x hdx).2 hall
 have h1:=hi.lab x y hdx hdy h0
 have e1:pE g u v=(dc (ko g u v) [] []).1:=(oH hmi).1
 rw[e1,h1,tF hmi hdx (by simp[gI]),<-yc nx]
 constructor
 · exact λh=>h.map (λ_=>trivial) λe he _ _=>.edge he trivial trivial
 · exact λh=>h.map (λ_=>by simp[gI]) λe he _ _=>.edge he (by simp[gI]) (by simp[gI])
theorem nH(hm:b7 g){e:Int}(e0:0<=e)(e1:e<(g.2.length:Int)):0<=eJ u v (gI g.2 e)/\eJ u v (gI g.2 e)<g.1:=by
 obtain⟨o1,o2⟩:=hm.2.2.2 _ (bv (xs:=g.2) (i:=e) e0 e1)
 unfold eJ
 split
 · exact o2
 · exact o1
theorem ry{e:Int}(h:¬sP g u v e):eJ u v (gI g.2 e)∉[u,v]:=λq=>h (by
 simp only[List.mem_cons,List.not_mem_nil,or_false] at q
 exact .inr q)
theorem rH(hm:b7 g)(hn:u≠v){a w:Int}(ha:a∉[u,v])(hw:w∈[u,v]){e:Int×Int}(he:e∈g.2)(hh:(e.1=a/\e.2=w)\/(e.2=a/\e.1=w)):∃i:Nat,i<g.2.length/\gI g.2 (i:Int)=e/\¬sP g u v (i:Int)/\eJ u v e=a:=by
  obtain⟨i,hi,ei⟩:=List.mem_iff_getElem.1 he
  have e1:gI g.2 (i:Int)=e:=by rw[<-ei];simp[gI,hi]
  simp only[List.mem_cons,List.not_mem_nil,or_false,not_or] at ha hw
  have ho:eJ u v e=a:=by
    unfold eJ
    rcases hh with⟨h1,h2⟩|⟨h1,h2⟩
    · rw[if_neg (by rw[h1];rintro(z|z);exact ha.1 z;exact ha.2 z)];exact h1
    · rw[if_pos (by rw[h2];exact hw)];exact h1
  refine⟨i,hi,e1,λhal=>?_,ho⟩
  unfold sP at hal
  rw[e1] at hal
  rcases hal with z|z|z
  · rcases hh with⟨h1,h2⟩|⟨h1,h2⟩
    · rw[h1,h2] at z;rcases hw with w'|w'<;>rw[w'] at z;exact ha.1 z;exact ha.2 z
    · rw[h1,h2] at z;rcases hw with w'|w'<;>rw[w'] at z;exact ha.1 z.symm;exact ha.2 z.symm
  · rw[ho] at z;exact ha.1 z
  · rw[ho] at z;exact ha.2 z
theorem vZ(hm:b7 g)(hL:L2 g)(hu:0<=u/\u<g.1)(hv:0<=v/\v<g.1)(hn:u≠v)(hx:0<=x/\x<g.1)(nx:x∉[u,v]):∃i j:Nat,i≠j/\(i<g.2.length/\j<g.2.length)/\(¬sP g u v (i:Int)/\¬sP g u v (j:Int))/\gN (pE g u v) g u v (i:Int)=gI (pE g u v) x/\gN (pE g u v) g u v (j:Int)=gI (pE g u v) x:=by
  have nx':=nx
  simp only[List.mem_cons,List.not_mem_nil,or_false,not_or] at nx'
  have key:∀w w',(w=u/\w'=v)\/(w=v/\w'=u)->(0<=w'/\w'<g.1)->Cj g.2 g.1 (λz=>z≠w)->∃e∈g.2,∃a,Js g.2 (λz=>z∉[u,v]) x a/\((e.1=a/\e.2=w')\/(e.2=a/\e.1=w')):=λw w' hw hr hc=>by
    have hxw:x≠w:=by rcases hw with⟨z,_⟩|⟨z,_⟩<;>rw[z];exact nx'.1;exact nx'.2
    have hww:w'≠w:=by rcases hw with⟨z,z'⟩|⟨z,z'⟩<;>rw[z,z'];exact λq=>hn q.symm;exact hn
    have hmem:w'∈[u,v]:=by rcases hw with⟨_,z'⟩|⟨_,z'⟩<;>rw[z']<;>simp
    have hout:∀b,b≠w->b∉[u,v]\/b=w':=λb hb=>by
      by_cases c:b=w'
      · exact .inr c
      · refine .inl λq=>?_
        simp only[List.mem_cons,List.not_mem_nil,or_false] at q
        rcases hw with⟨z,z'⟩|⟨z,z'⟩<;>rcases q with q|q
        · exact hb (q.trans z.symm)
        · exact c (q.trans z'.symm)
        · exact c (q.trans z'.symm)
        · exact hb (q.trans z.symm)
    obtain⟨e,he,a1,a2,hs⟩:=(hc x w' hx.1 hx.2 hr.1 hr.2 hxw hww).exit (λz=>Js g.2 (λz=>z∉[u,v]) x z) (.refl nx) (λq=>q.right hmem)
    rcases hs with⟨s1,s2⟩|⟨s1,s2⟩
    · refine⟨e,he,e.1,s1,.inl ⟨rfl,?_⟩⟩
      rcases hout _ a2 with z|z
      · exact absurd (.fw s1 he z) s2
      · exact z
    · refine⟨e,he,e.2,s1,.inr ⟨rfl,?_⟩⟩
      rcases hout _ a1 with z|z
      · exact absurd (.bw s1 he z) s2
      · exact z
  obtain⟨e,he,a,ja,ha⟩:=key u v (.inl ⟨rfl,rfl⟩) hv (hL.2.2 u hu.1 hu.2)
  obtain⟨f,hf,b,jb,hb⟩:=key v u (.inr ⟨rfl,rfl⟩) hu (hL.2.2 v hv.1 hv.2)
  obtain⟨i,hi,ei,ni,oi⟩:=rH hm hn ja.right (w:=v) (by simp) he ha
  obtain⟨j,hj,ej,nj,oj⟩:=rH hm hn jb.right (w:=u) (by simp) hf hb
  have hlab:∀c,Js g.2 (λz=>z∉[u,v]) x c->(0<=c/\c<g.1)->gI (pE g u v) c=gI (pE g u v) x:=λc jc hc=>((nN hm hx hc nx).2 jc).symm
  have ra:=nH (u:=u) (v:=v) hm (e:=(i:Int)) (by omega) (by omega)
  have rb:=nH (u:=u) (v:=v) hm (e:=(j:Int)) (by omega) (by omega)
  rw[ei,oi] at ra
  rw[ej,oj] at rb
  refine⟨i,j,λq=>?_,⟨hi,hj⟩,⟨ni,nj⟩,?_,?_⟩
  · rw[q,ej] at ei
    have na:=ja.right
    have nb:=jb.right
    simp only[List.mem_cons,List.not_mem_nil,or_false,not_or] at na nb
    rw[ei] at hb
    rcases ha with⟨h1,h2⟩|⟨h1,h2⟩<;>rcases hb with⟨h3,h4⟩|⟨h3,h4⟩
    · rw[h2] at h4;exact hn h4.symm
    · rw[h1] at h4;exact na.1 h4
    · rw[h1] at h4;exact na.1 h4
    · rw[h2] at h4;exact hn h4.symm
  · unfold gN;rw[ei,oi];exact hlab a ja ra
  · unfold gN;rw[ej,oj];exact hlab b jb rb
theorem wL(hm:b7 g)(hL:L2 g)(hu:0<=u/\u<g.1)(hv:0<=v/\v<g.1)(hn:u≠v)(hs:1<iX g [u,v]):eO g u v=true:=by
  have hno:¬Cj g.2 g.1 (λz=>z∉[u,v]):=λq=>by have:=(kZ hm (qq hu hv)).2 q;omega
  have hex:∃x y,(0<=x/\x<g.1)/\(0<=y/\y<g.1)/\x∉[u,v]/\y∉[u,v]/\¬Js g.2 (λz=>z∉[u,v]) x y:=by
    refine Classical.byContradiction λq=>hno λx y x0 x1 y0 y1 ax ay=>Classical.byContradiction λz=>q ⟨x,y,⟨x0,x1⟩,⟨y0,y1⟩,ax,ay,z⟩
  obtain⟨x,y,hx,hy,nx,ny,hxy⟩:=hex
  have hC:=kX (pE g u v) g u v g.2.length
  have hcl:(gQ (pE g u v) g u v g.2.length).1=d8 g u v:=rfl
  rw[hcl] at hC
  have hrow:∀z,(0<=z/\z<g.1)->z∉[u,v]->gI (pE g u v) z∈(gQ (pE g u v) g u v g.2.length).2.2/\2<=(gI (d8 g u v) ((gQ (pE g u v) g u v g.2.length).2.1 (gI (pE g u v) z))).length:=λz hz nz=>by
    obtain⟨i,j,hij,⟨hi,hj⟩,⟨ni,nj⟩,li,lj⟩:=vZ hm hL hu hv hn hz nz
    obtain⟨a1,a2⟩:=hC.cm i hi ni
    obtain⟨b1,b2⟩:=hC.cm j hj nj
    rw[li] at a1 a2
    rw[lj] at b1 b2
    exact⟨a1,uK a2 b2 (by omega)⟩
  obtain⟨mx,lx⟩:=hrow x hx nx
  obtain⟨my,ly⟩:=hrow y hy ny
  obtain⟨⟨ax0,ax1⟩,_⟩:=hC.rg _ mx
  obtain⟨⟨ay0,ay1⟩,_⟩:=hC.rg _ my
  have hne:(gQ (pE g u v) g u v g.2.length).2.1 (gI (pE g u v) x)≠(gQ (pE g u v) g u v g.2.length).2.1 (gI (pE g u v) y):=λq=>hxy ((nN hm hx hy nx).1 (hC.inj mx my q))
  have hfl:(d8 g u v).flatten.length=g.2.length:=by rw[hC.pm.length_eq,eI]
  obtain⟨t,ht,et⟩:=xK (l:=d8 g u v) (k:=(d8 g u v).length) (by omega) (Int.le_refl _)
  generalize hQ:(gQ (pE g u v) g u v g.2.length).2.1 (gI (pE g u v) x)=X at*
  generalize hR:(gQ (pE g u v) g u v g.2.length).2.1 (gI (pE g u v) y)=Y at*
  have hsum:pZ (d8 g u v) (d8 g u v).length+2<=(g.2.length:Int):=by
    rw[et]
    by_cases c:(t:Int)=X
    · have:=nf (l:=d8 g u v) (i:=(t:Int)) (j:=Y) (by omega) (by omega) ay0 ay1 (by omega)
      omega
    · have:=nf (l:=d8 g u v) (i:=(t:Int)) (j:=X) (by omega) (by omega) ax0 ax1 c
      omega
  have hge:=uo (l:=d8 g u v) (k:=(d8 g u v).length) (i:=X.toNat) (by omega) (Int.le_refl _)
  rw[Int.toNat_of_nonneg ax0] at hge
  unfold eO
  rw[decide_eq_true_eq]
  omega
end
end TL
/-
  TlSep6: SepaPairs.
  By an AI agent.
-/
set_option linter.all false
namespace TL
section
variable{g:bh}{p:List Int}{u v x y q n:Int}{k m i j:Nat}{L:List (List Int)}{seen:List Bool}
structure rC(m:Nat)(L:List (List Int)):Prop where
  pm:L.flatten.Perm (bG m)
  ne:∀r∈L,0<r.length/\r.Pairwise (· < ·)
  hd:(L.map λr=>gI r 0).Pairwise (· < ·)
theorem xS(h:(aq g u v).2=0):rC g.2.length (aq g u v).1:=by
 have hm:b7 g:=Classical.byContradiction λq=>by rw[qr q] at h;exact absurd (show(1:Int)=0 from h) (by decide)
 have hb:(0<=u/\u<g.1)/\(0<=v/\v<g.1)/\¬u=v:=Classical.byContradiction λq=>by rw[iw hm q] at h;exact absurd (show(2:Int)=0 from h) (by decide)
 rw[qN hm hb]
 have hC:=kX (pE g u v) g u v g.2.length
 exact⟨hC.pm,hC.ne,hC.hd⟩
def g5(L:List (List Int))(i j:Nat):List Int:=(L.take i).flatten++(gI L (i:Int)).take j
structure jJ(m:Nat)(L:List (List Int))(i j:Nat)(seen:List Bool)(n:Int):Prop where
 ln:(seen.length:Int)=(m:Int)
 at_:∀e,0<=e->e<(m:Int)->gI seen e=decide (e∈g5 L i j)
 nn:n=((g5 L i j).length:Int)
theorem qE(h:i<L.length):gI L (i:Int)=L[i]:=by simp[gI,h]
theorem pf(hi:(i:Int)<(L.length:Int)):L.flatten=(L.take i).flatten++(gI L (i:Int)++(L.drop (i+1)).flatten):=by
 have hi':i<L.length:=by omega
 conv=>lhs;rw[<-List.take_append_drop i L]
 rw[List.flatten_append,List.drop_eq_getElem_cons hi',List.flatten_cons,qE hi']
theorem jJ.start:jJ m L 0 0 (List.replicate (Int.toNat (m:Int)) false) 0:=by
 refine⟨by rw[List.length_replicate];omega,λe e0 e1=>?_,by simp[g5]⟩
 rw[fI e0 (by omega)];simp[g5]
theorem jJ.el(hF:rC m L)(hi:(i:Int)<(L.length:Int))(hj:(j:Int)<((gI L (i:Int)).length:Int)):(0<=gI (gI L (i:Int)) (j:Int)/\gI (gI L (i:Int)) (j:Int)<(m:Int))/\gI (gI L (i:Int)) (j:Int)∉g5 L i j:=by
 have hr:=bv (xs:=L) (i:=(i:Int)) (by omega) hi
 have he:=bv (xs:=gI L (i:Int)) (i:=(j:Int)) (by omega) hj
 refine⟨cw.1 (hF.pm.mem_iff.1 (List.mem_flatten.2 ⟨_,hr,he⟩)),λhin=>?_⟩
 have hnd:L.flatten.Nodup:=hF.pm.nodup_iff.2 (ea _)
 rw[pf hi,<-List.take_append_drop j (gI L (i:Int)),th hj,List.append_assoc,<-List.append_assoc] at hnd
 have h2:=List.nodup_append.1 hnd
 exact h2.2.2 _ hin _ (by simp) rfl
theorem jJ.fresh(h:jJ m L i j seen n)(hF:rC m L)(hi:(i:Int)<(L.length:Int))(hj:(j:Int)<((gI L (i:Int)).length:Int)):gI seen (gI (gI L (i:Int)) (j:Int))=false:=by
 obtain⟨⟨a,b⟩,c⟩:=jJ.el hF hi hj
 rw[h.at_ _ a b];exact decide_eq_false c
theorem jJ.next(h:jJ m L i j seen n)(hF:rC m L)(hi:(i:Int)<(L.length:Int))(hj:(j:Int)<((gI L (i:Int)).length:Int)):jJ m L i (j+1) (seen.set (gI (gI L (i:Int)) (j:Int)).toNat true) (n+1):=by
 obtain⟨⟨a,b⟩,c⟩:=jJ.el hF hi hj
 have hl:=h.ln
 have e:g5 L i (j+1)=g5 L i j++[gI (gI L (i:Int)) (j:Int)]:=by unfold g5;rw[bO hj,List.append_assoc]
 refine⟨by rw[List.length_set];exact hl,λz z0 z1=>?_,by rw[e,List.length_append,h.nn];simp⟩
 rw[c5 a (by omega) z0,e]
 by_cases q:z=gI (gI L (i:Int)) (j:Int)
 · rw[if_pos q];exact(decide_eq_true (List.mem_append.2 (.inr (by rw[q];simp)))).symm
 · rw[if_neg q,h.at_ z z0 z1,decide_eq_decide,List.mem_append,List.mem_singleton]
   exact⟨.inl,λw=>w.resolve_right q⟩
theorem jJ.row(h:jJ m L i j seen n)(hi:(i:Int)<(L.length:Int))(hj:¬(j:Int)<((gI L (i:Int)).length:Int)):jJ m L (i+1) 0 seen n:=by
 have e:g5 L (i+1) 0=g5 L i j:=by
   unfold g5
   rw[bO hi,List.flatten_append,List.take_of_length_le (l:=gI L (i:Int)) (by omega)]
   simp
 exact⟨h.ln,λz z0 z1=>by rw[e];exact h.at_ z z0 z1,by rw[e];exact h.nn⟩
theorem jJ.le(h:jJ m L i j seen n)(hF:rC m L)(hi:(i:Int)<=(L.length:Int)):0<=n/\n<=(m:Int):=by
 have hl:L.flatten.length=m:=by rw[hF.pm.length_eq,eI]
 rw[h.nn]
 refine⟨by omega,?_⟩
 have:(g5 L i j).length<=L.flatten.length:=by
   by_cases c:(i:Int)<(L.length:Int)
   · rw[pf c]
     unfold g5
     simp only[List.length_append,List.length_take]
     omega
   · unfold g5
     rw[List.take_of_length_le (by omega),List.length_append]
     have:gI L (i:Int)=[]:=by
       have:L.length<=i:=by omega
       simp[gI,this];rfl
     rw[this];simp
 omega
theorem jJ.done(h:jJ m L i 0 seen n)(hF:rC m L)(hi:¬(i:Int)<(L.length:Int)):n=(m:Int):=by
 have hl:L.flatten.length=m:=by rw[hF.pm.length_eq,eI]
 rw[h.nn]
 unfold g5
 rw[List.take_of_length_le (l:=L) (by omega)]
 simp
 simp at hl
 omega
theorem rC.asc(hF:rC m L)(hi:(i:Int)<(L.length:Int))(hj:(j:Int)<((gI L (i:Int)).length:Int))(h0:0<(j:Int)):gI (gI L (i:Int)) ((j:Int)-1)<gI (gI L (i:Int)) (j:Int):=by
 have hr:=(hF.ne _ (bv (xs:=L) (i:=(i:Int)) (by omega) hi)).2
 generalize gI L (i:Int)=r at hr hj
 have:=List.pairwise_iff_getElem.1 hr (j-1) j (by omega) (by omega) (by omega)
 have e1:gI r ((j:Int)-1)=r[j-1]:=by
   have:j-1<r.length:=by omega
   rw[show((j:Int)-1)=((j-1:Nat):Int) by omega];simp[gI,this]
 have e2:gI r (j:Int)=r[j]:=by
   have:j<r.length:=by omega
   simp[gI,this]
 rw[e1,e2];exact this
theorem rC.heads(hF:rC m L)(hi:(i:Int)<(L.length:Int))(h0:0<(i:Int)):gI (gI L ((i:Int)-1)) 0<gI (gI L (i:Int)) 0:=by
 have h1:i-1<L.length:=by omega
 have h2:i<L.length:=by omega
 have:=List.pairwise_iff_getElem.1 hF.hd (i-1) i (by simpa using h1) (by simpa using h2) (by omega)
 simp only[List.getElem_map] at this
 rw[show((i:Int)-1)=((i-1:Nat):Int) by omega,qE h1,qE h2]
 exact this
theorem rC.prev(hF:rC m L)(hi:(i:Int)<(L.length:Int)):0<((gI L (i:Int)).length:Int):=by
 have:=(hF.ne _ (bv (xs:=L) (i:=(i:Int)) (by omega) hi)).1
 omega
theorem rC.prev1(hF:rC m L)(hi:(i:Int)<(L.length:Int)):i=0\/0<((gI L ((i:Int)-1)).length:Int):=by
 by_cases c:i=0
 · exact .inl c
 · refine .inr ?_
   have:=hF.prev (i:=i-1) (by omega)
   rwa[show((i-1:Nat):Int)=(i:Int)-1 by omega] at this
theorem yq(hb:cU g=true):∀e∈g.2,¬e.1=e.2:=by
 unfold cU at hb
 exact(of_decide_eq_true hb).2.1
theorem nh(h:gk g g.2.length=0){a b:Nat}(hab:a<b)(hb:b<g.2.length):cP (gI g.2 (a:Int))≠cP (gI g.2 (b:Int)):=λe=>by
 unfold gk at h
 have h0:(List.range g.2.length).countP (λi=>decide (cP (gI g.2 i)∈(g.2.map cP).take i))=0:=by omega
 rw[List.countP_eq_zero] at h0
 refine h0 b (List.mem_range.2 hb) (decide_eq_true ?_)
 rw[<-e]
 refine List.mem_iff_getElem.2 ⟨a,by simp;omega,?_⟩
 have:a<g.2.length:=by omega
 simp[gI,this]
theorem wh{e:Int×Int}{a b:Int}(hab:a<b)(h1:e.1=a\/e.1=b)(h2:e.2=a\/e.2=b)(hn:¬e.1=e.2):cP e=(a,b):=by
 unfold cP
 refine Prod.ext ?_ ?_
 · show min e.1 e.2=a;omega
 · show max e.1 e.2=b;omega
theorem wr(hm:b7 g)(hb:cU g=true)(h3:L3 g)(hp:gk g g.2.length=0){e0:Nat}(he:e0<g.2.length):¬eO g (cP (gI g.2 (e0:Int))).1 (cP (gI g.2 (e0:Int))).2=true:=by
 intro hh
 have hmem:=bv (xs:=g.2) (i:=(e0:Int)) (by omega) (by omega)
 have hnl:=yq hb
 obtain⟨o1,o2⟩:=hm.2.2.2 _ hmem
 have hne:=hnl _ hmem
 generalize hab:cP (gI g.2 (e0:Int))=ab at hh
 obtain⟨a,b⟩:=ab
 have hh:eO g a b=true:=hh
 have ha:min (gI g.2 (e0:Int)).1 (gI g.2 (e0:Int)).2=a:=congrArg Prod.fst hab
 have hb':max (gI g.2 (e0:Int)).1 (gI g.2 (e0:Int)).2=b:=congrArg Prod.snd hab
 have hlt:a<b:=by unfold nP at*;omega
 have hra:0<=a/\a<g.1:=by omega
 have hrb:0<=b/\b<g.1:=by omega
 unfold eO at hh
 rw[decide_eq_true_eq] at hh
 have hC:=kX (pE g a b) g a b g.2.length
 rw[show(gQ (pE g a b) g a b g.2.length).1=d8 g a b from rfl] at hC
 -- all others are of one class
 have hal:∀i:Nat,i<g.2.length->i≠e0->¬sP g a b (i:Int):=λi hi hie hal=>by
   have hmi:=bv (xs:=g.2) (i:=(i:Int)) (by omega) (by omega)
   have hni:=hnl _ hmi
   have hl:cP (gI g.2 (i:Int))=(a,b):=by
     refine wh hlt ?_ ?_ hni
     · rcases hal with z|z|z
       · exact absurd z hni
       · unfold eJ at z;split at z
         · assumption
         · exact .inl z
       · unfold eJ at z;split at z
         · assumption
         · exact .inr z
     · rcases hal with z|z|z
       · exact absurd z hni
       · unfold eJ at z;split at z
         · exact .inl z
         · rename_i w;exact absurd (.inl z) w
       · unfold eJ at z;split at z
         · exact .inr z
         · rename_i w;exact absurd (.inr z) w
   rcases Nat.lt_or_gt_of_ne hie with w|w
   · exact nh hp w he (by rw[hl,hab])
   · exact nh hp w hi (by rw[hl,hab])
 have hcj:=h3.2.2 a b hra.1 hlt hrb.2
 have hlab:∀i j:Nat,i<g.2.length->j<g.2.length->i≠e0->j≠e0->gN (pE g a b) g a b (i:Int)=gN (pE g a b) g a b (j:Int):=λi j hi hj hie hje=>by
   have r1:=nH (u:=a) (v:=b) hm (e:=(i:Int)) (by omega) (by omega)
   have r2:=nH (u:=a) (v:=b) hm (e:=(j:Int)) (by omega) (by omega)
   have n1:=ry (hal i hi hie)
   have n2:=ry (hal j hj hje)
   exact(nN hm r1 r2 n1).2 (hcj _ _ r1.1 r1.2 r2.1 r2.2 n1 n2)
 obtain⟨f,hf,hfe⟩:∃f:Nat,f<g.2.length/\f≠e0:=by
   by_cases c:e0=0
   · exact⟨1,by omega,by omega⟩
   · exact⟨0,by omega,by omega⟩
 obtain⟨hq,_⟩:=hC.cm f hf (hal f hf hfe)
 obtain⟨⟨t0,t1⟩,_⟩:=hC.rg _ hq
 generalize hX:(gQ (pE g a b) g a b g.2.length).2.1 (gN (pE g a b) g a b (f:Int))=X at*
 have hall:∀i:Nat,i<g.2.length->i≠e0->(i:Int)∈gI (d8 g a b) X:=λi hi hie=>by
   have:=(hC.cm i hi (hal i hi hie)).2
   rw[hlab i f hi hf hie hfe,hX] at this;exact this
 have hlen:=jf ((bG g.2.length).erase (e0:Int)) (gI (d8 g a b) X) ((ea _).erase _) λz hz=>by
   have h1:=(ea g.2.length).mem_erase_iff.1 hz
   have h2:=cw.1 h1.2
   have:=hall z.toNat (by omega) (by omega)
   rwa[Int.toNat_of_nonneg h2.1] at this
 rw[List.length_erase_of_mem (cw.2 ⟨by omega,by omega⟩),eI] at hlen
 have hlen2:(g.2.length:Int)<=((gI (d8 g a b) X).length:Int)+1:=by omega
 clear hlen
 have hge:=uo (l:=d8 g a b) (k:=(d8 g a b).length) (i:=X.toNat) (by omega) (Int.le_refl _)
 rw[Int.toNat_of_nonneg t0] at hge
 omega
theorem pW(hm:b7 g)(h2:L2 g):dw g=eP g:=by
 have ht:=(iE hm).2 h2
 unfold dw
 rw[if_pos h2.1,om hm (by have:=h2.1;omega),kn hm ht]
theorem ke{l D:List (Int×Int)}{z:Int×Int}:∀k:Nat,(k:Int)<=(l.length:Int)->(z∈eC l D k↔z∈D\/z∈l.take k)
 |0,_=>by simp[eC]
 |k+1,h=>by
   have ih:=ke (l:=l) (D:=D) (z:=z) k (by omega)
   rw[<-i5 rfl (by omega),bO (by omega),List.mem_append,List.mem_singleton]
   unfold ib
   split
   · rw[ih]
     rename_i c
     constructor
     · rintro(w|w)
       · exact .inl w
       · exact .inr (.inl w)
     · rintro(w|w|w)
       · exact .inl w
       · exact .inr w
       · exact ih.1 (by rw[w];exact c)
   · rw[List.mem_append,List.mem_singleton,ih,or_assoc]
theorem mS{z:Int×Int}:z∈fN g↔z∈dw g\/z∈g.2.map cP:=by
 unfold fN
 rw[ke _ (by rw[List.length_map];omega),ke _ (Int.le_refl _),List.take_length,List.take_of_length_le (by rw[List.length_map];omega)]
 simp
theorem xo(hm:b7 g)(hb:cU g=true)(h3:L3 g)(hp:gk g g.2.length=0):k5 g=[]:=by
 have hf:(fN g).filter (λp=>eO g p.1 p.2)=[]:=by
   rw[List.filter_eq_nil_iff]
   intro z hz
   rcases mS.1 hz with w|w
   · rw[pW hm h3.1,(o6 hm).2 h3.2.2] at w
     exact absurd w List.not_mem_nil
   · obtain⟨e,he,rfl⟩:=List.mem_map.1 w
     obtain⟨i,hi,rfl⟩:=List.mem_iff_getElem.1 he
     have:=wr hm hb h3 hp hi
     have e1:gI g.2 (i:Int)=g.2[i]:=by simp[gI,hi]
     rw[e1] at this;exact this
 unfold k5
 rw[hf];rfl
theorem xW(hm:b7 g)(h2:L2 g):∀z∈eP g,z∈k5 g:=λz hz=>by
 unfold k5
 rw[(fV _).mem_iff,List.mem_filter]
 obtain⟨a,b,c,d⟩:=nI.1 hz
 exact⟨mS.2 (.inl (by rw[pW hm h2];exact hz)),wL hm h2 a b (by omega) d⟩
theorem wZ:(k5 g).Pairwise iJ:=by
 have h1:=fE ((fN g).filter λp=>eO g p.1 p.2)
 have h2:(k5 g).Nodup:=(fV _).nodup_iff.2 (kN.sublist List.filter_sublist)
 refine List.Pairwise.imp₂ (R:=λa b=>¬iJ b a) (S:=λa b=>a≠b) (λa b hab hne=>?_) h1 h2
 exact Classical.byContradiction λq=>hne (rt q hab)
theorem nr(n:Nat):(bG n).Pairwise (· < ·):=by
 unfold bG
 rw[List.pairwise_map]
 exact(List.pairwise_lt_range).imp λh=>by omega
theorem wD(g:bh):(eP g).Pairwise iJ:=by
 unfold eP
 rw[List.pairwise_flatMap]
 refine⟨λu _=>?_,?_⟩
 · unfold jj
   rw[List.pairwise_map]
   exact(List.Pairwise.filter _ (nr _)).imp λh=>.inr ⟨rfl,h⟩
 · refine(nr _).imp λ {a b} h=>?_
   intro x hx y hy
   unfold jj at hx hy
   obtain⟨_,_,rfl⟩:=List.mem_map.1 hx
   obtain⟨_,_,rfl⟩:=List.mem_map.1 hy
   exact .inl h
def qa(s l:List (Int×Int))(i:Nat)(at_:Nat):Prop:=∀j:Nat,i<=j->j<l.length->at_<=s.idxOf (gI l (j:Int))
variable{s l:List (Int×Int)}{a:Nat}
theorem qa.start:qa s l 0 0:=λ_ _ _=>Nat.zero_le _
theorem qA{z:Int×Int}(hz:z∈s):s.idxOf z<s.length/\gI s ((s.idxOf z:Nat):Int)=z:=by
 have h:=List.idxOf_lt_length_of_mem hz
 refine⟨h,?_⟩
 simp[gI,h]
theorem qa.step(h:qa s l i a)(hs:s.Pairwise iJ)(hl:l.Pairwise iJ)(hsub:∀z∈l,z∈s)(hi:(i:Int)<(l.length:Int))(ha:(a:Int)<(s.length:Int))(hne:¬gI s (a:Int)=gI l (i:Int)):qa s l i (a+1):=λj h1 h2=>by
 have hi':=hsub _ (bv (xs:=l) (i:=(i:Int)) (by omega) hi)
 obtain⟨x1,x2⟩:=qA hi'
 have h3:=h i (Nat.le_refl _) (by omega)
 have h4:a≠s.idxOf (gI l (i:Int)):=λe=>hne (by rw[e];exact x2)
 by_cases c:j=i
 · rw[c];omega
 · have hj':=hsub _ (bv (xs:=l) (i:=(j:Int)) (by omega) (by omega))
   obtain⟨y1,y2⟩:=qA hj'
   have hlt:iJ (gI l (i:Int)) (gI l (j:Int)):=by
     have:=List.pairwise_iff_getElem.1 hl i j (by omega) h2 (by omega)
     have e1:gI l (i:Int)=l[i]'(by omega):=by
       have:i<l.length:=by omega
       simp[gI,this]
     have e2:gI l (j:Int)=l[j]:=by simp[gI,h2]
     rw[e1,e2];exact this
   refine Classical.byContradiction λq=>?_
   have hle:s.idxOf (gI l (j:Int))<=s.idxOf (gI l (i:Int)):=by omega
   rcases Nat.lt_or_ge (s.idxOf (gI l (j:Int))) (s.idxOf (gI l (i:Int))) with w|w
   · have:=List.pairwise_iff_getElem.1 hs _ _ y1 x1 w
     have e1:s[s.idxOf (gI l (j:Int))]=gI l (j:Int):=by simp
     have e2:s[s.idxOf (gI l (i:Int))]=gI l (i:Int):=by simp
     rw[e1,e2] at this
     exact l9 (qp hlt this)
   · have e:s.idxOf (gI l (j:Int))=s.idxOf (gI l (i:Int)):=by omega
     rw[e,x2] at y2
     rw[<-y2] at hlt
     exact l9 hlt
theorem qa.lt(h:qa s l i a)(hsub:∀z∈l,z∈s)(hi:(i:Int)<(l.length:Int)):(a:Int)<(s.length:Int):=by
 have hi':=hsub _ (bv (xs:=l) (i:=(i:Int)) (by omega) hi)
 have:=(qA hi').1
 have:=h i (Nat.le_refl _) (by omega)
 omega
theorem qa.next(h:qa s l i a):qa s l (i+1) a:=λj h1 h2=>h j (by omega) h2
theorem un(hm:b7 g):(bp g).2=0/\(((aY g).2=0->cU g=true/\(aY g).1=k5 g)/\(¬(aY g).2=0->((aY g).1.length:Int)=0))/\((bn g).2=0->L2 g/\(bn g).1=eP g)/\(¬(bn g).2=0->(bp g).1<2):=by
  have e1:bp g=(j6 g,0):=by unfold bp;rw[if_pos hm]
  refine⟨by rw[e1],⟨λh=>?_,λh=>?_⟩,λh=>?_,λh=>?_⟩
  · unfold aY at h ⊢
    rw[if_pos hm] at h ⊢
    by_cases c:cU g=true
    · rw[if_pos c];exact⟨c,rfl⟩
    · rw[if_neg c] at h;exact absurd (show(7:Int)=0 from h) (by decide)
  · unfold aY at h ⊢
    rw[if_pos hm] at h ⊢
    by_cases c:cU g=true
    · rw[if_pos c] at h;exact absurd rfl h
    · rw[if_neg c];rfl
  · have h2:fg g=true:=Classical.byContradiction λq=>by rw[u9 hm q] at h;exact absurd (show(7:Int)=0 from h) (by decide)
    have hL:=(iE hm).1 h2
    refine⟨hL,?_⟩
    rw[lL hm h2]
    show cq g (g.1*g.1)=_
    rw[om hm (by have:=hL.1;omega),kn hm h2]
  · rw[e1]
    show j6 g<2
    rcases mN hm with⟨q,_⟩|⟨_,q,_⟩|⟨_,_,e⟩|⟨_,e⟩
    · exact absurd (by rw[lL hm ((iE hm).2 q.1)]) h
    · exact absurd (by rw[lL hm ((iE hm).2 q)]) h
    · rw[e];decide
    · rw[e];decide
theorem vL(hm:b7 g)(hs:(aY g).2=0)(hl:(bp g).1=3)(hp:(eA g).1.2.1=0):((aY g).1.length:Int)=0:=by
 obtain⟨hb,e⟩:=(un hm).2.1.1 hs
 have e1:bp g=(j6 g,0):=by unfold bp;rw[if_pos hm]
 rw[e1] at hl
 have hl:j6 g=3:=hl
 have h3:L3 g:=by
   rcases mN hm with⟨q,_⟩|⟨_,_,e⟩|⟨_,_,e⟩|⟨_,e⟩
   · exact q
   · omega
   · omega
   · omega
 have hpar:gk g g.2.length=0:=by
   unfold eA at hp;rw[if_pos hm] at hp;exact hp
 rw[e,xo hm hb h3 hpar];rfl
end
end TL
/-
  TlSepM: nets that are well known.
  By an AI agent.
-/
set_option linter.all false
namespace TL
def jS(k:Nat):List (Int×Int):=(List.range k).map λ(i:Nat)=>((i:Int),(i:Int)+1)
def c6(n:Int):bh:=(n,jS (n-1).toNat++[(n-1,0)])
section
variable{n kk:Int}{i j k:Nat}{E:List (Int×Int)}
theorem lI:(jS k).length=k:=by simp[jS]
theorem k6(h:E=jS k):E++[((k:Int),(k:Int)+1)]=jS (k+1):=by
 rw[h];simp[jS,List.range_succ]
theorem m0(h:E=jS k)(h0:(k:Int)<=n-1)(hk:¬(k:Int)<n-1):(n,E++[(n-1,0)])=c6 n:=by
 unfold c6;rw[h,show k=(n-1).toNat by omega]
def fH(i j:Nat):List (Int×Int):=(List.range j).map λ(q:Nat)=>((i:Int),(i:Int)+1+(q:Int))
def dL(n:Int)(i:Nat):List (Int×Int):=(List.range i).flatMap λa=>fH a (n-1-(a:Int)).toNat
def ep(n:Int):bh:=(n,dL n n.toNat)
theorem fD(hn:n<=20):∀i:Nat,(dL n i).length<=i*20
 |0=>by simp[dL]
 |i+1=>by
   have h1:=fD hn i
   have e:dL n (i+1)=dL n i++fH i (n-1-(i:Int)).toNat:=by
     unfold dL
     rw[List.range_succ,List.flatMap_append,List.flatMap_cons,List.flatMap_nil,List.append_nil]
   have e2:(fH i (n-1-(i:Int)).toNat).length=(n-1-(i:Int)).toNat:=by simp only[fH,List.length_map,List.length_range]
   rw[e,List.length_append,e2]
   omega
theorem fW:dL n i=dL n i++fH i ((i:Int)+1-1-(i:Int)).toNat:=by
 rw[show((i:Int)+1-1-(i:Int)).toNat=0 by omega];simp[fH]
theorem gM(h:E=dL n i++fH i (kk-1-(i:Int)).toNat)(h1:(i:Int)+1<=kk):E++[((i:Int),kk)]=dL n i++fH i (kk+1-1-(i:Int)).toNat:=by
 rw[h,show(kk+1-1-(i:Int)).toNat=(kk-1-(i:Int)).toNat+1 by omega,List.append_assoc]
 congr 1
 simp only[fH,List.range_succ,List.map_append,List.map_cons,List.map_nil]
 congr 2
 refine congrArg (λz=>((i:Int),z)) ?_
 omega
theorem iH(h:E=dL n i++fH i (kk-1-(i:Int)).toNat)(h1:kk<=n)(h2:¬kk<n):E=dL n (i+1):=by
 rw[h,show kk=n by omega]
 unfold dL
 rw[List.range_succ,List.flatMap_append]
 simp
theorem iG(hn:n<=20)(hi:(i:Int)<n)(h:E=dL n i++fH i (kk-1-(i:Int)).toNat)(h1:kk<=n):E.length<=1000:=by
 have h3:=fD hn i
 have e2:(fH i (kk-1-(i:Int)).toNat).length=(kk-1-(i:Int)).toNat:=by simp only[fH,List.length_map,List.length_range]
 rw[h,List.length_append,e2]
 omega
theorem gJ(h:E=dL n i)(h0:(i:Int)<=n)(hi:¬(i:Int)<n):(n,E)=ep n:=by
 unfold ep;rw[h,show i=n.toNat by omega]
theorem yL(h0:1<=n)(h1:n<=20):0<=n*(n-1)/\n*(n-1)<=400:=⟨Int.mul_nonneg (by omega) (by omega),Int.le_trans (Int.mul_le_mul_of_nonneg_right h1 (by omega)) (by omega)⟩
end
end TL
/-
  TlSepB: what layer 15 answers of two nets.
  By an AI agent.
-/
set_option linter.all false
namespace TL
theorem xB:bp (ep 4)=(3,0):=by decide+kernel
theorem vJ:bn (c6 4)=([(0,2),(1,3)],0):=by decide+kernel
theorem xN:((aq (c6 4) 0 2).1.length:Int)=2/\(aq (c6 4) 0 2).2=0:=by decide+kernel
theorem xP:((aY (c6 4)).1.length:Int)=2/\(aY (c6 4)).2=0:=by decide+kernel
theorem wX:(bp (ep 4)).1=3/\(bp (ep 4)).2=0/\((bn (c6 4)).1.length:Int)=2/\gI (bn (c6 4)).1 1=(1,3)/\(bn (c6 4)).2=0/\((aq (c6 4) 0 2).1.length:Int)=2/\(aq (c6 4) 0 2).2=0/\((aY (c6 4)).1.length:Int)=2/\(aY (c6 4)).2=0:=
 ⟨by rw[xB],by rw[xB],by rw[vJ];rfl,by rw[vJ];rfl,by rw[vJ],xN.1,xN.2,xP.1,xP.2⟩
end TL
/-
  TlNil: a list that is none, compared.
  By an AI agent.
-/
set_option linter.all false
namespace TL
open Go
section
variable{P:Program}{w:World}{t t':TypeId}{f:Fr}{x y:Operand}{dst:Option Tmp}{ty:TypeId}{pos:String}{after:Array Edge}{g:Option (Nat×Bool)}
end
theorem mb{α:Type}[Rp α]{γ:aL}{J S:cC->Prop}{w:World}{v:Value}{xs:List α}{hi:Nat}(h:Ow γ J S w v xs)(h2:hi<=xs.length):Ow γ J S w (e9 v (Rp.sz α) 0 hi) (xs.take hi):=by
  rcases h with⟨rfl,rfl⟩|⟨b,cap,c,e,rfl,hc,hm,hJ,hb,hcs,hx⟩
  · simp only[List.length_nil] at h2
    have:hi=0:=by omega
    subst this
    exact .inl ⟨rfl,rfl⟩
  · have hl:(xs.take hi).length=hi:=by simp;omega
    refine .inr ⟨b,cap,c,e,?_,⟨by omega,by omega⟩,hm,hJ,hb,hcs,λi x hi'=>hx i x ?_⟩
    · rw[sX]
      simp only[hl]
    · rw[List.getElem?_take] at hi'
      split at hi'
      · exact hi'
      · cases hi'
end TL
/-
  TlKru: edges of the gK weight that join all that is joined (package path's Least): Kruskal's way by labels, and a forest of parents that agrees with the labels.
  By an AI agent.
-/
set_option linter.all false
namespace TL
def vv(ws:List Nat)(i:Int):Pl:=(zf (gI ws i),i)
def oh(ws:List Nat)(i k:Int):Prop:=rG (vv ws i) (vv ws k)
instance (ws:List Nat)(i k:Int):Decidable (oh ws i k):=by unfold oh;infer_instance
theorem lB(ws:List Nat)(i:Int):¬oh ws i i:=qk _
theorem yi{ws:List Nat}{i j k:Int}(h:oh ws i j)(h2:oh ws j k):oh ws i k:=by unfold oh rG vv at*;omega
theorem xq{ws:List Nat}{i j:Int}(h:¬oh ws i j)(h2:¬oh ws j i):i=j:=by
 have:=wP h h2
 exact congrArg Prod.snd this
theorem yo{ws:List Nat}{i j:Int}(h:oh ws i j):¬oh ws j i:=ya h
def nB(ws:List Nat)(x:Int):List Int->List Int
 |[]=>[x]
 |y::l=>if oh ws x y then x::y::l else y::nB ws x l
def fh(ws:List Nat):List Int:=(bG ws.length).foldr (nB ws) []
def qb(ws:List Nat)(l:List Int):Prop:=l.Pairwise λx y=>¬oh ws y x
theorem ka(ws:List Nat)(x:Int):∀l,(nB ws x l).Perm (x::l)
 |[]=>List.Perm.refl _
 |y::l=>by
   unfold nB;split
   · exact List.Perm.refl _
   · exact((ka ws x l).cons y).trans (List.Perm.swap x y l)
theorem oO{ws:List Nat}{x:Int}:∀{l},qb ws l->qb ws (nB ws x l)
 |[],_=>by unfold nB qb;simp
 |y::l,h=>by
   unfold qb at h ⊢
   obtain⟨h1,h2⟩:=List.pairwise_cons.1 h
   unfold nB;split
   · rename_i c
     refine List.pairwise_cons.2 ⟨λz hz=>?_,h⟩
     rcases List.mem_cons.1 hz with e|e
     · rw[e];exact yo c
     · intro k;exact h1 z e (yi k c)
   · rename_i c
     refine List.pairwise_cons.2 ⟨λz hz=>?_,oO h2⟩
     rcases List.mem_cons.1 ((ka ws x l).mem_iff.1 hz) with e|e
     · rw[e];exact c
     · exact h1 z e
theorem kV(ws:List Nat):∀l:List Int,(l.foldr (nB ws) []).Perm l/\qb ws (l.foldr (nB ws) [])
 |[]=>⟨List.Perm.refl _,List.Pairwise.nil⟩
 |x::l=>⟨(ka ws x _).trans ((kV ws l).1.cons x),oO (kV ws l).2⟩
theorem mf(ws:List Nat):(fh ws).Perm (bG ws.length):=(kV ws _).1
theorem xw(ws:List Nat):qb ws (fh ws):=(kV ws _).2
theorem nO(ws:List Nat):(fh ws).length=ws.length:=by rw[(mf ws).length_eq,eI]
theorem rK{ws:List Nat}{i:Int}:i∈fh ws↔0<=i/\i<(ws.length:Int):=by rw[(mf ws).mem_iff,cw]
theorem sO(ws:List Nat):(fh ws).Nodup:=(mf ws).nodup_iff.2 (ea _)
-- by labels
def yW(c:List Int)(a b:Int):List Int:=c.map λx=>if x=b then a else x
def yr(g:bh)(s:List Int×List Int)(i:Int):List Int×List Int:=
 if gI s.1 (gI g.2 i).1=gI s.1 (gI g.2 i).2 then s else(yW s.1 (gI s.1 (gI g.2 i).1) (gI s.1 (gI g.2 i).2),s.2++[i])
def o7(g:bh)(l:List Int):List Int×List Int:=l.foldl (yr g) (bG g.1.toNat,[])
theorem u5(g:bh)(l:List Int)(i:Int):o7 g (l++[i])=yr g (o7 g l) i:=by unfold o7;rw[List.foldl_append];rfl
variable{n:Int}{of0 of c:List Int}{rho:Int->Nat}{v v0:Int}
end TL
namespace TL
variable{g:bh}{ws:List Nat}{of l:List Int}{k:Nat}
theorem sx{α:Type}[Inhabited α]{xs:List α}{k:Nat}(h:(k:Int)<xs.length):xs.take (k+1)=xs.take k++[gI xs (k:Int)]:=by
 have hk:k<xs.length:=by omega
 rw[List.take_succ_eq_append_getElem hk]
 simp[gI,hk]
end TL
namespace TL
end TL
namespace TL
end TL
/-
  TlRef7L: the document's own Least, step by step: the gK edge not yet seen, labels, and what is told.
  By an AI agent.
-/
set_option linter.all false
namespace TL
variable{g:bh}{ws:List Nat}{c c2:List Int}{seen taken:List Bool}{i k:Nat}{a b at_:Int}
def gZ(ws:List Nat)(seen:List Bool):Nat->Int
 |0=> -1
 |k+1=>if gI seen (k:Int)=false/\(gZ ws seen k<0\/zf (gI ws (k:Int))<zf (gI ws (gZ ws seen k))) then(k:Int) else gZ ws seen k
theorem oc(ws:List Nat)(seen:List Bool):∀k,gZ ws seen k<k
 |0=>by unfold gZ;omega
 |k+1=>by
   have:=oc ws seen k
   unfold gZ;split<;>omega
theorem lN:∀k,gZ ws seen k<0->∀v:Nat,v<k->gI seen (v:Int)=true
 |0,_,v,hv=>by omega
 |k+1,h,v,hv=>by
   unfold gZ at h
   split at h
   · omega
   · rename_i d
     by_cases e:v=k
     · subst e
       cases hc:gI seen (v:Int) with
       |true=>rfl
       |false=>exact absurd ⟨hc,.inl h⟩ d
     · exact lN k h v (by omega)
theorem mu:∀k,¬gZ ws seen k<0->gI seen (gZ ws seen k)=false/\∀v:Nat,v<k->gI seen (v:Int)=false->¬oh ws v (gZ ws seen k)
 |0,h=>absurd (show(-1:Int)<0 by decide) h
 |k+1,h=>by
   unfold gZ at h ⊢
   by_cases d:gI seen (k:Int)=false/\(gZ ws seen k<0\/zf (gI ws (k:Int))<zf (gI ws (gZ ws seen k)))
   · rw[if_pos d]
     refine⟨d.1,λv hv hs=>?_⟩
     by_cases e:v=k
     · rw[e];exact lB _ _
     · by_cases c3:gZ ws seen k<0
       · have:=lN k c3 v (by omega)
         rw[this] at hs;cases hs
       · obtain⟨_,i2⟩:=mu k c3
         have h1:=i2 v (by omega) hs
         have h2:=d.2.resolve_left c3
         unfold oh rG vv at*
         simp only at*
         omega
   · rw[if_neg d] at h ⊢
     obtain⟨i1,i2⟩:=mu k h
     refine⟨i1,λv hv hs=>?_⟩
     by_cases e:v=k
     · subst e
       have h3:¬zf (gI ws (v:Int))<zf (gI ws (gZ ws seen v)):=λx=>d ⟨hs,.inr x⟩
       have h4:=oc ws seen v
       unfold oh rG vv
       simp only
       omega
     · exact i2 v (by omega) hs
structure vT(g:bh)(ws:List Nat)(c:List Int)(seen taken:List Bool)(i:Nat):Prop where
 lc:(c.length:Int)=g.1
 ls:(seen.length:Int)=g.2.length
 lt:(taken.length:Int)=g.2.length
 eq:c=(o7 g ((fh ws).take i)).1
 sn:∀k:Int,0<=k->k<g.2.length->(gI seen k=true↔k∈(fh ws).take i)
 tk:∀k:Int,0<=k->k<g.2.length->(gI taken k=true↔k∈(o7 g ((fh ws).take i)).2)
theorem vT.start(hm:b7 g)(hc:c=bG g.1.toNat):vT g ws c (List.replicate (Int.toNat (g.2.length:Int)) false) (List.replicate (Int.toNat (g.2.length:Int)) false) 0:=by
 have h0:=hm.1
 refine⟨by rw[hc,eI];omega,by simp,by simp,by rw[hc,List.take_zero];rfl,λk h0 h1=>?_,λk h0 h1=>?_⟩
 · rw[r3 h0 (by omega),List.take_zero];simp
 · rw[r3 h0 (by omega),List.take_zero];simp[o7]
theorem vT.at(h:vT g ws c seen taken i)(hwl:ws.length=g.2.length)(hi:(i:Int)<g.2.length):gZ ws seen g.2.length=gI (fh ws) (i:Int):=by
 have hol:=nO ws
 have hlt:i<(fh ws).length:=by omega
 obtain⟨x,ex⟩:∃x,x=gI (fh ws) (i:Int):=⟨_,rfl⟩
 have ex2:x=(fh ws)[i]:=by rw[ex];simp[gI,hlt]
 have hx:=rK.1 (show x∈fh ws by rw[ex2];exact List.getElem_mem hlt)
 have hnd:=sO ws
 have hsplit:fh ws=(fh ws).take i++x::(fh ws).drop (i+1):=by
   rw[ex2,<-List.drop_eq_getElem_cons hlt,List.take_append_drop]
 have hxn:x∉(fh ws).take i:=by
   rw[hsplit] at hnd
   intro k
   have:=(List.nodup_append.1 hnd).2.2 x k x (List.mem_cons_self ..)
   exact this rfl
 have hxs:gI seen x=false:=by
   cases hc:gI seen x with
   |false=>rfl
   |true=>exact absurd ((h.sn x hx.1 (by omega)).1 hc) hxn
 obtain⟨n,en⟩:∃n:Nat,x=n:=⟨x.toNat,by omega⟩
 have hneg:¬gZ ws seen g.2.length<0:=by
   intro k
   have:=lN g.2.length k n (by omega)
   rw[<-en,hxs] at this;cases this
 obtain⟨m1,m2⟩:=mu g.2.length hneg
 have hlt2:=oc ws seen g.2.length
 obtain⟨y,ey⟩:∃y,y=gZ ws seen g.2.length:=⟨_,rfl⟩
 rw[<-ey] at m1 m2 hlt2 hneg ⊢
 have k1:¬oh ws x y:=by rw[en];exact m2 n (by omega) (by rw[<-en];exact hxs)
 have hy:y∈fh ws:=rK.2 ⟨by omega,by omega⟩
 have hyn:y∉(fh ws).take i:=by
   intro k
   have:=(h.sn y (by omega) (by omega)).2 k
   rw[m1] at this;cases this
 have k2:¬oh ws y x:=by
   rw[hsplit] at hy
   rcases List.mem_append.1 hy with k|k
   · exact absurd k hyn
   · rcases List.mem_cons.1 k with k|k
     · rw[k];exact lB _ _
     · have hs:=xw ws
       unfold qb at hs
       rw[hsplit] at hs
       exact(List.pairwise_cons.1 (List.pairwise_append.1 hs).2.1).1 y k
 rw[<-ex]
 exact xq k2 k1
theorem pU(hwl:ws.length=g.2.length)(hi:(i:Int)<g.2.length):(fh ws).take (i+1)=(fh ws).take i++[gI (fh ws) (i:Int)]:=sx (by rw[nO];omega)
theorem seen_next(h:vT g ws c seen taken i)(hwl:ws.length=g.2.length)(hi:(i:Int)<g.2.length)(ha:at_=gI (fh ws) (i:Int))(a0:0<=at_)(a1:at_<g.2.length)(k:Int)(k0:0<=k)(k1:k<g.2.length):gI (seen.set at_.toNat true) k=true↔k∈(fh ws).take (i+1):=by
 rw[pU hwl hi,<-ha,List.mem_append,List.mem_singleton,c5 a0 (by have:=h.ls;omega) k0]
 by_cases e:k=at_
 · rw[if_pos e];simp[e]
 · rw[if_neg e,h.sn k k0 k1];simp[e]
theorem vT.same(h:vT g ws c seen taken i)(hwl:ws.length=g.2.length)(hi:(i:Int)<g.2.length)(ha:at_=gI (fh ws) (i:Int))(a0:0<=at_)(a1:at_<g.2.length)(e:gI c (gI g.2 at_).1=gI c (gI g.2 at_).2):vT g ws c (seen.set at_.toNat true) taken (i+1):=by
 have e2:o7 g ((fh ws).take (i+1))=o7 g ((fh ws).take i):=by
   rw[pU hwl hi,u5,<-ha]
   unfold yr
   rw[<-h.eq,if_pos e]
 exact⟨h.lc,by rw[List.length_set];exact h.ls,h.lt,by rw[e2];exact h.eq,seen_next h hwl hi ha a0 a1,by rw[e2];exact h.tk⟩
theorem vT.all(h:vT g ws c seen taken i)(hwl:ws.length=g.2.length)(hi:¬(i:Int)<g.2.length)(k:Int)(k0:0<=k)(k1:k<g.2.length):gI taken k=true↔k∈(o7 g (fh ws)).2:=by
 have:=h.tk k k0 k1
 rw[List.take_of_length_le (by rw[nO];omega)] at this
 exact this
end TL
/-
  TlOnes: ways of weights 1, 0 and of none: as a walk breadth first goes.
  By an AI agent.
-/
set_option linter.all false
namespace TL
variable{g g1 g2:bh}{ws w1 w2:List Nat}{s v:Int}{f1 f2 far:List Nat}{b1 b2 by_:List Int}{r1 r2 rk:Int->Nat}{C:Nat}
end TL
namespace TL
variable{g:bh}{s:Int}
end TL
namespace TL
open Go
theorem yf{P:Program}{f:Fr}{w:World}{dst:Option Tmp}{ty:TypeId}{pos:String}{after:Array Edge}{g:Option (Nat×Bool)}{t t':TypeId}{x y:Operand}{op:BinOp}{k:IntKind}{m n r:Int}(hx:ev f x= .int k m)(hy:ev f y= .int k n)(h:binOp op t (.int k m) (.int k n)=pure (.int k r)):(execOp (ev f) ⟨dst,.binOp op t x y t',ty,pos,after,g⟩).run P w= .ok (.value (.int k r)) w:=
 cN op x y hx hy (by rw[h];rfl)
end TL
namespace TL
variable{g:bh}{s v:Int}{on ze so:List Nat}{op:List Int}{i:Nat}
end TL
/-
  TlPerm: several new objects that are made in whatever order is drawn: all orders end alike.
  By an AI agent.
-/
set_option linter.all false
namespace TL
open Go
def mG(f:Fr)(val:Nat->Value)(S:List Nat):Fr:=λt=>bif S.contains t then val t else f t
theorem sv{f:Fr}{val:Nat->Value}{S S':List Nat}(h:∀t,t∈S↔t∈S'):mG f val S=mG f val S':=by
 funext t
 unfold mG
 have:S.contains t=S'.contains t:=by
   rw[Bool.eq_iff_iff]
   simp only[List.contains_iff_mem];exact h t
 rw[this]
theorem wl{f:Fr}{val:Nat->Value}{S:List Nat}{d:Nat}{v:Value}(hd:d∉S):g0 (mG f val S) (some d) v=mG f (λt=>if t=d then v else val t) (d::S):=by
 funext t
 unfold g0 mG
 simp only
 by_cases c:t=d
 · subst c
   have e1:(t::S).contains t=true:=by simp
   rw[e1,Nat.beq_refl];simp
 · have e1:Nat.beq t d=false:=by
     cases h:Nat.beq t d with
     |false=>rfl
     |true=>exact absurd (Nat.eq_of_beq_eq_true h) c
   have e2:(d::S).contains t=S.contains t:=by
     rw[Bool.eq_iff_iff]
     simp[c]
   rw[e1,e2,if_neg c];rfl
def oW{α:Type}:List α->List (List α)
 |[]=>[[]]
 |a::l=>oW l++(oW l).map (a:: ·)
theorem kF{α:Type}(p:α->Bool):∀l:List α,l.filter p∈oW l
 |[]=>List.mem_singleton.2 rfl
 |a::l=>by
   have ih:=kF p l
   unfold oW
   rw[List.filter_cons]
   split
   · exact List.mem_append_right _ (List.mem_map.2 ⟨_,ih,rfl⟩)
   · exact List.mem_append_left _ ih
theorem j8:∀(D A:List (Nat×Nat)),D.Nodup->(∀p∈D,p∈A)->D.length<=A.length
 |[],A,_,_=>Nat.zero_le _
 |a::D,A,hn,hs=>by
   have hn':=List.nodup_cons.1 hn
   have ha:=hs a (List.mem_cons_self ..)
   have h3:=j8 D (A.erase a) hn'.2 (λx hx=>by
     have hne:x≠a:=λe=>hn'.1 (by rw[<-e];exact hx)
     exact(List.mem_erase_of_ne hne).2 (hs x (List.mem_cons_of_mem _ hx)))
   have h4:=List.length_erase_of_mem ha
   have h5:=List.length_pos_of_mem ha
   rw[List.length_cons];omega
theorem mt:∀{A:List (Nat×Nat)},(A.map Prod.fst).Nodup->A.Nodup
 |[],_=>List.nodup_nil
 |a::A,h=>by
   rw[List.map_cons,List.nodup_cons] at h
   exact List.nodup_cons.2 ⟨λk=>h.1 (List.mem_map.2 ⟨a,k,rfl⟩),mt h.2⟩
theorem mF{A:List (Nat×Nat)}(h:(A.map Prod.snd).Nodup){p q:Nat×Nat}(hp:p∈A)(hq:q∈A)(e:p.2=q.2):p=q:=by
 induction A with
 |nil=>exact absurd hp List.not_mem_nil
 |cons a A ih=>
   rw[List.map_cons,List.nodup_cons] at h
   rcases List.mem_cons.1 hp with e1|e1
   · rcases List.mem_cons.1 hq with e2|e2
     · rw[e1,e2]
     · exact absurd (List.mem_map.2 ⟨q,e2,by rw[<-e,e1]⟩) h.1
   · rcases List.mem_cons.1 hq with e2|e2
     · exact absurd (List.mem_map.2 ⟨p,e1,by rw[e,e2]⟩) h.1
     · exact ih h.2 e1 e2
section
variable{P:Program}{n:Nat}{l:List Oper}{qs:List Nat}{K:Fr->World->Prop}{f:Fr}{w:World}{done:List Nat}{fuel:Nat}
theorem lS{n:Nat}{d d':List Nat}(h:∀t,t∈d↔t∈d'):ch n d=ch n d':=by
 unfold ch
 congr 1
 apply List.map_congr_left
 intro t _
 rw[decide_eq_decide];exact h t
theorem sh{done':List Nat}(h:∀t,t∈done↔t∈done')(hw:jn P n l qs K fuel done f w):jn P n l qs K fuel done' f w:=by
 unfold jn at*
 rw[<-lS h];exact hw
def vr(dep:Nat->List Nat)(D:List (Nat×Nat)):Bool:=D.all λp=>(dep p.2).all λt=>(D.map Prod.snd).contains t
def oz(dep:Nat->List Nat)(A D:List (Nat×Nat)):List (Nat×Nat):=A.filter λp=> !(D.map Prod.fst).contains p.1&&(dep p.2).all λt=>(D.map Prod.snd).contains t
def zL(l:List Oper)(done:List Nat)(dep:Nat->List Nat)(A:List (Nat×Nat)):Bool:=(oW A).all λD=>decide (D.length=A.length)||(vr dep D).not||(decide (Region.ready .any l.toArray (ch l.length (D.map Prod.fst++done))=(oz dep A D).map Prod.fst)&& !(oz dep A D).isEmpty)
theorem xV(A:List (Nat×Nat))(dep:Nat->List Nat)(Φ:Nat->List Value->aL->World->Value->Prop)(γ:aL)
    (hst:∀p∈A,∀vs γ w γ' w' v,bI no γ w γ' w'->Φ p.2 vs γ w v->Φ p.2 vs γ' w' v)
    (hnd:(A.map Prod.snd).Nodup)(hnf:(A.map Prod.fst).Nodup)
    (hrd:zL l done dep A=true)
    (hop:∀p∈A,qs.contains p.1=false/\∃o,l[p.1]? =some o/\o.dst=some p.2/\kz n o=true/\∀(f':Fr) (val:Nat->Value),(∀t,(A.map Prod.snd).contains t=false->f' t=f t)->(∀t∈dep p.2,f' t=val t)->cR l o f'=true/\∀γ w,(∀t∈dep p.2,Φ t ((dep t).map val) γ w (val t))->fv P o f' w λv w'=>∃γ',bI no γ w γ' w'/\Φ p.2 ((dep p.2).map val) γ' w' v)
    (hk:∀val γ' w',bI no γ w γ' w'->(∀p∈A,Φ p.2 ((dep p.2).map val) γ' w' (val p.2))->jn P n l qs K fuel (A.map Prod.fst++done) (mG f val (A.map Prod.snd)) w'):jn P n l qs K (fuel+A.length) done f w:=by
  have main:∀(m:Nat) (D:List (Nat×Nat)) (val:Nat->Value) (γ':aL) (w':World),D.Nodup->(∀p∈D,p∈A)->(∀p∈D,∀t∈dep p.2,t∈D.map Prod.snd)->D.length+m=A.length->bI no γ w γ' w'->(∀p∈D,Φ p.2 ((dep p.2).map val) γ' w' (val p.2))->jn P n l qs K (fuel+m) (D.map Prod.fst++done) (mG f val (D.map Prod.snd)) w':=by
    have hAn:A.Nodup:=mt hnf
    intro m
    induction m with
    |zero=>
      intro D val γ' w' hD hsub hcl hl hc hF
      have hmem:∀p,p∈A↔p∈D:=by
        intro p
        refine⟨λhp=>?_,hsub p⟩
        by_cases c:p∈D
        · exact c
        · exfalso
          have:=j8 (p::D) A (List.nodup_cons.2 ⟨c,hD⟩) (λq hq=>(List.mem_cons.1 hq).elim (λe=>by rw[e];exact hp) (hsub q))
          rw[List.length_cons] at this;omega
      have h1:=hk val γ' w' hc (λp hp=>hF p ((hmem p).1 hp))
      have e1:∀t,t∈A.map Prod.fst++done↔t∈D.map Prod.fst++done:=λt=>by
        simp only[List.mem_append,List.mem_map]
        constructor
        · rintro(⟨p,hp,rfl⟩|h)
          · exact .inl ⟨p,(hmem p).1 hp,rfl⟩
          · exact .inr h
        · rintro(⟨p,hp,rfl⟩|h)
          · exact .inl ⟨p,(hmem p).2 hp,rfl⟩
          · exact .inr h
      have e2:mG f val (A.map Prod.snd)=mG f val (D.map Prod.snd):=sv λt=>by
        simp only[List.mem_map]
        constructor
        · rintro⟨p,hp,rfl⟩;exact⟨p,(hmem p).1 hp,rfl⟩
        · rintro⟨p,hp,rfl⟩;exact⟨p,(hmem p).2 hp,rfl⟩
      rw[e2] at h1
      exact sh e1 h1
    |succ m ih=>
      intro D val γ' w' hD hsub hcl hl hc hF
      let D':=A.filter λp=>decide (p∈D)
      have hD':∀p,p∈D'↔p∈D:=λp=>by
        show p∈A.filter _↔_
        rw[List.mem_filter,decide_eq_true_iff]
        exact⟨λh=>h.2,λh=>⟨hsub p h,h⟩⟩
      have hD1:∀t,t∈D'.map Prod.fst↔t∈D.map Prod.fst:=λt=>by
        simp only[List.mem_map]
        exact⟨λ⟨p,hp,e⟩=>⟨p,(hD' p).1 hp,e⟩,λ⟨p,hp,e⟩=>⟨p,(hD' p).2 hp,e⟩⟩
      have hD2:∀t,t∈D'.map Prod.snd↔t∈D.map Prod.snd:=λt=>by
        simp only[List.mem_map]
        exact⟨λ⟨p,hp,e⟩=>⟨p,(hD' p).1 hp,e⟩,λ⟨p,hp,e⟩=>⟨p,(hD' p).2 hp,e⟩⟩
      have hlD:D'.length≠A.length:=by
        have h1:=j8 D' D (hAn.filter _) (λp hp=>(hD' p).1 hp)
        omega
      have hcD:vr dep D'=true:=by
        unfold vr
        simp only[List.all_eq_true,List.contains_iff_mem]
        exact λp hp t ht=>(hD2 t).2 (hcl p ((hD' p).1 hp) t ht)
      have hr0:=List.all_eq_true.1 hrd D' (kF _ A)
      rw[decide_eq_false hlD,hcD] at hr0
      simp only[Bool.not_true,Bool.or_false,Bool.false_or,Bool.and_eq_true] at hr0
      obtain⟨hr1,hne⟩:=hr0
      have hr:=of_decide_eq_true hr1
      have em:ch l.length (D'.map Prod.fst++done)=ch l.length (D.map Prod.fst++done):=lS λt=>by
        simp only[List.mem_append];rw[hD1 t]
      rw[em] at hr
      have hnx:∀p,p∈oz dep A D'->p∈A/\p∉D/\∀t∈dep p.2,t∈D.map Prod.snd:=λp hp=>by
        unfold oz at hp
        rw[List.mem_filter,Bool.and_eq_true,List.all_eq_true] at hp
        obtain⟨h1,h2,h3⟩:=hp
        refine⟨h1,λk=>?_,λt ht=>(hD2 t).1 (List.contains_iff_mem.1 (h3 t ht))⟩
        have:p.1∈D'.map Prod.fst:=List.mem_map.2 ⟨p,(hD' p).2 k,rfl⟩
        simp[this] at h2
      intro a ha
      refine⟨λh0=>?_,λk hk2=>?_⟩
      · rw[hr] at h0
        have h5:oz dep A D'=[]:=List.map_eq_nil_iff.1 h0
        rw[h5] at hne;cases hne
      · rw[hr] at hk2
        obtain⟨p,hp0,rfl⟩:=List.mem_map.1 hk2
        obtain⟨hp,hpD,hdp⟩:=hnx p hp0
        obtain⟨hq,o,hi,hdst,hdk,ho⟩:=hop p hp
        have hlt:p.1<l.length:=(List.getElem?_eq_some_iff.1 hi).1
        have hq':decide (p.1∈qs)=false:=by simpa using hq
        have hd2:p.2∉D.map Prod.snd:=by
          intro k
          obtain⟨q,hq2,e⟩:=List.mem_map.1 k
          have:q=p:=mF hnd (hsub q hq2) hp e
          rw[this] at hq2;exact hpD hq2
        obtain⟨hw1,hw2⟩:=ho (mG f val (D.map Prod.snd)) val (λt ht=>by
          unfold mG
          have:(D.map Prod.snd).contains t=false:=by
            cases hc2:(D.map Prod.snd).contains t with
            |false=>rfl
            |true=>
              obtain⟨q,hq2,e⟩:=List.mem_map.1 (List.contains_iff_mem.1 hc2)
              have:(A.map Prod.snd).contains t=true:=List.contains_iff_mem.2 (List.mem_map.2 ⟨q,hsub q hq2,e⟩)
              rw[this] at ht;cases ht
          rw[this];rfl) (λt ht=>by
          unfold mG
          rw[List.contains_iff_mem.2 (hdp t ht)];rfl)
        simp only[hq',Bool.false_eq_true,if_false]
        refine fz ha hi hw1 (hw2 γ' w' (λt ht=>?_)) λv w2 ⟨γ2,c2,h2⟩=>?_
        · obtain⟨q,hq2,e⟩:=List.mem_map.1 (hdp t ht)
          rw[<-e];exact hF q hq2
        rw[dj _ hlt]
        have hc2:bI no γ w γ2 w2:=hc.trans c2 (λ_ _ h=>h.elim id id)
        have hval:∀q:Nat×Nat,(∀t∈dep q.2,t∈D.map Prod.snd)->(dep q.2).map (λt=>if t=p.2 then v else val t)=(dep q.2).map val:=λq hq2=>List.map_congr_left λt ht=>by
          rw[if_neg]
          intro e
          exact hd2 (by rw[<-e];exact hq2 t ht)
        have hnext:=ih (p::D) (λt=>if t=p.2 then v else val t) γ2 w2 (List.nodup_cons.2 ⟨hpD,hD⟩) (λq hq2=>(List.mem_cons.1 hq2).elim (λe=>by rw[e];exact hp) (hsub q)) (λq hq2 t ht=>by
          rw[List.map_cons]
          rcases List.mem_cons.1 hq2 with e|e
          · rw[e] at ht;exact List.mem_cons_of_mem _ (hdp t ht)
          · exact List.mem_cons_of_mem _ (hcl q e t ht)) (by rw[List.length_cons];omega) hc2 (λq hq2=>by
          rcases List.mem_cons.1 hq2 with e|e
          · rw[e,if_pos rfl,hval p hdp];exact h2
          · have hne:q.2≠p.2:=λk=>hd2 (by rw[<-k];exact List.mem_map.2 ⟨q,e,rfl⟩)
            rw[if_neg hne,hval q (hcl q e)]
            exact hst q (hsub q e) _ _ _ _ _ _ c2 (hF q e))
        have ef:g0 (mG f val (D.map Prod.snd)) o.dst v=mG f (λt=>if t=p.2 then v else val t) ((p::D).map Prod.snd):=by
          rw[hdst,wl hd2];rfl
        have:=hnext (a.put o.dst v) (by rw[<-ef];exact ha.put hdk v)
        exact this
  have h0:=main A.length [] (λ_=>undef) γ w List.nodup_nil (λp hp=>absurd hp List.not_mem_nil) (λp hp=>absurd hp List.not_mem_nil) (by simp) (bI.refl _ _ _) (λp hp=>absurd hp List.not_mem_nil)
  have e0:mG f (λ_=>undef) (([]:List (Nat×Nat)).map Prod.snd)=f:=by
    funext t;rfl
  rw[e0] at h0
  exact h0
end
end TL
namespace TL
open Go
structure Mk where
  op:Nat
  slot:Nat
  dep:List Nat
  ok:List Value->aL->World->Value->Prop
def x9:List Mk->Prop
 |[]=>True
 |p::r=>(∀vs γ w γ' w' v,bI no γ w γ' w'->p.ok vs γ w v->p.ok vs γ' w' v)/\x9 r
def gG:List Mk->Nat->List Nat
 |[],_=>[]
 |p::r,t=>bif Nat.beq t p.slot then p.dep else gG r t
def kO:List Mk->Nat->List Value->aL->World->Value->Prop
 |[],_=>λ_ _ _ _=>False
 |p::r,t=>bif Nat.beq t p.slot then p.ok else kO r t
def wU(P:Program)(n:Nat)(l:List Oper)(qs:List Nat)(f:Fr)(L:List Mk)(S:List Nat):List Mk->Prop
  |[]=>True
  |p::r=>(qs.contains p.op=false/\∃o,l[p.op]? =some o/\o.dst=some p.slot/\kz n o=true/\∀(f':Fr) (val:Nat->Value),(∀t,S.contains t=false->f' t=f t)->(∀t∈p.dep,f' t=val t)->cR l o f'=true/\∀γ w,(∀t∈p.dep,kO L t ((gG L t).map val) γ w (val t))->fv P o f' w λv w'=>∃γ',bI no γ w γ' w'/\p.ok (p.dep.map val) γ' w' v)/\wU P n l qs f L S r
theorem x9.mem{L:List Mk}(h:x9 L):∀p∈L,∀vs γ w γ' w' v,bI no γ w γ' w'->p.ok vs γ w v->p.ok vs γ' w' v:=by
 induction L with
 |nil=>intro p hp;exact absurd hp List.not_mem_nil
 |cons a L ih=>
   intro p hp
   rcases List.mem_cons.1 hp with e|e
   · rw[e];exact h.1
   · exact ih h.2 p e
theorem mV{a b:Nat}(h:a≠b):Nat.beq a b=false:=by
 cases k:Nat.beq a b with
 |false=>rfl
 |true=>exact absurd (Nat.eq_of_beq_eq_true k) h
theorem jZ:∀{L:List Mk},(L.map Mk.slot).Nodup->∀p∈L,gG L p.slot=p.dep/\kO L p.slot=p.ok
 |[],_,p,hp=>absurd hp List.not_mem_nil
 |a::L,h,p,hp=>by
   rw[List.map_cons,List.nodup_cons] at h
   rcases List.mem_cons.1 hp with e|e
   · rw[e];unfold gG kO;rw[Nat.beq_refl];exact⟨rfl,rfl⟩
   · have hne:p.slot≠a.slot:=λk=>h.1 (by rw[<-k];exact List.mem_map.2 ⟨p,e,rfl⟩)
     unfold gG kO
     rw[mV hne];exact jZ h.2 p e
def kD(K:Fr->Prop)(γ:aL)(w:World):List Mk->List (Nat×Value)->Fr->Prop
  |[],_,f=>K f
  |p::r,env,f=>∀v,p.ok (p.dep.map λt=>(env.lookup t).getD undef) γ w v->kD K γ w r ((p.slot,v)::env) (g0 f (some p.slot) v)
def rq:List Mk->List Nat->Bool
 |[],_=>true
 |p::r,S=>(p.dep.all λt=>S.contains t)&&rq r (p.slot::S)
theorem u3{f:Fr}{val:Nat->Value}{d:Nat}{S:List Nat}:mG (g0 f (some d) (val d)) val S=mG f val (d::S):=by
 funext t
 unfold mG g0
 simp only
 by_cases c:t=d
 · subst c
   have e1:(t::S).contains t=true:=by simp
   rw[e1,Nat.beq_refl];cases S.contains t<;>rfl
 · have e1:Nat.beq t d=false:=mV c
   have e2:(d::S).contains t=S.contains t:=by
     rw[Bool.eq_iff_iff]
     simp[c]
   rw[e1,e2];rfl
theorem kD.use{K:Fr->Prop}{γ:aL}{w:World}{val:Nat->Value}:∀{L:List Mk} {env:List (Nat×Value)} {f:Fr},kD K γ w L env f->(∀t∈env.map Prod.fst,(env.lookup t).getD undef=val t)->rq L (env.map Prod.fst)=true->(∀p∈L,p.ok (p.dep.map val) γ w (val p.slot))->K (mG f val (L.map Mk.slot))
 |[],_,f,h,_,_,_=>by
   have:mG f val (([]:List Mk).map Mk.slot)=f:=by funext t;rfl
   rw[this];exact h
 |p::L,env,f,h,he,ht,hF=>by
   unfold rq at ht
   rw[Bool.and_eq_true,List.all_eq_true] at ht
   have e1:p.dep.map (λt=>(env.lookup t).getD undef)=p.dep.map val:=List.map_congr_left λt h1=>he t (List.contains_iff_mem.1 (ht.1 t h1))
   have h2:=h (val p.slot) (by rw[e1];exact hF p (List.mem_cons_self ..))
   have:=kD.use h2 (λt h3=>by
     rw[List.lookup_cons]
     by_cases c:t=p.slot
     · rw[c];simp
     · have:(t==p.slot)=false:=by simpa using c
       rw[this]
       exact he t ((List.mem_cons.1 h3).resolve_left c)) ht.2 (λq hq=>hF q (List.mem_cons_of_mem _ hq))
   rw[u3] at this;exact this
section
variable{P:Program}{n:Nat}{l:List Oper}{qs:List Nat}{K:Fr->World->Prop}{f:Fr}{w:World}{done:List Nat}{fuel:Nat}{S:List Nat}
theorem wU.mem{L M:List Mk}(h:wU P n l qs f M S L):∀p∈L,qs.contains p.op=false/\∃o,l[p.op]? =some o/\o.dst=some p.slot/\kz n o=true/\∀(f':Fr) (val:Nat->Value),(∀t,S.contains t=false->f' t=f t)->(∀t∈p.dep,f' t=val t)->cR l o f'=true/\∀γ w,(∀t∈p.dep,kO M t ((gG M t).map val) γ w (val t))->fv P o f' w λv w'=>∃γ',bI no γ w γ' w'/\p.ok (p.dep.map val) γ' w' v:=by
 induction L with
 |nil=>intro p hp;exact absurd hp List.not_mem_nil
 |cons a L ih=>
   intro p hp
   rcases List.mem_cons.1 hp with e|e
   · rw[e];exact h.1
   · exact ih h.2 p e
theorem fv.mono{o:Oper}{N N':Value->World->Prop}(h:fv P o f w N)(hN:∀v w,N v w->N' v w):fv P o f w N':=by
 unfold fv at*
 generalize(execOp (ev f) o).run P w=r at*
 cases r with
 |halt x w'=>exact h.elim
 |ok nx w'=>
   cases nx<;>simp only[s5] at h ⊢
   case value v=>exact hN _ _ h
   case skip=>exact hN _ _ h
   case enter g args=>
     refine h.mono λe w'' he=>?_
     cases e with
     |returned v=>exact hN _ _ he
     |panicked c=>exact he.elim
     |outgrown=>exact he.elim
theorem wA(γ:aL)(L:List Mk)(A:List (Nat×Nat))(fu:Nat)(hA:L.map (λp=>(p.op,p.slot))=A)(hst:x9 L)(hnd0:(A.map Prod.snd).Nodup)(hnf:(A.map Prod.fst).Nodup)
    (hrd:zL l done (gG L) A=true)(htp:rq L []=true)
    (hfu:fu=fuel+A.length)(hop:wU P n l qs f L (A.map Prod.snd) L)
    (hk:∀γ' w',bI no γ w γ' w'->kD (λf'=>jn P n l qs K fuel (A.map Prod.fst++done) f' w') γ' w' L [] f):jn P n l qs K fu done f w:=by
  subst hfu
  have e1:A.map Prod.snd=L.map Mk.slot:=by rw[<-hA,List.map_map];rfl
  have hnd:(L.map Mk.slot).Nodup:=by rw[<-e1];exact hnd0
  refine xV A (gG L) (kO L) γ (λq hq=>?_) hnd0 hnf hrd (λq hq=>?_) (λval γ' w' hc hF=>?_)
  · rw[<-hA] at hq
    obtain⟨p,hp,rfl⟩:=List.mem_map.1 hq
    intro vs γ w γ' w' v hc
    show kO L p.slot vs γ w v->kO L p.slot vs γ' w' v
    rw[(jZ hnd p hp).2];exact hst.mem p hp vs γ w γ' w' v hc
  · rw[<-hA] at hq
    obtain⟨p,hp,rfl⟩:=List.mem_map.1 hq
    obtain⟨a,o,b,c,d,e⟩:=hop.mem p hp
    show qs.contains p.op=false/\∃o,l[p.op]? =some o/\o.dst=some p.slot/\kz n o=true/\∀(f':Fr) (val:Nat->Value),(∀t,(A.map Prod.snd).contains t=false->f' t=f t)->(∀t∈gG L p.slot,f' t=val t)->cR l o f'=true/\∀γ w,(∀t∈gG L p.slot,kO L t ((gG L t).map val) γ w (val t))->fv P o f' w λv w'=>∃γ',bI no γ w γ' w'/\kO L p.slot ((gG L p.slot).map val) γ' w' v
    rw[(jZ hnd p hp).1,(jZ hnd p hp).2]
    exact⟨a,o,b,c,d,e⟩
  · have h1:=(hk γ' w' hc).use (val:=val) (λt ht=>absurd ht List.not_mem_nil) htp (λp hp=>by
      have:=hF (p.op,p.slot) (by rw[<-hA];exact List.mem_map.2 ⟨p,hp,rfl⟩)
      have h2:kO L p.slot ((gG L p.slot).map val) γ' w' (val p.slot):=this
      rw[(jZ hnd p hp).1,(jZ hnd p hp).2] at h2;exact h2)
    rw[e1];exact h1
theorem vj{o:Oper}{v:Value}{N:Value->World->Prop}(h:(execOp (ev f) o).run P w= .ok (.value v) w)(hk:N v w):fv P o f w N:=by unfold fv;rw[h];exact hk
end
theorem iQ{t:Nat}{l:List Nat}(h:l.contains t=true):t∈l:=List.contains_iff_mem.1 h
theorem ph{f:Fr}{i:Nat}{x:Operand}{xs:List (Nat×Operand)}{v:Value}{vs:List (Nat×Value)}(h:ev f x=v)(h2:xs.map (λx=>(x.1,ev f x.2))=vs):((i,x)::xs).map (λx=>(x.1,ev f x.2))=(i,v)::vs:=by subst h h2;rfl
end TL
/-
  TlPost: what is owed behind a law that returns true and writes nothing of the caller's.
  By an AI agent.
-/
namespace TL
open Go Go.Proofs Go.ChangeShapes Go.WideShapes Go.RowKit
def re(P:Program)(ts:List TypeId):Bool:=ts.all λt=>P.readableRec t&&decide (t<P.types.size)
theorem mX{H:Type}{enc:TypeId×Value->H}{P:Program}(hl:laidOutB P=true){W W':World}(hb:Below W.heap.size W W')(sp:Nat->Bool):
   ∀{ts:List TypeId} {vs:List Value} {ds:List (DataW H)} {ps:List MemPlace},re P ts=true->DataW.TrodAll enc P W 0 (λ_=>true) true ts vs ds ps->(∀p∈ps,p.block<W.heap.size)->(∀p∈ps,sp p.block=true)->DataW.TrodAll enc P W' 0 sp true ts vs ds ps
 |[],[],[],_,_,h,_,_=>h
 |[],[],_::_,_,_,h,_,_=>h.elim
 |[],_::_,_,_,_,h,_,_=>by cases‹List (DataW H)›<;>exact h.elim
 |_::_,[],_,_,_,h,_,_=>by cases‹List (DataW H)›<;>exact h.elim
 |_::_,_::_,[],_,_,h,_,_=>h.elim
 |t::ts,v::vs,d::ds,ps,hr,h,hlt,hsp=>by
   obtain⟨p,q,h1,h2,rfl⟩:=h
   simp only[re,List.all_cons,Bool.and_eq_true,decide_eq_true_eq] at hr
   exact⟨p,q,WideElems.Trod_stays hl hr.1.1 hr.1.2 h1 (λx hx=>hb.same (hlt x (by simp[hx]))) (λx hx=>hsp x (by simp[hx])),
     mX hl hb sp hr.2 h2 (λx hx=>hlt x (by simp[hx])) (λx hx=>hsp x (by simp[hx])),rfl⟩
theorem tj{H:Type}{enc:TypeId×Value->H}{P:Program}{f:Func}{s:ChangeSpec}{W W':World}{args:Array Value}{ds gs:List (DataW H)}{before:List MemPlace}{tb:TypeId}
   (hl:laidOutB P=true)(hr:re P f.params.toList=true)(hv:s.vars=[])(hrt:f.resultTypes= #[tb])(htb:P.underlying tb=some .bool)
   (hW:DataW.Whole enc P f.params.toList s.vars false W args.toList ds gs before)(hfn:s.fn H (ds++gs)={results:=[.lit (.bool true)],args:=ds})(hB:Below W.heap.size W W'):
   s.post enc P f false true false false W args (.bool true) W':=by
 have hlt:=hW.lt
 have hW0:=hW
 obtain⟨p,q,hA,hV,rfl,hfz,_⟩:=hW
 rw[hv] at hV
 obtain⟨rfl,rfl⟩:=trodVars_none hV
 simp only[List.append_nil] at hlt hfz hW0 hfn
 have hres:∀(b:Nat) (sp:Nat->Bool) (hd:Bool),DataW.TrodAll enc P W' b sp hd f.resultTypes.toList ((Value.bool true).resultList f.resultTypes.size) (s.fn H (ds++[])).results []:=λb sp hd=>by
   rw[hrt,List.append_nil,hfn]
   exact trodAll_cons_mk (shut_bool htb true) trodAll_mk0
 have hargs:∀sp:Nat->Bool,(∀x∈p,sp x.block=true)->DataW.TrodAll enc P W' 0 sp true f.params.toList args.toList (s.fn H (ds++[])).args p:=λsp hsp=>by
   rw[List.append_nil,hfn]
   exact mX hl hB sp hr hA hlt hsp
 have hvars:∀sp:Nat->Bool,DataW.TrodVars enc P W' sp s.vars (s.fn H (ds++[])).vars []:=λsp=>by
   rw[List.append_nil,hfn,hv]
   rfl
 refine⟨ds,[],p,[],p,[],hW0,hres _ _ _,hargs _ (λx hx=>by simpa using hlt x hx),hvars _,World.keptBut_mono (λx hx=>⟨hx,Or.inr (by simpa using hx)⟩) (hB.frame _),λ_=>?_⟩
 refine⟨?_,_,_,([]++p)++[],⟨[]++p,[],trodAll_append (hargs _ (λ_ _=>rfl)) (hres _ _ _),hvars _,rfl,?_,?_⟩,?_⟩
 · exact ok_one hrt rfl (okWide_bool_mk htb true)
 · intro b off hp
   have hp':MemPlace.cell b off∈p:=by simpa using hp
   rw[hB.frozen (p:=⟨b,off,none⟩) (hlt _ hp')]
   exact hfz b off hp'
 · intro ha;cases ha
 · intro x hx _
   simpa using hx
end TL
