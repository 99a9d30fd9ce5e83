/- Plain texts of this claim, part 2. By an AI agent. -/
import Derived.Test.YtfpckpgnnplhnaaGreatSwTlP1
import Derived.Carry
import Derived.Deep.Slices
import Derived.Lib.SlicesCompact
import Derived.Lib.SmallJoins
import Derived.Maps.RangeRun
set_option linter.all false
namespace TL
structure Bs where
 place:List Int
 low:List Int
 by_:List Int
 next:List Int
 found:Int
 edges:List Int
 laid:List Bool
 block:List Int
 count:Int
def rq(l:List Int)(x:Int):Nat:=l.length-1-l.reverse.idxOf x
def gy(s:Bs)(first:Int):Bs:=
 {s with block:=(s.edges.drop (rq s.edges first)).foldl (λb e=>b.set e.toNat s.count) s.block,edges:=s.edges.take (rq s.edges first),count:=s.count+1}
def n7(s:Bs)(v:Int):Bs:={s with found:=s.found+1,place:=s.place.set v.toNat (s.found+1),low:=s.low.set v.toNat (s.found+1)}
def sT(s:Bs)(e:Int):Bs:={s with laid:=s.laid.set e.toNat true,edges:=s.edges++[e]}
def iy(g:bN)(s:Bs)(v h:Int):Bs×Int×Bool:=
 if gI s.laid (h/2)=true then(s,0,false)
 else if cF g h=v then(gy (sT s (h/2)) (h/2),0,false)
 else if gI s.place (cF g h)=0 then(n7 {sT s (h/2) with by_:=s.by_.set (cF g h).toNat h} (cF g h),cF g h,true)
 else({sT s (h/2) with low:=s.low.set v.toNat (min (gI s.low v) (gI s.place (cF g h)))},0,false)
def iV(g:bN)(s:Bs)(v:Int):Bs:=
 if gI s.by_ v<0 then s
 else
   let u:=bf g (gI s.by_ v)
   let s1:Bs:={s with low:=s.low.set u.toNat (min (gI s.low u) (gI s.low v))}
   if gI s1.place u<=gI s1.low v then gy s1 (gI s.by_ v/2) else s1
def fm(g:bN)(s:Bs)(path:List Int)(u:Int):Bs×List Int:=
 if gI s.next u=((gI (aX g) u).length:Int) then(iV g s u,path.dropLast)
 else
   let h:=gI (gI (aX g) u) (gI s.next u)
   let t:=iy g {s with next:=s.next.set u.toNat (gI s.next u+1)} u h
   (t.1,if t.2.2=true then path++[t.2.1] else path)
def DD(g:bN):Nat->Bs->List Int->Bs
 |0,s,_=>s
 |n+1,s,path=>if path=[] then s else DD g n (fm g s path (gI path ((path.length:Int)-1))).1 (fm g s path (gI path ((path.length:Int)-1))).2
def cr(g:bN)(s:Bs)(path:List Int):Nat:=2*(((bQ g.1.toNat).map λv=>((gI (aX g) v).length-(gI s.next v).toNat)).sum)+path.length
def gF(g:bN)(s:Bs)(v:Int):Bs:=DD g (cr g (n7 s v) [v]) (n7 s v) [v]
def j2(g:bN):Bs:=⟨List.replicate g.1.toNat 0,List.replicate g.1.toNat 0,List.replicate g.1.toNat (-1),List.replicate g.1.toNat 0,0,[],List.replicate g.2.length false,List.replicate g.2.length 0,0⟩
def il(g:bN)(k:Nat):Bs:=(bQ k).foldl (λs v=>if gI s.place v=0 then gF g s v else s) (j2 g)
def fT(by_:List Int)(path:List Int):List Int:=path.tail.map λv=>gI by_ v/2
structure ga(g:bN)(s:Bs)(path:List Int):Prop where
  l1:(s.place.length:Int)=g.1
  l2:(s.low.length:Int)=g.1
  l3:(s.by_.length:Int)=g.1
  l4:(s.next.length:Int)=g.1
  l5:(s.laid.length:Int)=g.2.length
  l6:(s.block.length:Int)=g.2.length
  nx:∀v,0<=v->v<g.1->0<=gI s.next v/\gI s.next v<=((gI (aX g) v).length:Int)
  pl:∀v,0<=v->v<g.1->0<=gI s.place v/\gI s.place v<=s.found
  f0:0<=s.found
  fn:s.found+(s.place.count 0:Int)=g.1
  by_:∀v,0<=v->v<g.1->gI s.by_ v= -1\/((0<=gI s.by_ v/\gI s.by_ v<2*(g.2.length:Int))/\cF g (gI s.by_ v)=v/\gI s.place v≠0)
  en:s.edges.Nodup
  el:∀e∈s.edges,(0<=e/\e<(g.2.length:Int))/\gI s.laid e=true
  ct:0<=s.count
  cl:s.count+(s.edges.length:Int)<=(s.laid.count true:Int)
  pn:path.Nodup
  pr:∀v∈path,(0<=v/\v<g.1)/\gI s.place v≠0
  p0:∀v,path.head? =some v->gI s.by_ v= -1
  pt:∀v∈path.tail,0<=gI s.by_ v
  pe:(fT s.by_ path).Sublist s.edges
variable{g:bN}{s:Bs}{path:List Int}{e v w u hh:Int}
theorem xO{x:Int}{n:Nat}{v:Int}(h0:0<=v)(h1:v<n):gI (List.replicate n x) v=x:=by
 obtain⟨k,rfl⟩:∃k:Nat,v=(k:Int):=⟨v.toNat,by omega⟩
 have:k<n:=by omega
 simp[gI,this]
theorem k7{l:List Int}{i:Nat}(hi:i<l.length){x:Int}(h0:l[i]=0)(hx:x≠0):(l.set i x).count 0+1=l.count 0:=by
 have hp:0<l.count 0:=List.count_pos_iff.2 (h0▸List.getElem_mem hi)
 rw[List.count_set hi,h0]
 simp[hx]
 omega
theorem n8{l:List Bool}{i:Nat}(hi:i<l.length)(h0:l[i]=false):(l.set i true).count true=l.count true+1:=by
 rw[List.count_set hi,h0]
 simp
theorem Cb{l:List Bool}{i:Int}(h0:0<=i)(h1:i<l.length):∃h:i.toNat<l.length,gI l i=l[i.toNat]:=⟨by omega,by
 have:i.toNat<l.length:=by omega
 simp[gI,this]⟩
theorem u4{l:List Int}{i:Int}(h0:0<=i)(h1:i<l.length):∃h:i.toNat<l.length,gI l i=l[i.toNat]:=⟨by omega,by
 have:i.toNat<l.length:=by omega
 simp[gI,this]⟩
theorem ga.start(hm:bO g):ga g (j2 g) []:=by
 have h0:=hm.1
 have r0:∀{x:Int} {v:Int},0<=v->v<g.1->gI (List.replicate g.1.toNat x) v=x:=λa b=>xO a (by omega)
 refine⟨by simp[j2];omega,by simp[j2];omega,by simp[j2];omega,by simp[j2];omega,by simp[j2],by simp[j2],λv a b=>?_,λv a b=>?_,Int.le_refl _,?_,λv a b=>.inl (r0 a b),List.nodup_nil,λe he=>absurd he List.not_mem_nil,Int.le_refl _,?_,List.nodup_nil,λv hv=>absurd hv List.not_mem_nil,λv hv=>by simp at hv,λv hv=>absurd hv List.not_mem_nil,List.Sublist.refl _⟩
 · show 0<=gI (List.replicate g.1.toNat (0:Int)) v/\_<=_
   rw[show gI (j2 g).next v=gI (List.replicate g.1.toNat (0:Int)) v from rfl,r0 a b];omega
 · show 0<=gI (List.replicate g.1.toNat (0:Int)) v/\gI (List.replicate g.1.toNat (0:Int)) v<=0
   rw[r0 a b];omega
 · show(0:Int)+((List.replicate g.1.toNat (0:Int)).count 0:Int)=g.1
   rw[List.count_replicate];simp;omega
 · show(0:Int)+((([]:List Int)).length:Int)<=((List.replicate g.2.length false).count true:Int)
   simp
theorem ga.lay(h:ga g s path)(e0:0<=e)(e1:e<(g.2.length:Int))(hl:¬gI s.laid e=true):ga g (sT s e) path/\e∉s.edges:=by
  have hl5:=h.l5
  obtain⟨hi,hg⟩:=Cb (l:=s.laid) e0 (by omega)
  have hne:e∉s.edges:=λk=>hl (h.el e k).2
  have hf:s.laid[e.toNat]=false:=by rw[<-hg];simpa using hl
  have hc:=n8 hi hf
  refine⟨⟨h.l1,h.l2,h.l3,h.l4,by show((s.laid.set e.toNat true).length:Int)=_;rw[List.length_set];exact hl5,h.l6,h.nx,h.pl,h.f0,h.fn,h.by_,?_,λx hx=>?_,h.ct,?_,h.pn,h.pr,h.p0,h.pt,h.pe.trans (List.sublist_append_left ..)⟩,hne⟩
  · show(s.edges++[e]).Nodup
    rw[List.nodup_append]
    exact⟨h.en,by simp,λa ha b hb=>by rw[List.mem_singleton.1 hb];exact λk=>hne (by rw[<-k];exact ha)⟩
  · show(0<=x/\x<_)/\gI (s.laid.set e.toNat true) x=true
    rcases List.mem_append.1 hx with k|k
    · obtain⟨a,b⟩:=h.el x k
      refine⟨a,?_⟩
      rw[dJ e0 (by omega) a.1]
      split
      · rfl
      · exact b
    · rw[List.mem_singleton.1 k]
      exact⟨⟨e0,e1⟩,by rw[dJ e0 (by omega) e0,if_pos rfl]⟩
  · show s.count+((s.edges++[e]).length:Int)<=((s.laid.set e.toNat true).count true:Int)
    rw[hc,List.length_append,List.length_singleton]
    have:=h.cl;omega
theorem wA{A B:List Int}{x:Int}(hB:x∉B):rq (A++x::B) x=A.length:=by
 unfold rq
 rw[List.reverse_append,List.reverse_cons,List.append_assoc,List.idxOf_append]
 rw[if_neg (by simpa using hB)]
 simp
theorem sw{l:List Int}{x:Int}(hn:l.Nodup)(hx:x∈l):∃A B,l=A++x::B/\x∉A/\x∉B/\rq l x=A.length:=by
 obtain⟨A,B,e⟩:=List.append_of_mem hx
 have hn':=hn
 rw[e,List.nodup_append] at hn'
 have h1:x∉B:=(List.nodup_cons.1 hn'.2.1).1
 have h2:x∉A:=λk=>hn'.2.2 x k x (List.mem_cons_self ..) rfl
 exact⟨A,B,e,h2,h1,by rw[e];exact wA h1⟩
theorem n5(c:Int):∀(l b:List Int),(l.foldl (λb e=>b.set e.toNat c) b).length=b.length
 |[],b=>rfl
 |x::l,b=>by rw[List.foldl_cons,n5 c l,List.length_set]
theorem ga.close(h:ga g s path)(he:e∈s.edges)(hp:(fT s.by_ path).Sublist (s.edges.take (rq s.edges e))):ga g (gy s e) path:=by
  obtain⟨A,B,e1,_,_,e2⟩:=sw h.en he
  have hlt:rq s.edges e<s.edges.length:=by rw[e2,e1];simp
  have hs:(s.edges.take (rq s.edges e)).Sublist s.edges:=List.take_sublist _ _
  refine⟨h.l1,h.l2,h.l3,h.l4,h.l5,?_,h.nx,h.pl,h.f0,h.fn,h.by_,hs.nodup h.en,λx hx=>h.el x (hs.subset hx),by show 0<=s.count+1;have:=h.ct;omega,?_,h.pn,h.pr,h.p0,h.pt,hp⟩
  · show(((s.edges.drop (rq s.edges e)).foldl (λb x=>b.set x.toNat s.count) s.block).length:Int)=_
    rw[n5];exact h.l6
  · show s.count+1+((s.edges.take (rq s.edges e)).length:Int)<=(s.laid.count true:Int)
    rw[List.length_take]
    have:=h.cl;omega
theorem ga.lows(h:ga g s path)(x:Int)(k:Nat):ga g {s with low:=s.low.set k x} path:=
  {h with l2:=by show((s.low.set k x).length:Int)=_;rw[List.length_set];exact h.l2}
theorem ga.nexts(h:ga g s path)(u0:0<=u)(u1:u<g.1)(hn:¬gI s.next u=((gI (aX g) u).length:Int)):ga g {s with next:=s.next.set u.toNat (gI s.next u+1)} path:=
  {h with
    l4:=by show((s.next.set u.toNat _).length:Int)=_;rw[List.length_set];exact h.l4
    nx:=λx a b=>by
      show 0<=gI (s.next.set u.toNat (gI s.next u+1)) x/\gI (s.next.set u.toNat (gI s.next u+1)) x<=_
      rw[dJ u0 (by have:=h.l4;omega) a]
      obtain⟨c,d⟩:=h.nx x a b
      split
      · rename_i k
        subst k
        obtain⟨c,d⟩:=h.nx x u0 u1
        omega
      · exact⟨c,d⟩}
theorem px{b b':List Int}{p:List Int}(h:∀x∈p.tail,gI b x=gI b' x):fT b p=fT b' p:=by
 unfold fT
 exact List.map_congr_left λx hx=>by rw[h x hx]
theorem mx{b:List Int}{p:List Int}(hp:p≠[])(x:Int):fT b (p++[x])=fT b p++[gI b x/2]:=by
 unfold fT
 cases p with
 |nil=>exact absurd rfl hp
 |cons a l=>simp
theorem ga.grow(h:ga g s path)(hp:path≠[])(w0:0<=w)(w1:w<g.1)(hw:gI s.place w=0)(h0:0<=hh)(h1:hh<2*(g.2.length:Int))(ht:cF g hh=w)(he:(fT s.by_ path++[hh/2]).Sublist s.edges):
    ga g (n7 {s with by_:=s.by_.set w.toNat hh} w) (path++[w]):=by
  have l1:=h.l1
  have l2:=h.l2
  have l3:=h.l3
  have f0:=h.f0
  have hwp:w∉path:=λk=>(h.pr w k).2 hw
  have gp:∀x,0<=x->gI (s.place.set w.toNat (s.found+1)) x=if x=w then s.found+1 else gI s.place x:=λx a=>dJ w0 (by omega) a
  have gb:∀x,0<=x->gI (s.by_.set w.toNat hh) x=if x=w then hh else gI s.by_ x:=λx a=>dJ w0 (by omega) a
  obtain⟨hi,hg⟩:=u4 (l:=s.place) w0 (by omega)
  have hc:=k7 hi (x:=s.found+1) (by rw[<-hg];exact hw) (by omega)
  refine⟨by show((s.place.set _ _).length:Int)=_;rw[List.length_set];exact l1,by show((s.low.set _ _).length:Int)=_;rw[List.length_set];exact l2,by show((s.by_.set _ _).length:Int)=_;rw[List.length_set];exact l3,h.l4,h.l5,h.l6,h.nx,λx a b=>?_,by show 0<=s.found+1;omega,?_,λx a b=>?_,h.en,h.el,h.ct,h.cl,?_,λx hx=>?_,λx hx=>?_,λx hx=>?_,?_⟩
  · show 0<=gI (s.place.set w.toNat (s.found+1)) x/\gI (s.place.set w.toNat (s.found+1)) x<=s.found+1
    rw[gp x a]
    have:=h.pl x a b
    split<;>omega
  · show s.found+1+((s.place.set w.toNat (s.found+1)).count 0:Int)=g.1
    have:=h.fn;omega
  · show gI (s.by_.set w.toNat hh) x= -1\/(0<=gI (s.by_.set w.toNat hh) x/\gI (s.by_.set w.toNat hh) x<_)/\cF g (gI (s.by_.set w.toNat hh) x)=x/\gI (s.place.set w.toNat (s.found+1)) x≠0
    rw[gb x a,gp x a]
    by_cases k:x=w
    · rw[if_pos k,if_pos k]
      exact .inr ⟨⟨h0,h1⟩,by rw[ht,k],by omega⟩
    · rw[if_neg k,if_neg k];exact h.by_ x a b
  · rw[List.nodup_append]
    exact⟨h.pn,by simp,λa ha b hb=>by rw[List.mem_singleton.1 hb];exact λk=>hwp (by rw[<-k];exact ha)⟩
  · show(0<=x/\x<g.1)/\gI (s.place.set w.toNat (s.found+1)) x≠0
    rcases List.mem_append.1 hx with k|k
    · obtain⟨a,b⟩:=h.pr x k
      refine⟨a,?_⟩
      rw[gp x a.1];split
      · omega
      · exact b
    · rw[List.mem_singleton.1 k]
      exact⟨⟨w0,w1⟩,by rw[gp w w0,if_pos rfl];omega⟩
  · show gI (s.by_.set w.toNat hh) x= -1
    cases hpe:path with
    |nil=>exact absurd hpe hp
    |cons a l=>
      rw[hpe] at hx
      have hxa:a=x:=by simpa using hx
      have hxp:x∈path:=by rw[hpe,<-hxa];exact List.mem_cons_self ..
      rw[gb x (h.pr x hxp).1.1,if_neg (λk=>hwp (by rw[<-k];exact hxp))]
      exact h.p0 x (by rw[hpe,hxa];rfl)
  · show 0<=gI (s.by_.set w.toNat hh) x
    have hx2:x∈path.tail\/x=w:=by
      cases hpe:path with
      |nil=>exact absurd hpe hp
      |cons a l=>
        rw[hpe] at hx
        simpa using hx
    rcases hx2 with k|k
    · have hxp:x∈path:=List.mem_of_mem_tail k
      rw[gb x (h.pr x hxp).1.1,if_neg (λj=>hwp (by rw[<-j];exact hxp))]
      exact h.pt x k
    · rw[k,gb w w0,if_pos rfl];exact h0
  · show(fT (s.by_.set w.toNat hh) (path++[w])).Sublist s.edges
    rw[mx hp,gb w w0,if_pos rfl,px (b':=s.by_) (λx hx=>?_)]
    · exact he
    · have hxp:x∈path:=List.mem_of_mem_tail hx
      rw[gb x (h.pr x hxp).1.1,if_neg (λj=>hwp (by rw[<-j];exact hxp))]
theorem ga.first(h:ga g s [])(v0:0<=v)(v1:v<g.1)(hv:gI s.place v=0):ga g (n7 s v) [v]:=by
  have l1:=h.l1
  have l2:=h.l2
  have f0:=h.f0
  have gp:∀x,0<=x->gI (s.place.set v.toNat (s.found+1)) x=if x=v then s.found+1 else gI s.place x:=λx a=>dJ v0 (by omega) a
  obtain⟨hi,hg⟩:=u4 (l:=s.place) v0 (by omega)
  have hc:=k7 hi (x:=s.found+1) (by rw[<-hg];exact hv) (by omega)
  refine⟨by show((s.place.set _ _).length:Int)=_;rw[List.length_set];exact l1,by show((s.low.set _ _).length:Int)=_;rw[List.length_set];exact l2,h.l3,h.l4,h.l5,h.l6,h.nx,λx a b=>?_,by show 0<=s.found+1;omega,?_,λx a b=>?_,h.en,h.el,h.ct,h.cl,by simp,λx hx=>?_,λx hx=>?_,λx hx=>absurd hx List.not_mem_nil,List.nil_sublist _⟩
  · show 0<=gI (s.place.set v.toNat (s.found+1)) x/\gI (s.place.set v.toNat (s.found+1)) x<=s.found+1
    rw[gp x a]
    have:=h.pl x a b
    split<;>omega
  · show s.found+1+((s.place.set v.toNat (s.found+1)).count 0:Int)=g.1
    have:=h.fn;omega
  · show gI s.by_ x= -1\/(0<=gI s.by_ x/\gI s.by_ x<_)/\cF g (gI s.by_ x)=x/\gI (s.place.set v.toNat (s.found+1)) x≠0
    rcases h.by_ x a b with k|⟨k1,k2,k3⟩
    · exact .inl k
    · refine .inr ⟨k1,k2,?_⟩
      rw[gp x a];split
      · omega
      · exact k3
  · rw[List.mem_singleton.1 hx]
    exact⟨⟨v0,v1⟩,by show gI (s.place.set v.toNat (s.found+1)) v≠0;rw[gp v v0,if_pos rfl];omega⟩
  · have:v=x:=by simpa using hx
    rw[<-this]
    rcases h.by_ v v0 v1 with k|⟨_,_,k⟩
    · exact k
    · exact absurd hv k
theorem mc(hp:path≠[]):path=path.dropLast++[gI path ((path.length:Int)-1)]:=by
 have e:gI path ((path.length:Int)-1)=path.getLast hp:=by
   have h:0<path.length:=List.length_pos_iff.2 hp
   have e1:((path.length:Int)-1).toNat=path.length-1:=by omega
   have h2:path.length-1<path.length:=by omega
   unfold gI
   rw[e1,List.getLast_eq_getElem,List.getD_eq_getElem?_getD,List.getElem?_eq_getElem h2]
   rfl
 rw[e];exact(List.dropLast_concat_getLast hp).symm
theorem ga.drop(h:ga g s path):ga g s path.dropLast:=by
  have hs:(path.dropLast).Sublist path:=List.dropLast_sublist _
  have ht:(path.dropLast.tail).Sublist path.tail:=hs.tail
  refine {h with pn:=hs.nodup h.pn,pr:=λv hv=>h.pr v (hs.subset hv),p0:=λv hv=>h.p0 v ?_,pt:=λv hv=>h.pt v (ht.subset hv),pe:=?_}
  · cases hp:path with
    |nil=>rw[hp] at hv;simp at hv
    |cons a l=>
      rw[hp] at hv
      cases l with
      |nil=>simp at hv
      |cons b l=>simpa using hv
  · unfold fT
    exact(ht.map _).trans h.pe
theorem zR{X A B:List Int}{x:Int}(h:(X++[x]).Sublist (A++x::B))(hA:x∉A)(hB:x∉B):X.Sublist A:=by
 obtain⟨l1,l2,e,h1,h2⟩:=List.sublist_append_iff.1 h
 by_cases hl2:l2=[]
 · subst hl2
   rw[List.append_nil] at e
   exact absurd (h1.subset (by rw[<-e];simp)) hA
 · obtain⟨l,y,rfl⟩:∃l y,l2=l++[y]:=⟨l2.dropLast,l2.getLast hl2,(List.dropLast_concat_getLast hl2).symm⟩
   have e2:X++[x]=(l1++l)++[y]:=by rw[e,List.append_assoc]
   obtain⟨e3,e4⟩:=List.append_inj' e2 rfl
   have ey:y=x:=by simpa using e4.symm
   subst ey
   cases l with
   |nil=>rw[e3,List.append_nil];exact h1
   |cons z l=>
     exfalso
     rw[List.cons_append] at h2
     rcases List.sublist_cons_iff.1 h2 with k|⟨r,k1,k2⟩
     · exact hB (k.subset (by simp))
     · have:r=l++[y]:=by
         injection k1 with _ q
         exact q.symm
       rw[this] at k2
       exact hB (k2.subset (by simp))
theorem ga.top(h:ga g s path)(hp:path≠[])(hv:v=gI path ((path.length:Int)-1))(hb:¬gI s.by_ v<0):gI s.by_ v/2∈s.edges/\(fT s.by_ path.dropLast).Sublist (s.edges.take (rq s.edges (gI s.by_ v/2))):=by
  have e0:=mc hp
  rw[<-hv] at e0
  have hd:path.dropLast≠[]:=by
    intro k
    rw[k] at e0
    have:=h.p0 v (by rw[e0];rfl)
    omega
  have pe:=h.pe
  rw[e0,mx hd] at pe
  have hm:gI s.by_ v/2∈s.edges:=pe.subset (by simp)
  obtain⟨A,B,e1,hA,hB,e2⟩:=sw h.en hm
  refine⟨hm,?_⟩
  have:s.edges.take (rq s.edges (gI s.by_ v/2))=A:=by
    rw[e2]
    conv=>lhs;rw[e1]
    simp
  rw[this]
  rw[e1] at pe
  exact zR pe hA hB
theorem ga.leave(hm:bO g)(h:ga g s path)(hp:path≠[])(hv:v=gI path ((path.length:Int)-1)):ga g (iV g s v) path.dropLast:=by
 unfold iV
 by_cases c:gI s.by_ v<0
 · rw[if_pos c];exact h.drop
 · rw[if_neg c]
   obtain⟨h1,h2⟩:=h.top hp hv c
   simp only
   have hl:=h.lows (min (gI s.low (bf g (gI s.by_ v))) (gI s.low v)) (bf g (gI s.by_ v)).toNat
   split
   · exact hl.drop.close (s:={s with low:=s.low.set (bf g (gI s.by_ v)).toNat (min (gI s.low (bf g (gI s.by_ v))) (gI s.low v))}) h1 h2
   · exact hl.drop
theorem ga.take(hm:bO g)(h:ga g s path)(hp:path≠[])(h0:0<=hh)(h1:hh<2*(g.2.length:Int)):ga g (iy g s v hh).1 (if(iy g s v hh).2.2=true then path++[(iy g s v hh).2.1] else path):=by
 have ht:=fQ hm h0 h1
 unfold iy
 by_cases c:gI s.laid (hh/2)=true
 · rw[if_pos c];exact h
 · rw[if_neg c]
   obtain⟨hl,hn⟩:=h.lay (e:=hh/2) (by omega) (by omega) c
   by_cases c2:cF g hh=v
   · rw[if_pos c2]
     show ga g (gy (sT s (hh/2)) (hh/2)) path
     refine hl.close (by show hh/2∈s.edges++[hh/2];simp) ?_
     have e:rq (s.edges++[hh/2]) (hh/2)=s.edges.length:=wA (A:=s.edges) (B:=[]) List.not_mem_nil
     show(fT s.by_ path).Sublist ((s.edges++[hh/2]).take (rq (s.edges++[hh/2]) (hh/2)))
     rw[e,List.take_left']
     · exact h.pe
     · rfl
   · rw[if_neg c2]
     by_cases c3:gI s.place (cF g hh)=0
     · rw[if_pos c3]
       show ga g (n7 {sT s (hh/2) with by_:=s.by_.set (cF g hh).toNat hh} (cF g hh)) (path++[cF g hh])
       exact hl.grow hp ht.1 ht.2 c3 h0 h1 rfl (h.pe.append (List.Sublist.refl _))
     · rw[if_neg c3]
       show ga g {sT s (hh/2) with low:=s.low.set v.toNat (min (gI s.low v) (gI s.place (cF g hh)))} path
       exact hl.lows _ _
theorem ga.step(hm:bO g)(h:ga g s path)(hp:path≠[])(hu:u=gI path ((path.length:Int)-1)):ga g (fm g s path u).1 (fm g s path u).2:=by
 have hup:u∈path:=by
   have:=mc hp
   rw[<-hu] at this
   rw[this];simp
 obtain⟨⟨u0,u1⟩,_⟩:=h.pr u hup
 unfold fm
 by_cases c:gI s.next u=((gI (aX g) u).length:Int)
 · rw[if_pos c];exact h.leave hm hp hu
 · rw[if_neg c]
   obtain⟨n0,n1⟩:=h.nx u u0 u1
   have hin:gI (gI (aX g) u) (gI s.next u)∈gI (aX g) u:=bz n0 (by omega)
   rw[jm u0 u1] at hin
   have ho:=(f4 hin).1
   rw[<-jm u0 u1] at ho
   exact(h.nexts u0 u1 c).take hm hp ho.1 ho.2
end TL
set_option linter.all false
namespace TL
variable{g:bN}{s:Bs}{path:List Int}{e v w u hh:Int}
theorem rh{f f':Int->Nat}{u:Int}:∀{l:List Int},l.Nodup->u∈l->(∀x∈l,x≠u->f x=f' x)->f u=f' u+1->(l.map f).sum=(l.map f').sum+1
 |[],_,hu,_,_=>absurd hu List.not_mem_nil
 |a::l,hn,hu,hx,he=>by
   have hn':=List.nodup_cons.1 hn
   simp only[List.map_cons,List.sum_cons]
   by_cases c:a=u
   · subst c
     have:l.map f=l.map f':=List.map_congr_left λx hxl=>hx x (List.mem_cons_of_mem _ hxl) (λk=>hn'.1 (by rw[<-k];exact hxl))
     rw[this,he];omega
   · have h2:=rh hn'.2 ((List.mem_cons.1 hu).resolve_left (λk=>c k.symm)) (λx hxl=>hx x (List.mem_cons_of_mem _ hxl)) he
     rw[h2,hx a (List.mem_cons_self ..) c];omega
theorem vN(h:ga g s path)(u0:0<=u)(u1:u<g.1)(hn:¬gI s.next u=((gI (aX g) u).length:Int))(p:List Int):cr g s p=cr g {s with next:=s.next.set u.toNat (gI s.next u+1)} p+2:=by
 have e1:cr g {s with next:=s.next.set u.toNat (gI s.next u+1)} p=2*(((bQ g.1.toNat).map λv=>((gI (aX g) v).length-(gI (s.next.set u.toNat (gI s.next u+1)) v).toNat)).sum)+p.length:=rfl
 rw[e1]
 unfold cr
 have hl:=h.l4
 obtain⟨n0,n1⟩:=h.nx u u0 u1
 have:=rh (f:=λv=>(gI (aX g) v).length-(gI s.next v).toNat) (f':=λv=>(gI (aX g) v).length-(gI (s.next.set u.toNat (gI s.next u+1)) v).toNat) (u:=u) (nH g.1.toNat) (gm.2 ⟨u0,by omega⟩) (λx hx hxu=>by
   show _=(gI (aX g) x).length-(gI (s.next.set u.toNat (gI s.next u+1)) x).toNat
   rw[dJ u0 (by omega) (gm.1 hx).1,if_neg hxu]) (by
   show(gI (aX g) u).length-(gI s.next u).toNat=(gI (aX g) u).length-(gI (s.next.set u.toNat (gI s.next u+1)) u).toNat+1
   rw[dJ u0 (by omega) u0,if_pos rfl]
   omega)
 rw[this];omega
theorem sU:(iV g s v).next=s.next:=by
 unfold iV
 split
 · rfl
 · simp only;split<;>rfl
theorem uO:(iy g s v hh).1.next=s.next:=by
 unfold iy
 split
 · rfl
 · split
   · rfl
   · split<;>rfl
theorem nD{s':Bs}(h:s'.next=s.next)(p:List Int):cr g s' p=cr g s p:=by unfold cr;rw[h]
theorem oO(h:ga g s path)(hp:path≠[])(hu:u=gI path ((path.length:Int)-1)):cr g (fm g s path u).1 (fm g s path u).2<cr g s path:=by
 have hup:u∈path:=by
   have:=mc hp
   rw[<-hu] at this
   rw[this];simp
 obtain⟨⟨u0,u1⟩,_⟩:=h.pr u hup
 have hl:0<path.length:=List.length_pos_iff.2 hp
 unfold fm
 by_cases c:gI s.next u=((gI (aX g) u).length:Int)
 · rw[if_pos c]
   show cr g (iV g s u) path.dropLast<_
   rw[nD sU]
   unfold cr
   rw[List.length_dropLast];omega
 · rw[if_neg c]
   simp only
   rw[nD uO]
   have h2:=vN h u0 u1 c path
   have h3:∀p:List Int,p.length<=path.length+1->cr g {s with next:=s.next.set u.toNat (gI s.next u+1)} p<=cr g {s with next:=s.next.set u.toNat (gI s.next u+1)} path+1:=λp hp=>by unfold cr;omega
   have h4:=h3 (if(iy g {s with next:=s.next.set u.toNat (gI s.next u+1)} u (gI (gI (aX g) u) (gI s.next u))).2.2=true then path++[(iy g {s with next:=s.next.set u.toNat (gI s.next u+1)} u (gI (gI (aX g) u) (gI s.next u))).2.1] else path) (by split<;>simp)
   omega
structure gO(g:bN)(R s:Bs)(path:List Int):Prop where
  i:ga g s path
  res:∃f,cr g s path<=f/\DD g f s path=R
theorem gO.start(h:ga g s [])(v0:0<=v)(v1:v<g.1)(hv:gI s.place v=0):gO g (gF g s v) (n7 s v) [v]:=⟨h.first v0 v1 hv,_,Nat.le_refl _,rfl⟩
theorem gO.step(hm:bO g){R:Bs}(h:gO g R s path)(hp:path≠[])(hu:u=gI path ((path.length:Int)-1)):gO g R (fm g s path u).1 (fm g s path u).2/\cr g (fm g s path u).1 (fm g s path u).2<cr g s path:=by
 have hl:=oO h.i hp hu
 refine⟨⟨h.i.step hm hp hu,?_⟩,hl⟩
 obtain⟨f,f1,f2⟩:=h.res
 cases f with
 |zero=>omega
 |succ f=>
   refine⟨f,by omega,?_⟩
   unfold DD at f2
   rw[if_neg hp,<-hu] at f2
   exact f2
theorem gO.done{R:Bs}(h:gO g R s []):s=R:=by
 obtain⟨f,_,e⟩:=h.res
 rw[<-e]
 cases f with
 |zero=>rfl
 |succ f=>unfold DD;rw[if_pos rfl]
theorem EC(hm:bO g):∀(f:Nat) (s:Bs) (path:List Int),ga g s path->cr g s path<=f->ga g (DD g f s path) []
 |0,s,path,h,hf=>by
   have:path=[]:=List.length_eq_zero_iff.1 (by unfold cr at hf;omega)
   subst this
   exact h
 |f+1,s,path,h,hf=>by
   unfold DD
   by_cases c:path=[]
   · rw[if_pos c];rw[c] at h;exact h
   · rw[if_neg c]
     have:=oO h c rfl
     exact EC hm f _ _ (h.step hm c rfl) (by omega)
theorem Dh(hm:bO g)(h:ga g s [])(v0:0<=v)(v1:v<g.1)(hv:gI s.place v=0):ga g (gF g s v) []:=EC hm _ _ _ (h.first v0 v1 hv) (Nat.le_refl _)
theorem lu(g:bN)(k:Nat):il g (k+1)=if gI (il g k).place (k:Int)=0 then gF g (il g k) (k:Int) else il g k:=by
 unfold il
 rw[dE,List.foldl_append];rfl
theorem CS(hm:bO g):∀k:Nat,(k:Int)<=g.1->ga g (il g k) []
 |0,_=>ga.start hm
 |k+1,h=>by
   have ih:=CS hm k (by omega)
   rw[lu]
   split
   · exact Dh hm ih (by omega) (by omega) ‹_›
   · exact ih
end TL
set_option linter.all false
namespace TL
variable{g:bN}{l:List Int}{k:Nat}{b e:Int}
def bL(l:List Int):Nat->List Int×List Int
  |0=>([],[])
  |k+1=>
    let sn:=if gI l (k:Int)∈(bL l k).1 then(bL l k).1 else(bL l k).1++[gI l (k:Int)]
    (sn,(bL l k).2++[((sn.idxOf (gI l (k:Int)):Nat):Int)])
theorem mT(l:List Int):∀k,(bL l k).2.length=k/\(bL l k).1.length<=k
 |0=>⟨rfl,Nat.le_refl _⟩
 |k+1=>by
   obtain⟨a,b⟩:=mT l k
   unfold bL
   refine⟨by simp[a],?_⟩
   simp only
   split
   · omega
   · rw[List.length_append,List.length_singleton];omega
theorem y3(l:List Int)(k:Nat):(bL l k).1.length<=(bL l (k+1)).1.length:=by
 conv=>rhs;unfold bL
 simp only
 split
 · exact Nat.le_refl _
 · rw[List.length_append];omega
theorem tN(l:List Int):∀k,∀x∈(bL l k).2,0<=x/\x<((bL l k).1.length:Int)
 |0,x,hx=>absurd hx List.not_mem_nil
 |k+1,x,hx=>by
   have hg:=y3 l k
   have hx2:x∈(bL l k).2++[(((if gI l (k:Int)∈(bL l k).1 then(bL l k).1 else(bL l k).1++[gI l (k:Int)]).idxOf (gI l (k:Int)):Nat):Int)]:=hx
   rcases List.mem_append.1 hx2 with c|c
   · have:=tN l k x c;omega
   · rw[List.mem_singleton.1 c]
     have hm:gI l (k:Int)∈(if gI l (k:Int)∈(bL l k).1 then(bL l k).1 else(bL l k).1++[gI l (k:Int)]):=by
       split
       · assumption
       · simp
     have:=List.idxOf_lt_length_of_mem hm
     refine⟨by omega,?_⟩
     show((_:Nat):Int)<(((if gI l (k:Int)∈(bL l k).1 then(bL l k).1 else(bL l k).1++[gI l (k:Int)]).length:Nat):Int)
     omega
def EG(of:List Int)(g:bN)(s:List Int×List Bool)(h:Int):List Int×List Bool:=
  (s.1.set (bf g h).toNat (gI of (h/2)+1),s.2.set (bf g h).toNat (gI s.2 (bf g h)||(decide (0<gI s.1 (bf g h))&& !decide (gI s.1 (bf g h)=gI of (h/2)+1))))
def vo(of:List Int)(g:bN)(k:Nat):List Int×List Bool:=(bQ k).foldl (EG of g) (List.replicate g.1.toNat 0,List.replicate g.1.toNat false)
def og(g:bN):List Int:=(bL (il g g.1.toNat).block g.2.length).2
def kH(g:bN):Int:=((bL (il g g.1.toNat).block g.2.length).1.length:Int)
def tV(g:bN):List Int:=(bQ g.1.toNat).filter λv=>gI (vo (og g) g (2*g.2.length)).2 v
def di(g:bN):(List Int×List Int×Int)×Int:=if bO g then((og g,tV g,kH g),0) else(([],[],0),1)
theorem uc(g:bN):(og g).length=g.2.length:=(mT _ _).1
theorem DW(g:bN){i:Int}(h0:0<=i)(h1:i<(g.2.length:Int)):0<=gI (og g) i/\gI (og g) i<kH g:=by
 have hl:=uc g
 exact tN _ _ _ (bz (xs:=og g) h0 (by omega))
end TL
namespace TL
structure tR(l:List Int)(mp:(Int->Int)×List Int)(out:List Int)(k:Nat):Prop where
  dom:mp.2=(bL l k).1
  val:∀b∈mp.2,mp.1 b=((mp.2.idxOf b:Nat):Int)
  eq:out=(bL l k).2++List.replicate (l.length-k) 0
  lo:(out.length:Int)=l.length
variable{l:List Int}{mp:(Int->Int)×List Int}{out:List Int}{k:Nat}
theorem tR.start:tR l (λ_=>0,[]) (List.replicate (Int.toNat (l.length:Int)) 0) 0:=
 ⟨rfl,λb hb=>absurd hb List.not_mem_nil,by simp[bL],by simp⟩
theorem tO{x:Int}(h:out=(bL l k).2++List.replicate (l.length-k) 0)(hk:(k:Int)<l.length):out.set (Int.toNat (k:Int)) x=((bL l k).2++[x])++List.replicate (l.length-(k+1)) 0:=by
 have hl:=(mT l k).1
 rw[h,Int.toNat_natCast,List.set_append_right _ _ (by omega),hl,Nat.sub_self]
 rw[show l.length-k=(l.length-(k+1))+1 by omega,List.replicate_succ]
 simp
theorem tR.old(h:tR l mp out k)(hk:(k:Int)<l.length)(hm:gI l (k:Int)∈mp.2):tR l mp (out.set (Int.toNat (k:Int)) (mp.1 (gI l (k:Int)))) (k+1):=by
 have hd:=h.dom
 have e:bL l (k+1)=((bL l k).1,(bL l k).2++[(((bL l k).1.idxOf (gI l (k:Int)):Nat):Int)]):=by
   conv=>lhs;unfold bL
   simp only[if_pos (show gI l (k:Int)∈(bL l k).1 by rw[<-hd];exact hm)]
 refine⟨by rw[e];exact hd,h.val,?_,by rw[List.length_set];exact h.lo⟩
 rw[tO h.eq hk,e,h.val _ hm,hd]
theorem tR.new(h:tR l mp out k)(hk:(k:Int)<l.length)(hm:¬gI l (k:Int)∈mp.2){mp':(Int->Int)×List Int}{x:Int}(em:mp'=((λq=>if q=gI l (k:Int) then(mp.2.length:Int) else mp.1 q),if gI l (k:Int)∈mp.2 then mp.2 else mp.2++[gI l (k:Int)]))(ex:x=mp'.1 (gI l (k:Int))):
   tR l mp' (out.set (Int.toNat (k:Int)) x) (k+1):=by
 subst em
 have hd:=h.dom
 rw[if_neg hm]
 have e:bL l (k+1)=((bL l k).1++[gI l (k:Int)],(bL l k).2++[((((bL l k).1++[gI l (k:Int)]).idxOf (gI l (k:Int)):Nat):Int)]):=by
   conv=>lhs;unfold bL
   simp only[if_neg (show¬gI l (k:Int)∈(bL l k).1 by rw[<-hd];exact hm)]
 have ei:(mp.2++[gI l (k:Int)]).idxOf (gI l (k:Int))=mp.2.length:=by
   rw[List.idxOf_append,if_neg hm];simp
 refine⟨by rw[e,<-hd],λb hb=>?_,?_,by rw[List.length_set];exact h.lo⟩
 · show(if b=gI l (k:Int) then(mp.2.length:Int) else mp.1 b)=(((mp.2++[gI l (k:Int)]).idxOf b:Nat):Int)
   by_cases c:b=gI l (k:Int)
   · rw[if_pos c,c,ei]
   · have hb2:b∈mp.2:=(List.mem_append.1 hb).resolve_right (λz=>c (List.mem_singleton.1 z))
     rw[if_neg c,List.idxOf_append,if_pos hb2];exact h.val b hb2
 · rw[tO h.eq hk,e,ex]
   show _=_
   rw[<-hd,ei]
   simp
theorem tR.done(h:tR l mp out k)(hk:k=l.length):out=(bL l l.length).2/\(mp.2.length:Int)=((bL l l.length).1.length:Int):=by
 subst hk
 have:=h.eq
 rw[Nat.sub_self,List.replicate_zero,List.append_nil] at this
 exact⟨this,by rw[h.dom]⟩
end TL
set_option linter.all false
namespace TL
abbrev hf(g:bN)(h:Int):Prop:=0<=h/\h<2*(g.2.length:Int)
end TL
set_option linter.all false
namespace TL
variable{g g1 g2:bN}{ws w1 w2:List Nat}{s s1 s2:Int}{far f1 f2:List Nat}{by_ b1 b2:List Int}{rk r1 r2:Int->Nat}{C:Nat}
def lN(h:Int):Int:=if h%2=0 then h+1 else h-1
theorem Dc{h:Int}(hh:hf g h):hf g (lN h)/\lN h/2=h/2/\bf g (lN h)=cF g h/\cF g (lN h)=bf g h:=by
 have h0:=hh.1
 have h1:=hh.2
 have e1:lN h/2=h/2:=by unfold lN;split<;>omega
 have e2:lN h%2=1-h%2:=by unfold lN;split<;>omega
 refine⟨⟨by unfold lN;split<;>omega,by unfold lN;split<;>omega⟩,e1,?_,?_⟩
 · unfold bf cF;rw[e1,e2]
 · unfold bf cF;rw[e1,e2,show 1-(1-h%2)=h%2 by omega]
end TL
namespace TL
end TL
set_option linter.all false
namespace TL
variable{g:bN}{R:Bs}{pl lo by_ nx:List Int}{fo:Int}{ed:List Int}{la:List Bool}{bl:List Int}{co:Int}{path:List Int}{u hh:Int}
theorem gO.via{s s':Bs}{path path':List Int}(hm:bO g)(h:gO g R s path)(hp:0<(path.length:Int))(hu:u=gI path ((path.length:Int)-1))(e:fm g s path u=(s',path')):gO g R s' path'/\cr g s' path'<cr g s path:=by
 have:=h.step hm (λk=>by rw[k] at hp;simp at hp) hu
 rw[e] at this;exact this
abbrev bs(pl lo by_ nx:List Int)(fo:Int)(ed:List Int)(la:List Bool)(bl:List Int)(co:Int):Bs:=⟨pl,lo,by_,nx,fo,ed,la,bl,co⟩
theorem gO.skip(hm:bO g)(h:gO g R (bs pl lo by_ nx fo ed la bl co) path)(hp:0<(path.length:Int))(hu:u=gI path ((path.length:Int)-1))(hn:¬gI nx u=((gI (aX g) u).length:Int))(eh:gI (gI (aX g) u) (gI nx u)=hh)(hl:gI la (hh/2)=true):
    gO g R (bs pl lo by_ (nx.set u.toNat (gI nx u+1)) fo ed la bl co) path/\cr g (bs pl lo by_ (nx.set u.toNat (gI nx u+1)) fo ed la bl co) path<cr g (bs pl lo by_ nx fo ed la bl co) path:=by
  refine h.via hm hp hu ?_
  unfold fm
  rw[if_neg hn]
  simp only[eh]
  unfold iy
  rw[if_pos hl];rfl
theorem gO.loop(hm:bO g)(h:gO g R (bs pl lo by_ nx fo ed la bl co) path)(hp:0<(path.length:Int))(hu:u=gI path ((path.length:Int)-1))(hn:¬gI nx u=((gI (aX g) u).length:Int))(eh:gI (gI (aX g) u) (gI nx u)=hh)(hl:¬gI la (hh/2)=true)(hw:cF g hh=u):
    gO g R (gy (bs pl lo by_ (nx.set u.toNat (gI nx u+1)) fo (ed++[hh/2]) (la.set (hh/2).toNat true) bl co) (hh/2)) path/\cr g (gy (bs pl lo by_ (nx.set u.toNat (gI nx u+1)) fo (ed++[hh/2]) (la.set (hh/2).toNat true) bl co) (hh/2)) path<cr g (bs pl lo by_ nx fo ed la bl co) path:=by
  refine h.via hm hp hu ?_
  unfold fm
  rw[if_neg hn]
  simp only[eh]
  unfold iy
  rw[if_neg hl,if_pos hw];rfl
theorem gO.new(hm:bO g)(h:gO g R (bs pl lo by_ nx fo ed la bl co) path)(hp:0<(path.length:Int))(hu:u=gI path ((path.length:Int)-1))(hn:¬gI nx u=((gI (aX g) u).length:Int))(eh:gI (gI (aX g) u) (gI nx u)=hh)(hl:¬gI la (hh/2)=true){w:Int}(ew:cF g hh=w)(hw:¬w=u)(hz:gI pl w=0):
    gO g R (bs (pl.set w.toNat (fo+1)) (lo.set w.toNat (fo+1)) (by_.set w.toNat hh) (nx.set u.toNat (gI nx u+1)) (fo+1) (ed++[hh/2]) (la.set (hh/2).toNat true) bl co) (path++[w])/\cr g (bs (pl.set w.toNat (fo+1)) (lo.set w.toNat (fo+1)) (by_.set w.toNat hh) (nx.set u.toNat (gI nx u+1)) (fo+1) (ed++[hh/2]) (la.set (hh/2).toNat true) bl co) (path++[w])<cr g (bs pl lo by_ nx fo ed la bl co) path:=by
  subst ew
  refine h.via hm hp hu ?_
  unfold fm
  rw[if_neg hn]
  simp only[eh]
  unfold iy
  rw[if_neg hl,if_neg hw,if_pos hz];rfl
theorem gO.back(hm:bO g)(h:gO g R (bs pl lo by_ nx fo ed la bl co) path)(hp:0<(path.length:Int))(hu:u=gI path ((path.length:Int)-1))(hn:¬gI nx u=((gI (aX g) u).length:Int))(eh:gI (gI (aX g) u) (gI nx u)=hh)(hl:¬gI la (hh/2)=true){w:Int}(ew:cF g hh=w)(hw:¬w=u)(hz:¬gI pl w=0):
    gO g R (bs pl (lo.set u.toNat (min (gI lo u) (gI pl w))) by_ (nx.set u.toNat (gI nx u+1)) fo (ed++[hh/2]) (la.set (hh/2).toNat true) bl co) path/\cr g (bs pl (lo.set u.toNat (min (gI lo u) (gI pl w))) by_ (nx.set u.toNat (gI nx u+1)) fo (ed++[hh/2]) (la.set (hh/2).toNat true) bl co) path<cr g (bs pl lo by_ nx fo ed la bl co) path:=by
  subst ew
  refine h.via hm hp hu ?_
  unfold fm
  rw[if_neg hn]
  simp only[eh]
  unfold iy
  rw[if_neg hl,if_neg hw,if_neg hz];rfl
theorem gO.off0(hm:bO g)(h:gO g R (bs pl lo by_ nx fo ed la bl co) path)(hp:0<(path.length:Int))(hu:u=gI path ((path.length:Int)-1))(hn:gI nx u=((gI (aX g) u).length:Int))(hb:gI by_ u<0):
    gO g R (bs pl lo by_ nx fo ed la bl co) path.dropLast/\cr g (bs pl lo by_ nx fo ed la bl co) path.dropLast<cr g (bs pl lo by_ nx fo ed la bl co) path:=by
  refine h.via hm hp hu ?_
  unfold fm
  rw[if_pos hn]
  unfold iV
  rw[if_pos hb]
theorem gO.off1(hm:bO g)(h:gO g R (bs pl lo by_ nx fo ed la bl co) path)(hp:0<(path.length:Int))(hu:u=gI path ((path.length:Int)-1))(hn:gI nx u=((gI (aX g) u).length:Int))(hb:¬gI by_ u<0){q:Int}(eq:bf g (gI by_ u)=q){lo':List Int}(el:lo'=lo.set q.toNat (min (gI lo q) (gI lo u)))(hc:¬gI pl q<=gI lo' u):
    gO g R (bs pl lo' by_ nx fo ed la bl co) path.dropLast/\cr g (bs pl lo' by_ nx fo ed la bl co) path.dropLast<cr g (bs pl lo by_ nx fo ed la bl co) path:=by
  subst eq el
  refine h.via hm hp hu ?_
  unfold fm
  rw[if_pos hn]
  unfold iV
  rw[if_neg hb]
  simp only
  rw[if_neg hc]
theorem gO.off2(hm:bO g)(h:gO g R (bs pl lo by_ nx fo ed la bl co) path)(hp:0<(path.length:Int))(hu:u=gI path ((path.length:Int)-1))(hn:gI nx u=((gI (aX g) u).length:Int))(hb:¬gI by_ u<0){q:Int}(eq:bf g (gI by_ u)=q){lo':List Int}(el:lo'=lo.set q.toNat (min (gI lo q) (gI lo u)))(hc:gI pl q<=gI lo' u):
    gO g R (gy (bs pl lo' by_ nx fo ed la bl co) (gI by_ u/2)) path.dropLast/\cr g (gy (bs pl lo' by_ nx fo ed la bl co) (gI by_ u/2)) path.dropLast<cr g (bs pl lo by_ nx fo ed la bl co) path:=by
  subst eq el
  refine h.via hm hp hu ?_
  unfold fm
  rw[if_pos hn]
  unfold iV
  rw[if_neg hb]
  simp only
  rw[if_pos hc]
theorem gO.loop1(hm:bO g)(h:gO g R (bs pl lo by_ nx fo ed la bl co) path)(hp:0<(path.length:Int))(hu:u=gI path ((path.length:Int)-1))(hn:¬gI nx u=((gI (aX g) u).length:Int))(eh:gI (gI (aX g) u) (gI nx u)=hh)(hl:¬gI la (hh/2)=true)(hw:cF g hh=u){s':Bs}(hc:gy (bs pl lo by_ (nx.set u.toNat (gI nx u+1)) fo (ed++[hh/2]) (la.set (hh/2).toNat true) bl co) (hh/2)=s'):
   gO g R s' path/\cr g s' path<cr g (bs pl lo by_ nx fo ed la bl co) path:=by
 subst hc;exact h.loop hm hp hu hn eh hl hw
theorem gO.off3(hm:bO g)(h:gO g R (bs pl lo by_ nx fo ed la bl co) path)(hp:0<(path.length:Int))(hu:u=gI path ((path.length:Int)-1))(hn:gI nx u=((gI (aX g) u).length:Int))(hb:¬gI by_ u<0){q:Int}(eq:bf g (gI by_ u)=q){lo':List Int}(el:lo'=lo.set q.toNat (min (gI lo q) (gI lo u)))(hc:gI pl q<=gI lo' u){s':Bs}(hcl:gy (bs pl lo' by_ nx fo ed la bl co) (gI by_ u/2)=s'):
   gO g R s' path.dropLast/\cr g s' path.dropLast<cr g (bs pl lo by_ nx fo ed la bl co) path:=by
 subst hcl;exact h.off2 hm hp hu hn hb eq el hc
structure tQ(ed:List Int)(x at_:Int):Prop where
  mem:x∈ed
  nd:ed.Nodup
  lo:0<=at_
  hi:at_<ed.length
  no:∀j:Int,at_<j->j<ed.length->gI ed j≠x
theorem tQ.start{x:Int}(hn:ed.Nodup)(hx:x∈ed):tQ ed x ((ed.length:Int)-1):=by
 have:0<ed.length:=List.length_pos_of_mem hx
 exact⟨hx,hn,by omega,by omega,λj a b=>by omega⟩
theorem tQ.next{x at_:Int}(h:tQ ed x at_)(hne:¬gI ed at_=x):tQ ed x (at_-1)/\1<=at_:=by
 have h1:=h.lo
 have h2:=h.hi
 have hp:1<=at_:=by
   by_cases c:1<=at_
   · exact c
   · exfalso
     obtain⟨i,hi,e⟩:=List.mem_iff_getElem.1 h.mem
     have e2:gI ed (i:Int)=x:=by rw[<-e];simp[gI,hi]
     by_cases k:(i:Int)=at_
     · rw[k] at e2;exact hne e2
     · exact h.no i (by omega) (by omega) e2
 refine⟨⟨h.mem,h.nd,by omega,by omega,λj a b=>?_⟩,hp⟩
 by_cases k:j=at_
 · rw[k];exact hne
 · exact h.no j (by omega) b
theorem tQ.done{x at_:Int}(h:tQ ed x at_)(he:gI ed at_=x):at_=(rq ed x:Int):=by
 obtain⟨A,B,e1,hA,hB,e2⟩:=sw h.nd h.mem
 have h1:=h.lo
 have h2:=h.hi
 rw[e2]
 have hl:ed.length=A.length+1+B.length:=by rw[e1];simp;omega
 have hA2:gI ed (A.length:Int)=x:=by rw[e1];simp[gI]
 rcases Int.lt_trichotomy at_ A.length with c|c|c
 · exact absurd hA2 (h.no _ c (by omega))
 · exact c
 · exfalso
   obtain⟨k,rfl⟩:∃k:Nat,at_=k:=⟨at_.toNat,by omega⟩
   have hk:k<ed.length:=by omega
   have e3:gI ed (k:Int)=ed[k]:=by simp[gI,hk]
   have:ed[k]∈B:=by
     have hk2:k-(A.length+1)<B.length:=by omega
     have e4:ed[k]=B[k-(A.length+1)]:=by
       have:ed[k]? =B[k-(A.length+1)]? :=by
         rw[e1,List.getElem?_append_right (by omega),List.getElem?_cons,if_neg (by omega)]
         congr 1
       rw[List.getElem?_eq_getElem hk,List.getElem?_eq_getElem hk2] at this
       exact Option.some.inj this
     rw[e4];exact List.getElem_mem hk2
   rw[e3] at he
   rw[he] at this
   exact hB this
end TL
namespace TL
open Go
theorem wi(n:Nat):n^^^1=if n%2=0 then n+1 else n-1:=by
 have h1:(n^^^1)%2=(n+1)%2:=by
   have:= @Nat.xor_mod_two_eq_one n 1
   by_cases c:(n^^^1)%2=1
   · have:=this.1 c;omega
   · have h3:¬¬(n%2=1↔1%2=1):=λk=>c (this.2 k)
     have h4:=Decidable.not_not.1 h3
     have:n%2=1:=h4.2 rfl
     omega
 have h2:(n^^^1)/2=n/2:=by rw[Nat.xor_div_two];simp
 split<;>omega
theorem vH{m:Int}(t:TypeId)(h0:0<=m)(h1:m<4611686018427387904):binOp .xor t (.int .i64 m) (.int .i64 1)=pure (.int .i64 (lN m)):=by
 obtain⟨n,rfl⟩:=Int.eq_ofNat_of_zero_le h0
 have hn:n<4611686018427387904:=by omega
 have e:(BitVec.ofInt 64 (n:Int)^^^BitVec.ofInt 64 1).toNat=n^^^1:=by
   rw[BitVec.toNat_xor]
   have e1:(BitVec.ofInt 64 (n:Int)).toNat=n:=by
     rw[BitVec.toNat_ofInt];omega
   have e2:(BitVec.ofInt 64 (1:Int)).toNat=1:=by decide
   rw[e1,e2]
 have h3:(((n^^^1:Nat)):Int)=lN (n:Int):=by
   rw[wi];unfold lN
   split<;>split<;>omega
 show(pure (Value.int .i64 (IntKind.i64.wrap ((BitVec.ofInt 64 (n:Int)^^^BitVec.ofInt 64 1).toNat:Int))):Sem Value)=_
 rw[e,h3,jT]
 unfold lN;unfold Ca;split<;>omega
end TL
namespace TL
variable{g:bN}{s:Bs}{path:List Int}
theorem xH(h:ga g s path):0<=s.found/\s.found<=g.1/\0<=s.count/\s.count+(s.edges.length:Int)<=(g.2.length:Int):=by
  have h1:=h.fn
  have h2:=h.cl
  have h3:s.laid.count true<=s.laid.length:=List.count_le_length
  have h4:=h.l5
  exact⟨h.f0,by omega,h.ct,by omega⟩
theorem C6{l:List Int}{n q:Nat}(h:l=List.replicate q (-1)++List.replicate (n-q) 0)(hq:q<=n):l.length=n:=by
 rw[h];simp;omega
theorem xa{l:List Int}{n q:Nat}(h:l=List.replicate q (-1)++List.replicate (n-q) 0)(hq:q<n):l.set (Int.toNat (q:Int)) (-1)=List.replicate (q+1) (-1)++List.replicate (n-(q+1)) 0:=by
 rw[h,Int.toNat_natCast,List.set_append_right _ _ (by simp)]
 simp only[List.length_replicate,Nat.sub_self]
 rw[show n-q=(n-(q+1))+1 by omega,List.replicate_succ,List.set_cons_zero,List.replicate_succ',List.append_assoc]
 rfl
def vW(L bl:List Int)(co:Int)(k:Nat):List Int:=(L.take k).foldl (λb x=>b.set x.toNat co) bl
theorem CV{L bl:List Int}{co:Int}:bl=vW L bl co 0:=rfl
theorem tL{L bl b:List Int}{co:Int}{k:Nat}(h:b=vW L bl co k):b.length=bl.length:=by rw[h];unfold vW;exact n5 _ _ _
theorem qC{L bl b:List Int}{co:Int}{k:Nat}(h:b=vW L bl co k)(hk:(k:Int)<L.length):b.set (gI L (k:Int)).toNat co=vW L bl co (k+1):=by
 have hk':k<L.length:=by omega
 unfold vW at*
 rw[List.take_succ_eq_append_getElem hk',List.foldl_append,<-h]
 have e:gI L (k:Int)=L[k]:=by simp[gI,hk']
 rw[e];rfl
theorem lg{pl lo by_ nx:List Int}{fo:Int}{ed:List Int}{la:List Bool}{bl:List Int}{co x at_:Int}{bk:List Int}{k:Nat}(ha:tQ ed x at_)(he:gI ed at_=x)(hb:bk=vW (List.drop (Int.toNat at_) (List.take (Int.toNat (ed.length:Int)) ed)) bl co k)
   (hk:¬(k:Int)<((List.drop (Int.toNat at_) (List.take (Int.toNat (ed.length:Int)) ed)).length:Int))(hk2:(k:Int)<=((List.drop (Int.toNat at_) (List.take (Int.toNat (ed.length:Int)) ed)).length:Int)):
   gy (bs pl lo by_ nx fo ed la bl co) x=bs pl lo by_ nx fo (ed.take (Int.toNat at_)) la bk (co+1):=by
 have e:=ha.done he
 have el:List.drop (Int.toNat at_) (List.take (Int.toNat (ed.length:Int)) ed)=ed.drop (rq ed x):=by
   rw[e,Int.toNat_natCast,Int.toNat_natCast,List.take_length]
 rw[el] at hb hk hk2
 have hk3:k=(ed.drop (rq ed x)).length:=by omega
 unfold gy
 rw[hb]
 unfold vW
 rw[hk3,List.take_length,e,Int.toNat_natCast]
theorem gN{path:List Int}:List.take (Int.toNat ((path.length:Int)-1)) path=path.dropLast:=by
 rw[List.dropLast_eq_take];congr 1;omega
theorem C5{s s':Bs}{v:Nat}(h:s=il g v)(hp:gI s.place (v:Int)=0)(hR:s'=gF g s (v:Int)):s'=il g (v+1):=by
 rw[lu,<-h,if_pos hp];exact hR
theorem E2{s:Bs}{v:Nat}(h:s=il g v)(hp:¬gI s.place (v:Int)=0):s=il g (v+1):=by
 rw[lu,<-h,if_neg hp]
end TL
namespace TL
variable{g:bN}{of o:List Int}{c:List Bool}{k:Nat}
structure fG(of:List Int)(g:bN)(o:List Int)(c:List Bool)(k:Nat):Prop where
  eq:(o,c)=vo of g k
  lo:(o.length:Int)=g.1
  lc:(c.length:Int)=g.1
theorem Cu{pl lo by_ nx:List Int}{fo:Int}{ed:List Int}{la:List Bool}{bl:List Int}{co:Int}{path:List Int}{O:List (List Int)}{u:Int}(h:ga g (bs pl lo by_ nx fo ed la bl co) path)(hO:O=aX g)(hp:0<(path.length:Int))(hu:gI path ((path.length:Int)-1)=u):
    ((0<=u/\u<g.1)/\(0<=gI nx u/\gI nx u<=((gI O u).length:Int)))/\(gI by_ u= -1\/(0<=gI by_ u/\gI by_ u<2*(g.2.length:Int))):=by
  have hm:=h.pr _ (bz (xs:=path) (i:=(path.length:Int)-1) (by omega) (by omega))
  rw[hu] at hm
  rw[hO]
  refine⟨⟨hm.1,h.nx _ hm.1.1 hm.1.2⟩,?_⟩
  rcases h.by_ _ hm.1.1 hm.1.2 with k|k
  · exact .inl k
  · exact .inr k.1
theorem Bn{pl lo by_ nx:List Int}{fo:Int}{ed:List Int}{la:List Bool}{bl:List Int}{co:Int}{path:List Int}{O:List (List Int)}{u:Int}(hm:bO g)(h:ga g (bs pl lo by_ nx fo ed la bl co) path)(hO:O=aX g)(u0:0<=u)(u1:u<g.1)(hn:¬gI nx u=((gI O u).length:Int)):
   (0<=gI (gI O u) (gI nx u)/\gI (gI O u) (gI nx u)<2*(g.2.length:Int))/\(0<=cF g (gI (gI O u) (gI nx u))/\cF g (gI (gI O u) (gI nx u))<g.1):=by
 obtain⟨n0,n1⟩:=h.nx u u0 u1
 rw[hO] at hn ⊢
 have hin:gI (gI (aX g) u) (gI nx u)∈gI (aX g) u:=bz n0 (by
   have n1':gI nx u<=((gI (aX g) u).length:Int):=n1
   omega)
 rw[jm u0 u1] at hin
 have ho:=(f4 hin).1
 rw[<-jm u0 u1] at ho
 exact⟨ho,fQ hm ho.1 ho.2⟩
theorem fG.start(h0:0<=g.1):fG of g (List.replicate (Int.toNat g.1) 0) (List.replicate (Int.toNat g.1) false) 0:=⟨rfl,by simp;omega,by simp;omega⟩
theorem fG.next(h:fG of g o c k){v e b:Int}{bb:Bool}(hv:bf g (k:Int)=v)(he:(k:Int)/2=e)(hb:b=gI of e+1)(hbb:bb=(gI c v||(decide (0<gI o v)&& !decide (gI o v=gI of e+1)))):fG of g (o.set (Int.toNat v) b) (c.set (Int.toNat v) bb) (k+1):=by
 subst hv he hb hbb
 refine⟨?_,by rw[List.length_set];exact h.lo,by rw[List.length_set];exact h.lc⟩
 unfold vo
 rw[dE,List.foldl_append]
 show _=EG of g (vo of g k) (k:Int)
 rw[<-h.eq];rfl
theorem fG.fst(h:fG of g o c (2*k)){v b:Int}{bb:Bool}(hv:(gI g.2 (k:Int)).1=v)(hb:b=gI of (k:Int)+1)(hbb:bb=(gI c v||(decide (0<gI o v)&& !decide (gI o v=gI of (k:Int)+1)))):fG of g (o.set (Int.toNat v) b) (c.set (Int.toNat v) bb) (2*k+0+1):=by
 have e1:((2*k:Nat):Int)/2=(k:Int):=by omega
 have f1:bf g ((2*k:Nat):Int)=v:=by
   rw[<-hv];unfold bf;rw[e1,show((2*k:Nat):Int)%2=0 by omega];rfl
 exact h.next f1 e1 hb hbb
theorem fG.snd(h:fG of g o c (2*k+0+1)){v b:Int}{bb:Bool}(hv:(gI g.2 (k:Int)).2=v)(hb:b=gI of (k:Int)+1)(hbb:bb=(gI c v||(decide (0<gI o v)&& !decide (gI o v=gI of (k:Int)+1)))):fG of g (o.set (Int.toNat v) b) (c.set (Int.toNat v) bb) (2*k+1+1):=by
 have e2:((2*k+0+1:Nat):Int)/2=(k:Int):=by omega
 have f2:bf g ((2*k+0+1:Nat):Int)=v:=by
   rw[<-hv];unfold bf;rw[e2,show((2*k+0+1:Nat):Int)%2=1 by omega];rfl
 exact h.next f2 e2 hb hbb
theorem xd{x y:Bool}(h:x=true):true=(x||y):=by rw[h];rfl
theorem yR{x:Bool}{y:Int}{q:Prop}[Decidable q](h:¬x=true)(hp:¬0<y):false=(x||(decide (0<y)&& !decide q)):=by
 rw[decide_eq_false hp];simpa using h
theorem As{x:Bool}{y:Int}{q:Prop}[Decidable q](h:¬x=true)(hp:0<y):(!decide q)=(x||(decide (0<y)&& !decide q)):=by
 have:x=false:=by simpa using h
 rw[this,decide_eq_true hp];simp
theorem Aa{a:List Int}{l:List Bool}{k:Nat}(h:a=(bQ k).filter λv=>gI l v):(a.length:Int)<=(k:Int):=by
 have h1:=List.length_filter_le (λv=>gI l v) (bQ k)
 have h2:(bQ k).length=k:=by simp[bQ]
 rw[h];omega
theorem xY{a:List Int}{l:List Bool}{k:Nat}(h:a=(bQ k).filter λv=>gI l v)(hk:gI l (k:Int)=true):a++[(k:Int)]=(bQ (k+1)).filter λv=>gI l v:=by
 rw[h,dE,List.filter_append];simp[hk]
theorem Cz{a:List Int}{l:List Bool}{k:Nat}(h:a=(bQ k).filter λv=>gI l v)(hk:¬gI l (k:Int)=true):a=(bQ (k+1)).filter λv=>gI l v:=by
 rw[h,dE,List.filter_append];simp[hk]
end TL
namespace TL
variable{g:bN}
theorem Bb{pl lo by_ nx:List Int}{fo:Int}{ed:List Int}{la:List Bool}{bl:List Int}{co:Int}{path:List Int}(h0:0<=g.1)(h:ga g (bs pl lo by_ nx fo ed la bl co) path):(path.length:Int)<=g.1:=by
 have:=sV g.1.toNat path h.pn (λx hx=>by have:=(h.pr x hx).1;omega)
 omega
theorem Ek{b:List Int}{q:Nat}(hb:b=List.replicate q (-1)++List.replicate (Int.toNat g.1-q) 0)(hq:(q:Int)=g.1):
   bs (List.replicate (Int.toNat g.1) 0) (List.replicate (Int.toNat g.1) 0) b (List.replicate (Int.toNat g.1) 0) 0 [] (List.replicate (Int.toNat (g.2.length:Int)) false) (List.replicate (Int.toNat (g.2.length:Int)) 0) 0=il g 0:=by
 have e:q=Int.toNat g.1:=by omega
 subst e
 rw[hb,Nat.sub_self,List.replicate_zero,List.append_nil,Int.toNat_natCast];rfl
theorem AZ(g:bN):0<=kH g/\kH g<=(g.2.length:Int):=by
 have:=(mT (il g g.1.toNat).block g.2.length).2
 unfold kH;omega
theorem xP{b:List Int}(hb:b=(il g (Int.toNat g.1)).block)(hl:(b.length:Int)=g.2.length):bL b b.length=(bL (il g g.1.toNat).block g.2.length):=by
 have:b.length=g.2.length:=by omega
 rw[this,hb]
theorem gO.fin{R s:Bs}{path:List Int}(h:gO g R s path)(hp:¬0<(path.length:Int)):s=R:=by
 have e:path=[]:=List.eq_nil_of_length_eq_zero (by omega)
 subst e
 exact h.done
def cY(g:bN):List Int×List Int×Int:=(og g,tV g,kH g)
theorem si{b cu oo:List Int}{cc:List Bool}{j k:Nat}(hnam:bL b b.length=bL (il g g.1.toNat).block g.2.length)(hcu:cu=(bQ j).filter λv=>gI cc v)(hj:(j:Int)=(cc.length:Int))(hci:fG (og g) g oo cc (2*k))(hk:(k:Int)=(g.2.length:Int)):
   ((bL b b.length).2,cu,((bL b b.length).1.length:Int))=cY g:=by
 have e1:k=g.2.length:=by omega
 have e2:j=g.1.toNat:=by have:=hci.lc;omega
 have e3:cc=(vo (og g) g (2*g.2.length)).2:=by rw[<-e1,<-hci.eq]
 rw[hnam,hcu,e2,e3];rfl
end TL
set_option linter.all false
namespace TL
variable{g:bN}{s v c hh:Int}{st:Bf}{dh:Int->Prop}
theorem xX{x:Int}(hx:hf g x):x∈d6 g (bf g x):=by
 unfold d6 j5
 exact List.mem_filter.2 ⟨List.mem_map.2 ⟨x.toNat,List.mem_range.2 (by have:=hx.1;have:=hx.2;omega),Int.toNat_of_nonneg hx.1⟩,decide_eq_true rfl⟩
end TL
set_option linter.all false
namespace TL
structure ib(g g':bN)(gone:List Bool)(ps:Int->Prop):Prop where
  hm:bO g
  hm':bO g'
  n:g'.1=g.1
  pg:∀h,ps h->¬gI gone (bf g h)=true/\¬gI gone (cF g h)=true
  one:∀h,hf g h->ps h->Cn g' (bf g h) (cF g h)
  cl:∀S:Int->Prop,(∀h,hf g h->ps h->S (bf g h)->S (cF g h))->∀u v,Cn g' u v->S u->S v
def jj(g':bN)(gone:List Bool)(p:List Int×Int)(v:Int):List Int×Int:=
 if 0<=gI p.1 v\/gI gone v=true then p else((cR g' v).order.foldl (λl w=>l.set w.toNat p.2) p.1,p.2+1)
def bE(g':bN)(gone:List Bool)(k:Nat):List Int×Int:=(bQ k).foldl (jj g' gone) (List.replicate g'.1.toNat (-1),0)
section
variable{g g':bN}{gone:List Bool}{ps:Int->Prop}{u v x y:Int}
theorem iN(g':bN)(gone:List Bool)(k:Nat):bE g' gone (k+1)=jj g' gone (bE g' gone k) (k:Int):=by
 unfold bE
 rw[dE,List.foldl_append];rfl
theorem ib.nd(hP:ib g g' gone ps):ke g' v↔ke g v:=by unfold ke;rw[hP.n]
theorem ib.iso(hP:ib g g' gone ps)(hu:gI gone u=true)(hc:Cn g' u v):v=u:=
  hP.cl (λz=>z=u) (λh _ hp e=>absurd (by rw[e];exact hu) (hP.pg h hp).1) u v hc rfl
theorem ib.ng(hP:ib g g' gone ps)(hd:ke g u)(hd2:ke g v)(hc:Cn g' u v)(hu:¬gI gone u=true):¬gI gone v=true:=λk=>by
 have:=hP.iso k ((Cn.eqv g').symm _ _ (hP.nd.2 hd) (hP.nd.2 hd2) hc)
 rw[this] at hu;exact hu k
structure Et(g g':bN)(gone:List Bool)(p:List Int×Int)(l:List Int)(k:Nat):Prop where
  len:(p.1.length:Int)=g.1
  num:p.2=(l.length:Int)
  nd:l.Nodup
  dom:∀x∈l,ke g x/\¬gI gone x=true
  one:∀x∈l,∀y∈l,Cn g' x y->x=y
  iff:∀v,ke g v->(0<=gI p.1 v↔∃y∈l,Cn g' v y)
  all:∀v:Nat,v<k->(v:Int)<g.1->¬gI gone (v:Int)=true->∃y∈l,Cn g' (v:Int) y
  top:∀v,ke g v->gI p.1 v<p.2
  lab:∀u v,ke g u->ke g v->0<=gI p.1 u->(gI p.1 u=gI p.1 v↔Cn g' u v)
  le:l.length<=k
theorem ib.inv(hP:ib g g' gone ps):∀k:Nat,(k:Int)<=g.1->∃l,Et g g' gone (bE g' gone k) l k
 |0,_=>by
   have h0:=hP.hm.1
   have e:(bE g' gone 0).1=List.replicate g.1.toNat (-1):=by simp[bE,bQ,hP.n]
   have r:∀v,ke g v->gI (bE g' gone 0).1 v= -1:=λv hv=>by rw[e,kA hv.1 (by have:=hv.2;omega)]
   have e2:(bE g' gone 0).2=0:=by simp[bE,bQ]
   refine⟨[],by rw[e];simp;omega,by rw[e2];rfl,by simp,by simp,by simp,λv hv=>by rw[r v hv];simp,λv hv=>by omega,λv hv=>by rw[r v hv,e2];omega,λu v hu _ h=>by rw[r u hu] at h;omega,Nat.le_refl _⟩
 |k+1,hk=>by
   obtain⟨l,h⟩:=hP.inv k (by omega)
   have hkd:ke g (k:Int):=⟨by omega,by omega⟩
   have hkd':=hP.nd.2 hkd
   obtain⟨hb1,hb2⟩:=mm hP.hm' hkd'
   have hq:=Cn.eqv g'
   rw[iN]
   unfold jj
   by_cases c:0<=gI (bE g' gone k).1 (k:Int)\/gI gone (k:Int)=true
   · rw[if_pos c]
     refine⟨l,h.len,h.num,h.nd,h.dom,h.one,h.iff,λv hv hg hn=>?_,h.top,h.lab,by have:=h.le;omega⟩
     by_cases e:v=k
     · subst e;exact(h.iff _ hkd).1 (c.resolve_right hn)
     · exact h.all v (by omega) hg hn
   · rw[if_neg c]
     have c1:¬0<=gI (bE g' gone k).1 (k:Int):=λj=>c (.inl j)
     have c2:¬gI gone (k:Int)=true:=λj=>c (.inr j)
     have hno:∀y∈l,¬Cn g' (k:Int) y:=λy hy hc=>c1 ((h.iff _ hkd).2 ⟨y,hy,hc⟩)
     have hlen:=h.len
     have hnn:0<=(bE g' gone k).2:=by rw[h.num];omega
     have hset:∀v,ke g v->gI ((cR g' (k:Int)).order.foldl (λl w=>l.set w.toNat (bE g' gone k).2) (bE g' gone k).1) v=if v∈(cR g' (k:Int)).order then(bE g' gone k).2 else gI (bE g' gone k).1 v:=λv hv=>pY _ _ v hv.1 (by have:=hv.2;omega) (λx hx=>by have:=hb1 x hx;exact⟨this.1,by have:=this.2;rw[hP.n] at this;omega⟩)
     have hmem:∀v,v∈(cR g' (k:Int)).order->ke g v:=λv hv=>hP.nd.1 (hb1 v hv)
     have hnew:∀v,v∈(cR g' (k:Int)).order->gI (bE g' gone k).1 v<0:=λv hv=>by
       refine Int.not_le.1 λj=>?_
       obtain⟨y,hy,hc⟩:=(h.iff v (hmem v hv)).1 j
       exact hno y hy (hq.trans _ _ _ hkd' (hb1 v hv) (hP.nd.2 (h.dom y hy).1) ((hb2 v).1 hv) hc)
     refine⟨l++[(k:Int)],?_,?_,?_,?_,?_,?_,?_,?_,?_,by rw[List.length_append,List.length_singleton];have:=h.le;omega⟩
     · simp only;rw[gL];exact hlen
     · simp only[h.num];simp
     · rw[List.nodup_append]
       refine⟨h.nd,by simp,λa ha b hb e=>?_⟩
       obtain rfl:=List.mem_singleton.1 hb
       subst e
       exact hno _ ha (hq.rfl _ hkd')
     · intro x hx
       rcases List.mem_append.1 hx with hx|hx
       · exact h.dom x hx
       · obtain rfl:=List.mem_singleton.1 hx;exact⟨hkd,c2⟩
     · intro x hx y hy hc
       rcases List.mem_append.1 hx with hx|hx
       · rcases List.mem_append.1 hy with hy|hy
         · exact h.one x hx y hy hc
         · obtain rfl:=List.mem_singleton.1 hy
           exact absurd (hq.symm _ _ (hP.nd.2 (h.dom x hx).1) hkd' hc) (hno x hx)
       · obtain rfl:=List.mem_singleton.1 hx
         rcases List.mem_append.1 hy with hy|hy
         · exact absurd hc (hno y hy)
         · obtain rfl:=List.mem_singleton.1 hy;rfl
     · intro v hv
       simp only
       rw[hset v hv]
       by_cases hvo:v∈(cR g' (k:Int)).order
       · rw[if_pos hvo]
         exact⟨λ_=>⟨(k:Int),by simp,hq.symm _ _ hkd' (hP.nd.2 hv) ((hb2 v).1 hvo)⟩,λ_=>hnn⟩
       · rw[if_neg hvo,h.iff v hv]
         constructor
         · rintro⟨y,hy,hc⟩;exact⟨y,by simp[hy],hc⟩
         · rintro⟨y,hy,hc⟩
           rcases List.mem_append.1 hy with hy|hy
           · exact⟨y,hy,hc⟩
           · obtain rfl:=List.mem_singleton.1 hy
             exact absurd ((hb2 v).2 (hq.symm _ _ (hP.nd.2 hv) hkd' hc)) hvo
     · intro v hv hg hn
       by_cases e:v=k
       · subst e;exact⟨(v:Int),by simp,hq.rfl _ hkd'⟩
       · obtain⟨y,hy,hc⟩:=h.all v (by omega) hg hn
         exact⟨y,by simp[hy],hc⟩
     · intro v hv
       simp only
       rw[hset v hv]
       have:=h.top v hv
       split<;>omega
     · intro u v hu hv h0
       simp only at h0 ⊢
       rw[hset u hu] at h0 ⊢
       rw[hset v hv]
       have tu:=h.top u hu
       have tv:=h.top v hv
       by_cases a:u∈(cR g' (k:Int)).order
       · rw[if_pos a]
         by_cases b:v∈(cR g' (k:Int)).order
         · rw[if_pos b]
           exact⟨λ_=>hq.trans _ _ _ (hP.nd.2 hu) hkd' (hP.nd.2 hv) (hq.symm _ _ hkd' (hP.nd.2 hu) ((hb2 u).1 a)) ((hb2 v).1 b),λ_=>rfl⟩
         · rw[if_neg b]
           exact⟨λj=>by omega,λj=>absurd ((hb2 v).2 (hq.trans _ _ _ hkd' (hP.nd.2 hu) (hP.nd.2 hv) ((hb2 u).1 a) j)) b⟩
       · rw[if_neg a] at h0 ⊢
         by_cases b:v∈(cR g' (k:Int)).order
         · rw[if_pos b]
           exact⟨λj=>by omega,λj=>absurd ((hb2 u).2 (hq.trans _ _ _ hkd' (hP.nd.2 hv) (hP.nd.2 hu) ((hb2 v).1 b) (hq.symm _ _ (hP.nd.2 hu) (hP.nd.2 hv) j))) a⟩
         · rw[if_neg b]
           exact h.lab u v hu hv h0
structure fx(g g':bN)(ps:Int->Prop)(c0 c todo x:List Int)(n s:Int):Prop where
  len:(c.length:Int)=g.1
  n0:0<=n
  sd:ke g s
  pre:∀w,ke g w->Cn g' s w->gI c0 w<0
  cmp:∀w,ke g w->(Cn g' s w/\gI c w=n)\/gI c w=gI c0 w
  nd:todo.Nodup
  tds:∀t∈todo,ke g t/\Cn g' s t/\gI c t=n
  clo:∀v,ke g v->Cn g' s v->gI c v=n->v∉todo->v∉x->∀h∈d6 g v,ps h->0<=gI c (cF g h)
  src:gI c s=n
theorem fx.start(hP:ib g g' gone ps){c0:List Int}{n:Int}{q:Nat}(hq:(q:Int)<g.1)(h:c0=(bE g' gone q).1/\n=(bE g' gone q).2)(c:¬0<=gI c0 (q:Int)):fx g g' ps c0 (c0.set (q:Int).toNat n) [(q:Int)] [] n (q:Int):=by
 obtain⟨l,hi⟩:=hP.inv q (by omega)
 obtain⟨rfl,rfl⟩:=h
 have hqd:ke g (q:Int):=⟨by omega,hq⟩
 have hqd':=hP.nd.2 hqd
 have hn:0<=(bE g' gone q).2:=by rw[hi.num];omega
 have hlen:=hi.len
 have hcn:=Cn.eqv g'
 have hpre:∀w,ke g w->Cn g' (q:Int) w->gI (bE g' gone q).1 w<0:=λw hw hc=>by
   refine Int.not_le.1 λh0=>c ?_
   obtain⟨y,hy,hwy⟩:=(hi.iff w hw).1 h0
   exact(hi.iff _ hqd).2 ⟨y,hy,hcn.trans _ _ _ hqd' (hP.nd.2 hw) (hP.nd.2 (hi.dom y hy).1) hc hwy⟩
 have hset:∀w,ke g w->gI ((bE g' gone q).1.set (q:Int).toNat (bE g' gone q).2) w=if w=q then(bE g' gone q).2 else gI (bE g' gone q).1 w:=λw hw=>dJ (by omega) (by omega) hw.1
 refine⟨by simpa using hlen,hn,hqd,hpre,λw hw=>?_,by simp,λt ht=>?_,λv hv hc e hnt _=>?_,?_⟩
 · rw[hset w hw]
   by_cases e:w=q
   · subst e;exact .inl ⟨hcn.rfl _ hqd',if_pos rfl⟩
   · rw[if_neg e];exact .inr rfl
 · obtain rfl:=List.mem_singleton.1 ht
   exact⟨hqd,hcn.rfl _ hqd',by rw[hset _ hqd,if_pos rfl]⟩
 · have hne:v≠q:=λe=>hnt (by simp[e])
   rw[hset v hv,if_neg hne] at e
   have:=hpre v hv hc
   omega
 · rw[hset _ hqd,if_pos rfl]
end
section
variable{g g':bN}{gone:List Bool}{ps:Int->Prop}{c0 c todo x:List Int}{n s:Int}
theorem fx.bd(h:fx g g' ps c0 c todo x n s):(todo.length:Int)<=g.1:=by
 have h1:=h.sd.1
 have h2:=h.sd.2
 exact qV (by omega) h.nd (λt ht=>(h.tds t ht).1)
theorem fx.pop(h:fx g g' ps c0 c todo [] n s)(ht:0<todo.length):fx g g' ps c0 c (todo.take (todo.length-1)) [gI todo ((todo.length:Int)-1)] n s/\ke g (gI todo ((todo.length:Int)-1))/\Cn g' s (gI todo ((todo.length:Int)-1))/\gI c (gI todo ((todo.length:Int)-1))=n:=by
 have hm:=bz (xs:=todo) (i:=(todo.length:Int)-1) (by omega) (by omega)
 have hs:=bc (xs:=todo) (k:=todo.length-1) (by omega)
 rw[List.take_of_length_le (by omega),show((todo.length-1:Nat):Int)=(todo.length:Int)-1 by omega] at hs
 refine⟨⟨h.len,h.n0,h.sd,h.pre,h.cmp,h.nd.sublist (List.take_sublist _ _),λt ht=>h.tds t (List.mem_of_mem_take ht),λv hv hc e hnt hnx=>h.clo v hv hc e (λhm=>?_) (by simp),h.src⟩,h.tds _ hm⟩
 rw[hs] at hm
 rcases List.mem_append.1 hm with hm|hm
 · exact hnt hm
 · exact hnx hm
theorem fx.push(hP:ib g g' gone ps)(h:fx g g' ps c0 c todo x n s){v:Int}(hv:ke g v)(hc:Cn g' s v){hh:Int}(hh0:hh∈d6 g v)(hps:ps hh)(hw:gI c (cF g hh)<0):fx g g' ps c0 (c.set (cF g hh).toNat n) (todo++[cF g hh]) x n s/\∀u,0<=u->0<=gI c u->0<=gI (c.set (cF g hh).toNat n) u:=by
 obtain⟨⟨a1,a2⟩,a3⟩:=f4 hh0
 have hto:=fQ hP.hm a1 a2
 have hlen:=h.len
 have hn:=h.n0
 have hcw:Cn g' s (cF g hh):=(Cn.eqv g').trans _ _ _ (hP.nd.2 h.sd) (hP.nd.2 hv) (hP.nd.2 hto) hc (by have:=hP.one hh ⟨a1,a2⟩ hps;rwa[a3] at this)
 have hset:∀u,0<=u->gI (c.set (cF g hh).toNat n) u=if u=cF g hh then n else gI c u:=λu h0=>dJ hto.1 (by omega) h0
 have hmono:∀u,0<=u->0<=gI c u->0<=gI (c.set (cF g hh).toNat n) u:=λu h0 h1=>by
   rw[hset u h0];split<;>omega
 refine⟨⟨by simpa using hlen,hn,h.sd,h.pre,λw hwd=>?_,?_,λt ht=>?_,λv' hv' hc' e hnt hnx h' hh' hp'=>?_,?_⟩,hmono⟩
 · rw[hset w hwd.1]
   by_cases e:w=cF g hh
   · subst e;exact .inl ⟨hcw,if_pos rfl⟩
   · rw[if_neg e];exact h.cmp w hwd
 · rw[List.nodup_append]
   refine⟨h.nd,by simp,λa ha b hb e=>?_⟩
   obtain rfl:=List.mem_singleton.1 hb
   have:=(h.tds a ha).2.2
   rw[e] at this
   omega
 · rcases List.mem_append.1 ht with ht|ht
   · obtain⟨b1,b2,b3⟩:=h.tds t ht
     refine⟨b1,b2,?_⟩
     rw[hset t b1.1];split
     · rfl
     · exact b3
   · obtain rfl:=List.mem_singleton.1 ht
     exact⟨hto,hcw,by rw[hset _ hto.1,if_pos rfl]⟩
 · have hne:v'≠cF g hh:=λe=>hnt (by simp[e])
   rw[hset v' hv'.1,if_neg hne] at e
   have b:=f4 hh'
   exact hmono _ (fQ hP.hm b.1.1 b.1.2).1 (h.clo v' hv' hc' e (λhm=>hnt (by simp[hm])) hnx h' hh' hp')
 · rw[hset s h.sd.1];split
   · rfl
   · exact h.src
structure gD(g g':bN)(ps:Int->Prop)(c0 c todo:List Int)(n s v:Int)(k M:Nat):Prop where
  inv:fx g g' ps c0 c todo [v] n s
  vd:ke g v
  vc:Cn g' s v
  row:∀i:Nat,i<k->(i:Int)<(d6 g v).length->ps (gI (d6 g v) (i:Int))->0<=gI c (cF g (gI (d6 g v) (i:Int)))
  meas:todo.length+2*ly c<M
theorem fx.row(h:fx g g' ps c0 c todo [] n s)(ht:0<todo.length):gD g g' ps c0 c (todo.take (todo.length-1)) n s (gI todo ((todo.length:Int)-1)) 0 (todo.length+2*ly c):=by
 obtain⟨h1,h2,h3,h4⟩:=h.pop ht
 exact⟨h1,h2,h3,λi hi=>by omega,by rw[List.length_take];omega⟩
variable{v:Int}{k M:Nat}
theorem gD.skip(h:gD g g' ps c0 c todo n s v k M)(hk:ps (gI (d6 g v) (k:Int))->0<=gI c (cF g (gI (d6 g v) (k:Int)))):gD g g' ps c0 c todo n s v (k+1) M:=
 ⟨h.inv,h.vd,h.vc,λi hi hl hp=>by
   by_cases e:i=k
   · subst e;exact hk hp
   · exact h.row i (by omega) hl hp,h.meas⟩
theorem gD.push(hP:ib g g' gone ps)(h:gD g g' ps c0 c todo n s v k M)(hl:(k:Int)<(d6 g v).length)(hps:ps (gI (d6 g v) (k:Int)))(hk:¬0<=gI c (cF g (gI (d6 g v) (k:Int)))):gD g g' ps c0 (c.set (cF g (gI (d6 g v) (k:Int))).toNat n) (todo++[cF g (gI (d6 g v) (k:Int))]) n s v (k+1) M:=by
 have hmem:=bz (xs:=d6 g v) (i:=(k:Int)) (by omega) hl
 obtain⟨h1,h2⟩:=h.inv.push hP h.vd h.vc hmem hps (by omega)
 have b:=f4 hmem
 have hto:=fQ hP.hm b.1.1 b.1.2
 have hlen:=h.inv.len
 have hn:=h.inv.n0
 have hme:=h.meas
 have hcn:=yI (c:=c) (w:=cF g (gI (d6 g v) (k:Int))) (n:=n) hto.1 (by omega) (by omega) hn
 refine⟨h1,h.vd,h.vc,λi hi hil hp=>?_,?_⟩
 · by_cases e:i=k
   · subst e
     rw[dJ hto.1 (by omega) hto.1,if_pos rfl];exact hn
   · have bi:=f4 (bz (xs:=d6 g v) (i:=(i:Int)) (by omega) hil)
     exact h2 _ (fQ hP.hm bi.1.1 bi.1.2).1 (h.row i (by omega) hil hp)
 · rw[List.length_append,List.length_singleton];omega
theorem gD.done(h:gD g g' ps c0 c todo n s v k M)(hl:¬(k:Int)<(d6 g v).length):fx g g' ps c0 c todo [] n s:=
 ⟨h.inv.len,h.inv.n0,h.inv.sd,h.inv.pre,h.inv.cmp,h.inv.nd,h.inv.tds,λu hu hc e hnt _ hh hhu hp=>by
   by_cases e2:u=v
   · subst e2
     obtain⟨i,hi,rfl⟩:=List.mem_iff_getElem.1 hhu
     have e3:gI (d6 g u) (i:Int)=(d6 g u)[i]:=by simp[gI,hi]
     rw[<-e3] at hp ⊢
     exact h.row i (by omega) (by omega) hp
   · exact h.inv.clo u hu hc e hnt (by simp[e2]) hh hhu hp,h.inv.src⟩
theorem fx.done(hP:ib g g' gone ps){q:Nat}(h:fx g g' ps c0 c todo [] n (q:Int))(ht:¬0<todo.length)(h0:c0=(bE g' gone q).1/\n=(bE g' gone q).2)(hc:¬0<=gI c0 (q:Int))(hg:¬gI gone (q:Int)=true):c=(bE g' gone (q+1)).1/\n+1=(bE g' gone (q+1)).2:=by
 have hnil:todo=[]:=List.eq_nil_of_length_eq_zero (by omega)
 subst hnil
 have hsd:=h.sd
 have hsd':=hP.nd.2 hsd
 obtain⟨hb1,hb2⟩:=mm hP.hm' hsd'
 obtain⟨l,hi⟩:=hP.inv q (by have:=hsd.2;omega)
 have hpl:=hi.len
 have hcn:=Cn.eqv g'
 have hall:∀w,Cn g' (q:Int) w->gI c w=n:=λw hw=>
   (hP.cl (λw=>(ke g w/\Cn g' (q:Int) w)/\gI c w=n) (λhh hhf hp hx=>by
     have hto:=fQ hP.hm hhf.1 hhf.2
     have hcx:Cn g' (q:Int) (cF g hh):=hcn.trans _ _ _ hsd' (hP.nd.2 hx.1.1) (hP.nd.2 hto) hx.1.2 (hP.one hh hhf hp)
     have h1:=h.clo _ hx.1.1 hx.1.2 hx.2 (by simp) (by simp) hh (xX hhf) hp
     refine⟨⟨hto,hcx⟩,?_⟩
     rcases h.cmp _ hto with e|e
     · exact e.2
     · have:=h.pre _ hto hcx
       omega) _ _ hw ⟨⟨h.sd,hcn.rfl _ hsd'⟩,h.src⟩).2
 have h1:bE g' gone (q+1)=((cR g' (q:Int)).order.foldl (λl w=>l.set w.toNat (bE g' gone q).2) (bE g' gone q).1,(bE g' gone q).2+1):=by
   rw[iN]
   unfold jj
   rw[if_neg (λj=>j.elim (λj=>hc (by rw[h0.1];exact j)) hg)]
 have hlen:=h.len
 have hsd2:=hsd.2
 rw[h1]
 refine⟨?_,by rw[h0.2]⟩
 simp only
 have hl2:(((cR g' (q:Int)).order.foldl (λl w=>l.set w.toNat (bE g' gone q).2) (bE g' gone q).1).length:Int)=g.1:=by rw[gL];exact hpl
 apply jo
 · omega
 · intro w hw
   have hwd:ke g (w:Int):=⟨by omega,by omega⟩
   rw[pY _ _ (w:Int) (by omega) (by omega) (λx hx=>by
     have:=hP.nd.1 (hb1 x hx)
     have h2:=this.1
     have h3:=this.2
     omega)]
   by_cases hc':Cn g' (q:Int) (w:Int)
   · rw[if_pos ((hb2 _).2 hc'),hall _ hc',h0.2]
   · rw[if_neg (λhm=>hc' ((hb2 _).1 hm)),<-h0.1]
     rcases h.cmp _ hwd with e|e
     · exact absurd e.1 hc'
     · exact e
theorem kP{p:List Int}{m:Int}{q:Nat}(h:p=(bE g' gone q).1/\m=(bE g' gone q).2)(c:0<=gI p (q:Int)\/gI gone (q:Int)=true):p=(bE g' gone (q+1)).1/\m=(bE g' gone (q+1)).2:=by
 have h1:bE g' gone (q+1)=bE g' gone q:=by
   rw[iN]
   unfold jj
   rw[if_pos (by rw[<-h.1];exact c)]
 rw[h1];exact h
end
def qu(g:bN)(gone cut:List Bool):List Int:=(bQ g.2.length).filter λe=> !(gI gone (gI g.2 e).1||gI gone (gI g.2 e).2||gI cut e)
def gG(g:bN)(gone cut:List Bool):bN:=(g.1,(qu g gone cut).map (gI g.2))
def fA(g:bN)(gone cut:List Bool):List Int×Int:=bE (gG g gone cut) gone g.1.toNat
def B6(g:bN)(gone cut:List Bool)(h:Int):Prop:=¬gI gone (bf g h)=true/\¬gI gone (cF g h)=true/\¬gI cut (h/2)=true
section
variable{g:bN}{gone cut:List Bool}{h e:Int}
theorem lz:e∈qu g gone cut↔(0<=e/\e<(g.2.length:Int))/\¬gI gone (gI g.2 e).1=true/\¬gI gone (gI g.2 e).2=true/\¬gI cut e=true:=by
 unfold qu
 rw[List.mem_filter,gm]
 refine and_congr Iff.rfl ?_
 simp[and_assoc]
theorem rC(h0:0<=h):(bf g h=(gI g.2 (h/2)).1/\cF g h=(gI g.2 (h/2)).2)\/(bf g h=(gI g.2 (h/2)).2/\cF g h=(gI g.2 (h/2)).1):=by
 unfold bf cF pI
 have:h%2=0\/h%2=1:=by omega
 rcases this with q|q
 · rw[q];left;simp
 · rw[q];right;simp
theorem yz(hm:bO g):bO (gG g gone cut):=by
 obtain⟨m1,m2,m3,m4⟩:=hm
 refine⟨m1,m2,?_,λe he=>?_⟩
 · unfold gG
   rw[List.length_map]
   have:(qu g gone cut).length<=(bQ g.2.length).length:=List.length_filter_le ..
   have h2:(bQ g.2.length).length=g.2.length:=by simp[bQ]
   omega
 · obtain⟨i,hi,rfl⟩:=List.mem_map.1 he
   have:=(lz.1 hi).1
   exact m4 _ (bz this.1 this.2)
theorem ye(hm:bO g):ib g (gG g gone cut) gone (B6 g gone cut):=by
 refine⟨hm,yz hm,rfl,λh hp=>⟨hp.1,hp.2.1⟩,λh hh hp=>?_,λS hS u v hc hu=>?_⟩
 · obtain⟨p1,p2,p3⟩:=hp
   have hin:=bz (xs:=g.2) (i:=h/2) (by have:=hh.1;omega) (by have:=hh.2;omega)
   have hok:=hm.2.2.2 _ hin
   have hk:h/2∈qu g gone cut:=by
     refine lz.2 ⟨⟨by have:=hh.1;omega,by have:=hh.2;omega⟩,?_⟩
     rcases rC (g:=g) hh.1 with⟨a,b⟩|⟨a,b⟩
     · rw[<-a,<-b];exact⟨p1,p2,p3⟩
     · rw[<-a,<-b];exact⟨p2,p1,p3⟩
   have he:gI g.2 (h/2)∈(gG g gone cut).2:=List.mem_map.2 ⟨_,hk,rfl⟩
   have hc:=Cn.edge he
   rcases rC (g:=g) hh.1 with⟨a,b⟩|⟨a,b⟩
   · rw[a,b];exact hc
   · rw[a,b];exact(Cn.eqv (gG g gone cut)).symm _ _ hok.1 hok.2 hc
 · refine(hc (λu v=>S u↔S v) ⟨λ_ _=>Iff.rfl,λ_ _ _ _ h=>h.symm,λ_ _ _ _ _ _ h1 h2=>h1.trans h2⟩ (λe he=>?_)).1 hu
   obtain⟨i,hi,rfl⟩:=List.mem_map.1 he
   obtain⟨⟨i0,i1⟩,k1,k2,k3⟩:=lz.1 hi
   have e0:(2*i)/2=i:=by omega
   have e1:(2*i+1)/2=i:=by omega
   have f0:bf g (2*i)=(gI g.2 i).1/\cF g (2*i)=(gI g.2 i).2:=by
     unfold bf cF pI
     rw[e0,show(2*i)%2=0 by omega];simp
   have f1:bf g (2*i+1)=(gI g.2 i).2/\cF g (2*i+1)=(gI g.2 i).1:=by
     unfold bf cF pI
     rw[e1,show(2*i+1)%2=1 by omega];simp
   constructor
   · have:=hS (2*i) ⟨by omega,by omega⟩ ⟨by rw[f0.1];exact k1,by rw[f0.2];exact k2,by rw[e0];exact k3⟩
     rw[f0.1,f0.2] at this;exact this
   · have:=hS (2*i+1) ⟨by omega,by omega⟩ ⟨by rw[f1.1];exact k2,by rw[f1.2];exact k1,by rw[e1];exact k3⟩
     rw[f1.1,f1.2] at this;exact this
end
end TL
namespace TL
section
variable{g g':bN}{gone cut:List Bool}{ps:Int->Prop}{c0 c todo:List Int}{n s v:Int}{k M q:Nat}
theorem tY{xs:List Bool}{i:Int}{P:Prop}(h:¬P->xs=[])(hn:¬P):¬gI xs i=true:=by
 rw[h hn];simp[gI]
theorem qN(hP:ib g g' gone ps)(h:c=(bE g' gone q).1/\n=(bE g' gone q).2)(hq:(q:Int)<=g.1):(c.length:Int)=g.1/\0<=n/\n<=q:=by
 obtain⟨rfl,rfl⟩:=h
 obtain⟨l,h⟩:=hP.inv q hq
 have:=h.num
 have:=h.le
 exact⟨h.len,by omega,by omega⟩
theorem gD.psg(hm:bO g)(h:gD g (gG g gone cut) (B6 g gone cut) c0 c todo n s v k M)(hs:¬gI gone s=true)(hl:(k:Int)<(d6 g v).length)(h1:¬gI gone (cF g (gI (d6 g v) (k:Int)))=true)(h2:¬gI cut (gI (d6 g v) (k:Int)/2)=true):B6 g gone cut (gI (d6 g v) (k:Int)):=by
 have hf:=(f4 (bz (xs:=d6 g v) (i:=(k:Int)) (by omega) hl)).2
 exact⟨by rw[hf];exact(ye hm).ng h.inv.sd h.vd h.vc hs,h1,h2⟩
theorem nn(hm:bO g)(hq:(q:Int)=g.1)(h:c=(bE (gG g gone cut) gone q).1/\n=(bE (gG g gone cut) gone q).2):c=(fA g gone cut).1/\n=(fA g gone cut).2:=by
 have:q=g.1.toNat:=by omega
 rw[this] at h;exact h
end
end TL
set_option linter.all false
namespace TL
variable{g:bN}{of:List Int}{n k:Nat}
def sB(g:bN)(k:Nat):List Bool:=(g.2.take k).foldl (λb e=>(b.set e.1.toNat true).set e.2.toNat true) (List.replicate g.1.toNat false)
structure o4(g:bN)(at_:List Bool)(k:Nat):Prop where
 eq:at_=sB g k
 lo:(at_.length:Int)=g.1
 no:∀j:Int,0<=j->j<k->¬(gI g.2 j).1=(gI g.2 j).2
theorem o4.start(h0:0<=g.1):o4 g (List.replicate (Int.toNat g.1) false) 0:=⟨rfl,by simp;omega,λj a b=>by omega⟩
theorem o4.next{at_:List Bool}(h:o4 g at_ k)(hk:(k:Int)<g.2.length)(hn:¬(gI g.2 (k:Int)).1=(gI g.2 (k:Int)).2):o4 g ((at_.set (Int.toNat (gI g.2 (k:Int)).1) true).set (Int.toNat (gI g.2 (k:Int)).2) true) (k+1):=by
 have hk':k<g.2.length:=by omega
 refine⟨?_,by simp only[List.length_set];exact h.lo,λj a b=>?_⟩
 · unfold sB
   rw[List.take_succ_eq_append_getElem hk',List.foldl_append]
   have e:gI g.2 (k:Int)=g.2[k]:=by simp[gI,hk']
   rw[e,h.eq];rfl
 · by_cases c:j=(k:Int)
   · rw[c];exact hn
   · exact h.no j a (by omega)
def eB(g:bN):Bool:=decide (2<=g.1/\(∀e∈g.2,¬e.1=e.2)/\¬false∈sB g g.2.length/\kH g=1)
theorem re(h:g.1<2):false=eB g:=by
 unfold eB;rw[decide_eq_false];rintro⟨a,_⟩;omega
theorem sb(hk:(k:Int)<g.2.length)(h:(gI g.2 (k:Int)).1=(gI g.2 (k:Int)).2):false=eB g:=by
 unfold eB;rw[decide_eq_false];rintro⟨_,a,_⟩
 exact a _ (bz (xs:=g.2) (i:=(k:Int)) (by omega) hk) h
theorem uk{at_:List Bool}(h:o4 g at_ k)(hk:k=g.2.length)(hf:false∈at_):false=eB g:=by
 subst hk
 unfold eB;rw[decide_eq_false];rintro⟨_,_,a,_⟩
 rw[h.eq] at hf;exact a hf
theorem AP{at_:List Bool}(h:o4 g at_ k)(hk:k=g.2.length)(h2:¬g.1<2)(hf:¬false∈at_):decide ((cY g).2.2=1)=eB g:=by
 subst hk
 unfold eB
 rw[decide_eq_decide]
 refine⟨λhc=>⟨by omega,λe he=>?_,by rw[<-h.eq];exact hf,hc⟩,λhc=>hc.2.2.2⟩
 obtain⟨i,hi,rfl⟩:=List.mem_iff_getElem.1 he
 have:=h.no (i:Int) (by omega) (by omega)
 have e:gI g.2 (i:Int)=g.2[i]:=by simp[gI,hi]
 rwa[e] at this
def bX(g:bN):Bool×Int:=if bO g then(eB g,0) else(false,1)
def kp(s:List Bool)(v:Bool):Int:=if v∈s then(s.idxOf v:Int) else-1
theorem zh{s:List Bool}{v:Bool}{i:Nat}(h:∀j:Nat,j<i->¬v=gI s (j:Int))(hi:(i:Int)<s.length)(he:v=gI s (i:Int)):(i:Int)=kp s v:=by
 have hlt:i<s.length:=by omega
 have e:gI s (i:Int)=s[i]:=by simp[gI,hlt]
 have hm:v∈s:=by rw[he];exact bz (by omega) hi
 unfold kp
 rw[if_pos hm]
 have hlt2:=List.idxOf_lt_length_iff.2 hm
 have h1:¬s.idxOf v<i:=λhlt'=>h _ hlt' (by simp[gI,hlt2])
 have h2:¬i<s.idxOf v:=λhlt'=>by
   have:=List.not_of_lt_findIdx (xs:=s) (p:=(· ==v)) (i:=i) hlt'
   simp at this
   exact this (by rw[<-e,<-he])
 omega
theorem Bv{s:List Bool}{v:Bool}{i:Nat}(h:∀j:Nat,j<i->¬v=gI s (j:Int))(hi:¬(i:Int)<s.length): -1=kp s v:=by
 unfold kp
 rw[if_neg]
 intro hm
 obtain⟨j,hj,e⟩:=List.mem_iff_getElem.1 hm
 apply h j (by omega)
 rw[<-e];simp[gI,hj]
theorem vx{l:List Bool}{x:Bool}:decide (0<=kp l x)=decide (x∈l):=by
 unfold kp
 by_cases h:x∈l
 · rw[if_pos h,decide_eq_true h,decide_eq_true (by omega)]
 · rw[if_neg h,decide_eq_false h];rfl
end TL
set_option linter.all false
namespace TL
def In(n x:Int):Prop:=0<=x/\x<n
def Lk(n:Int)(s t:Int->Int)(x y:Int):Prop:=∀R:Int->Int->Prop,EV (In n) R->(∀x,In n x->R x (s x))->(∀x,In n x->R x (t x))->R x y
end TL
set_option linter.all false
namespace TL
section
def gone(m:Nat)(keep:List Int):List Int:=(bQ (2*m)).filter λh=>decide (h/2∉keep)
end
end TL
set_option linter.all false
namespace TL
theorem AJ{l:List Int}{x:Int}:decide (0<=cH l x)=decide (x∈l):=by
 unfold cH
 by_cases h:x∈l
 · rw[if_pos h,decide_eq_true h,decide_eq_true (by omega)]
 · rw[if_neg h,decide_eq_false h];rfl
end TL
namespace TL
end TL
namespace TL
end TL
namespace TL
section
end
end TL
set_option linter.all false
namespace TL
section
variable{E E':List (Int×Int)}{A B:Int->Prop}{x y z v u n:Int}{g:bN}{gone:List Bool}
def cx(g:bN):List Int:=(di (cV g).1).1.2.1
end
end TL
set_option linter.all false
namespace TL
open Go Go.ChangeMaps
def Dp{K:Type}(b:Bool)(S:List K)(k:K):List K:=bif b then S++[k] else S
theorem zt{K:Type}{b:Bool}{S:List K}{k:K}(h:b=true):Dp b S k=S++[k]:=by subst h;rfl
def Mi{K:Type}[DecidableEq K][Ky K](γ:ax)(J:cw->Prop)(w:World)(v u:Value)(F:K->Int)(D S:List K):Prop:=
  ∃(r ri:Nat) (es:List (cW K)) (clock since:Nat) (L:List (cW K)),v= .map (some r)/\u= .pointer (some ⟨ri,0,none⟩)/\r≠ri/\J (γ r)/\J (γ ri)/\w.heap[r]? =some (.map (es.map dj).toArray clock)/\Dd es clock/\F=eN es/\D=es.map (·.key)/\
    w.heap[ri]? =some (.mapIter (some r) since (L.map (·.born)).toArray clock)/\(∀e∈es,e.born<since)/\since<=clock/\(∀e∈L,e∈es)/\L.map (·.key)=S/\S.Nodup
section
variable{K:Type}[DecidableEq K][Ky K]
theorem Mi.cnt{γ:ax}{J:cw->Prop}{w:World}{v u:Value}{F:K->Int}{D S:List K}(h:Mi γ J w v u F D S):S.Nodup/\D.Nodup/\∀k∈S,k∈D:=by
 obtain⟨r,ri,es,clock,since,L,h1,h2,hne,h3,h4,h5,h6,h7,h8,h9,h10,h11,h12,h13,h14⟩:=h
 refine⟨h14,by rw[h8];exact h6.keys,λk hk=>?_⟩
 rw[<-h13] at hk
 obtain⟨e,he,rfl⟩:=List.mem_map.1 hk
 rw[h8]
 exact List.mem_map.2 ⟨e,h12 e he,rfl⟩
variable{P:Program}{f:Fr}{w:World}{dst:Option Tmp}{ty:TypeId}{pos:String}{after:Array Edge}{g:Option (Nat×Bool)}{t:TypeId}{x y z:Operand}{N:Value->World->Prop}
theorem mW:∀(D A:List K),D.Nodup->(∀p∈D,p∈A)->D.length<=A.length
 |[],A,_,_=>Nat.zero_le _
 |a::D,A,hn,hs=>by
   have hn':=List.nodup_cons.1 hn
   have ha:=hs a (List.mem_cons_self ..)
   have h3:=mW D (A.erase a) hn'.2 (λx hx=>by
     have hne:x≠a:=λe=>hn'.1 (by rw[<-e];exact hx)
     exact(List.mem_erase_of_ne hne).2 (hs x (List.mem_cons_of_mem _ hx)))
   have h4:=List.length_erase_of_mem ha
   have h5:=List.length_pos_of_mem ha
   rw[List.length_cons];omega
theorem C7{γ:ax}{J:cw->Prop}{v:Value}{F:K->Int}{D:List K}{kt et:Nat}(c:cw)(hJ:J c)(ht:P.underlying t=some (.map kt et))(hx:ev f x=v)(hm:Md γ J w v F D)
   (hk:∀γ' w' u,bg no γ w γ' w'->Mi γ' J w' v u F D []->N u w'):fv P ⟨dst,.range t x,ty,pos,after,g⟩ f w N:=by
 obtain⟨r,es,clock,rfl,hJ0,hb,hok,rfl,rfl⟩:=hm
 have hlt:=cZ hb
 have hc:=fk γ w (.mapIter (some r) clock #[] clock) c
 refine ao (v:=.pointer (some ⟨w.heap.size,0,none⟩)) (w':=w.alloc (.mapIter (some r) clock #[] clock)) ?_ (hk (i4 γ w.heap.size c) _ _ hc ⟨r,w.heap.size,es,clock,clock,[],rfl,rfl,by omega,by rw[hc.col r hlt (λq=>q)];exact hJ0,by simpa[i4] using hJ,by rw[hc.keep r hlt (λq=>q)];exact hb,hok,rfl,rfl,dc ..,hok.lt,Nat.le_refl _,by simp,rfl,List.nodup_nil⟩)
 have:=run_range_map (P:=P) w t kt et r (es.map dj).toArray clock ht hb
 simp only[execOp,hx]
 simp[this]
theorem we{es:List (cW K)}{clock:Nat}(hok:Dd es clock){a b:cW K}(ha:a∈es)(hb:b∈es)(e:a.born=b.born):a=b:=by
 obtain⟨i,hi,rfl⟩:=List.mem_iff_getElem.1 ha
 obtain⟨j,hj,rfl⟩:=List.mem_iff_getElem.1 hb
 have h:=hok.born
 have:i=j:=(List.getElem_inj (h₀:=by simpa using hi) (h₁:=by simpa using hj) h).1 (by simpa using e)
 subst this;rfl
theorem tM{es:List (cW K)}{clock:Nat}(hok:Dd es clock){a b:cW K}(ha:a∈es)(hb:b∈es)(e:a.key=b.key):a=b:=by
 obtain⟨i,hi,rfl⟩:=List.mem_iff_getElem.1 ha
 obtain⟨j,hj,rfl⟩:=List.mem_iff_getElem.1 hb
 have h:=hok.keys
 have:i=j:=(List.getElem_inj (h₀:=by simpa using hi) (h₁:=by simpa using hj) h).1 (by simpa using e)
 subst this;rfl
theorem cC{γ:ax}{J:cw->Prop}{v u:Value}{F:K->Int}{D S:List K}[Inhabited K](hx:ev f x=u)(hm:Mi γ J w v u F D S)
   (hk:∀w' nv nb k,bg J γ w γ w'->(∃a,nv= .tuple a/\a[0]? =some (.bool nb))->(nb=true->k∈D/\k∉S/\S.length+1<=D.length)->(nb=false->∀q∈D,q∈S)->Mi γ J w' v u F D (Dp nb S k)->N nv w'):fv P ⟨dst,.next x false,ty,pos,after,g⟩ f w N:=by
 have hcnt:=hm.cnt
 obtain⟨r,ri,es,clock,since,L,rfl,rfl,hne,h3,h4,h5,h6,rfl,rfl,h9,h10,h11,h12,rfl,h14⟩:=hm
 have hmem:∀a:MapEntry,a∈(es.map dj).toArray.toList->∃e∈es,dj e=a:=λa ha=>by simpa using ha
 rcases run_next_at (P:=P) w ty ri r since clock (L.map (·.born)).toArray (es.map dj).toArray clock h9 h5 (λa ha=>by obtain⟨e,he,rfl⟩:=hmem a ha;exact h10 e he) h11 with⟨h0,hrun⟩|⟨a,ha,w1,hal,hrun⟩
 · refine ao (v:=.tuple #[.bool false]) (w':=w) (by simp only[execOp,hx];simp[hrun]) (hk _ _ false default (bg.refl _ _ _) ⟨_,rfl,rfl⟩ (λq=>by cases q) (λ_ q hq=>?_) ⟨r,ri,es,clock,since,L,rfl,rfl,hne,h3,h4,h5,h6,rfl,rfl,h9,h10,h11,h12,rfl,h14⟩)
   obtain⟨e,he,rfl⟩:=List.mem_map.1 hq
   have hall:¬(!(L.map (·.born)).toArray.contains e.born)=true:=λhh=>by
     have:dj e∈(leftOf (es.map dj).toArray (L.map (·.born)).toArray).toList:=by
       unfold leftOf
       simp only[Array.toList_filter,List.mem_filter]
       exact⟨by simpa using⟨e,he,rfl⟩,hh⟩
     have h2:=List.length_pos_of_mem this
     simp only[Array.length_toList] at h2
     omega
   have hin:e.born∈L.map (·.born):=by simpa using hall
   obtain⟨e',he',hb⟩:=List.mem_map.1 hin
   rw[<-we h6 (h12 e' he') he hb]
   exact List.mem_map.2 ⟨e',he',rfl⟩
 · unfold leftOf at ha
   simp only[Array.toList_filter,List.mem_filter] at ha
   obtain⟨e,he,rfl⟩:=hmem a ha.1
   have hnb:e.born∉L.map (·.born):=by simpa[dj] using ha.2
   have hns:e.key∉L.map (·.key):=λhh=>by
     obtain⟨e',he',hk'⟩:=List.mem_map.1 hh
     rw[tM h6 (h12 e' he') he hk'] at he'
     exact hnb (List.mem_map.2 ⟨e,he',rfl⟩)
   have hlri:=cZ h9
   have hch:bg J γ w γ (setBlock w1 ri (.mapIter (some r) since ((L.map (·.born)).toArray.push (dj e).born) clock)):=by
     rcases hal with rfl|rfl
     · refine⟨rfl,rfl,rfl,by simp[setBlock],λ_ _ _=>rfl,λk _ hk=>?_,Nat.le_refl _⟩
       have:ri≠k:=λh=>hk (h▸h4)
       simp[setBlock,Array.getElem?_setIfInBounds_ne this]
     · refine⟨rfl,rfl,rfl,by simp[setBlock,World.drew_eq],λ_ _ _=>rfl,λk _ hk=>?_,Nat.le_succ _⟩
       have:ri≠k:=λh=>hk (h▸h4)
       show(w.heap.setIfInBounds ri _)[k]? =_
       rw[Array.getElem?_setIfInBounds_ne this]
   have hh1:w1.heap=w.heap:=by rcases hal with rfl|rfl<;>rfl
   have hnd:(L.map (·.key)++[e.key]).Nodup:=by
     rw[List.nodup_append]
     exact⟨h14,by simp,λa ha b hb=>by obtain rfl:=List.mem_singleton.1 hb;exact λq=>hns (q▸ha)⟩
   refine ao (v:=.tuple #[.bool true,(dj e).key,(dj e).val]) (w':=setBlock w1 ri (.mapIter (some r) since ((L.map (·.born)).toArray.push (dj e).born) clock)) (by simp only[execOp,hx];simp[hrun]) (hk _ _ true e.key hch ⟨_,rfl,rfl⟩ (λ_=>⟨List.mem_map.2 ⟨e,he,rfl⟩,hns,?_⟩) (λq=>by cases q) ⟨r,ri,es,clock,since,L++[e],rfl,rfl,hne,h3,h4,?_,h6,rfl,rfl,?_,h10,h11,λq hq=>?_,by rw[List.map_append];rfl,hnd⟩)
   · have hsub:∀q∈L.map (·.key)++[e.key],q∈es.map (·.key):=λq hq=>by
       rcases List.mem_append.1 hq with hq|hq
       · exact hcnt.2.2 q hq
       · rw[List.mem_singleton.1 hq];exact List.mem_map.2 ⟨e,he,rfl⟩
     have:=mW _ _ hnd hsub
     simpa using this
   · show(w1.heap.setIfInBounds ri _)[r]? =_
     rw[Array.getElem?_setIfInBounds_ne (λq=>hne q.symm),hh1];exact h5
   · show(w1.heap.setIfInBounds ri _)[ri]? =_
     rw[hh1]
     simp[hlri,dj]
   · rcases List.mem_append.1 hq with hq|hq
     · exact h12 q hq
     · rw[List.mem_singleton.1 hq];exact he
theorem CM{nv:Value}{nb:Bool}(hx:ev f x=nv)(h:∃a,nv= .tuple a/\a[0]? =some (.bool nb)):(execOp (ev f) ⟨dst,.extract x 0,ty,pos,after,g⟩).run P w= .ok (.value (.bool nb)) w:=by
 obtain⟨a,rfl,h0⟩:=h
 simp[execOp,hx,Instr.extract,h0]
theorem Cv{γ:ax}{J:cw->Prop}{v u:Value}{F:K->Int}{D S:List K}{nb:Bool}{k:K}(hx:ev f x=u)(hm:Mi γ J w v u F D (Dp nb S k))(hb:nb=true):(execOp (ev f) ⟨dst,.entry x,ty,pos,after,g⟩).run P w= .ok (.value (.tuple (List.toArray [Ky.val k,.int .i64 (F k)]))) w:=by
 rw[zt hb] at hm
 obtain⟨r,ri,es,clock,since,L,rfl,rfl,hne,h3,h4,h5,h6,rfl,rfl,h9,h10,h11,h12,h13,h14⟩:=hm
 obtain⟨L0,e,rfl⟩:∃L0 e,L=L0++[e]:=by
   refine⟨L.dropLast,L.getLast (λq=>by rw[q] at h13;simp at h13),(List.dropLast_concat_getLast _).symm⟩
 rw[List.map_append] at h13
 obtain⟨e1,e2⟩:=List.append_inj' h13 rfl
 have ek:e.key=k:=by simpa using e2
 subst ek
 have he:e∈es:=h12 e (by simp)
 have e3:((L0++[e]).map (·.born)).toArray=((L0.map (·.born)).toArray).push (dj e).born:=by simp[dj]
 rw[e3] at h9
 have hrun:=run_entry_at (P:=P) w ri r since (L0.map (·.born)).toArray (es.map dj).toArray clock (dj e) h9 h5 (by simpa using⟨e,he,rfl⟩) (by
   have:=h6.born
   simpa[dj,Function.comp_def] using this)
 have hF:(dj e).val= .int .i64 (eN es e.key):=by
   show Value.int .i64 e.val=_
   unfold eN
   have:es.find? (λa=>decide (a.key=e.key))=some e:=by
     cases hf:es.find? (λa=>decide (a.key=e.key)) with
     |none=>exact absurd (List.find?_eq_none.1 hf e he) (by simp)
     |some a=>
       have h1:=List.mem_of_find?_eq_some hf
       have h2:=List.find?_some hf
       rw[tM h6 h1 he (by simpa using h2)]
   rw[this];rfl
 rw[hF] at hrun
 simp only[execOp,hx]
 simp[hrun,dj]
end
end TL
set_option linter.all false
namespace TL
section
variable{g:bN}{u v x y n:Int}{k i j m:Nat}{l:List (Int×Int)}
def uz(u:Int)(k:Nat):List Int:=(bQ k).filter λx=> !decide (x=u)
def jZ(n u:Int):List Int:=uz u n.toNat
theorem BA(h:¬(k:Int)=u):uz u k++[(k:Int)]=uz u (k+1):=by
 unfold uz
 rw[dE,List.filter_append,List.filter_cons_of_pos (by simpa using h)];rfl
theorem D1(h:(k:Int)=u):uz u k=uz u (k+1):=by
 unfold uz
 rw[dE,List.filter_append,List.filter_cons_of_neg (by simpa using h),List.filter_nil,List.append_nil]
theorem tS:(uz u k).length<=k:=by
 unfold uz
 have:=List.length_filter_le (λx=> !decide (x=u)) (bQ k)
 rw[dP] at this;exact this
def gM(g:bN)(u:Int):bN:=(dp g (jZ g.1 u)).1
theorem xW:cK (jZ n u) n=0:=by
 refine pH (λi hi=>?_) ((nH _).sublist List.filter_sublist)
 have:=gm.1 (List.mem_filter.1 hi).1
 omega
theorem CW(hm:bO g):(gM g u).1=((jZ g.1 u).length:Int):=by
 unfold gM dp
 rw[if_pos hm,if_pos xW]
theorem mL(hm:bO g):bO (gM g u):=by
 have hl:(jZ g.1 u).length<=g.1.toNat:=tS
 obtain⟨m1,m2,m3,m4⟩:=id hm
 unfold gM dp
 rw[if_pos hm,if_pos xW]
 refine⟨by show(0:Int)<=((jZ g.1 u).length:Int);omega,by show((jZ g.1 u).length:Int)<=1024;omega,?_,λe he=>?_⟩
 · show(List.map _ (nM g (jZ g.1 u))).length<=3072
   rw[List.length_map]
   have:(nM g (jZ g.1 u)).length<=((List.range g.2.length).map (λ(i:Nat)=>(i:Int))).length:=List.length_filter_le ..
   simp at this;omega
 · obtain⟨i,hi,rfl⟩:=List.mem_map.1 he
   have h2:=(List.mem_filter.1 hi).2
   simp only[Bool.and_eq_true,decide_eq_true_eq] at h2
   have p1:=iH.2 h2.1
   have p2:=iH.2 h2.2
   have q1:=mJ (jZ g.1 u) (gI g.2 i).1
   have q2:=mJ (jZ g.1 u) (gI g.2 i).2
   exact⟨⟨by omega,by show _<((jZ g.1 u).length:Int);omega⟩,by omega,by show _<((jZ g.1 u).length:Int);omega⟩
theorem xc(hm:bO g)(h:x∈cx g):0<=x/\x<g.1:=by
 have hmb:=rN hm
 have e1:(cV g).1.1=g.1:=by rw[nA hm]
 unfold cx di at h
 rw[if_pos hmb] at h
 have:=gm.1 (List.mem_filter.1 h).1
 have:=hm.1
 omega
theorem lP(hm:bO g):((cx g).length:Int)<=g.1:=by
 have hmb:=rN hm
 have e1:(cV g).1.1=g.1:=by rw[nA hm]
 unfold cx di
 rw[if_pos hmb]
 show((tV (cV g).1).length:Int)<=_
 unfold tV
 have h1:=List.length_filter_le (λv=>gI (vo (og (cV g).1) (cV g).1 (2*(cV g).1.2.length)).2 v) (bQ (cV g).1.1.toNat)
 rw[dP] at h1
 have:=hm.1
 omega
def so(g:bN):Bool:=decide ((bx g).2.1<=1)
def j8(g:bN):Bool:=decide (2<g.1)&&(so g&&decide (((cx g).length:Int)=0))
def je(g:bN)(u:Int)(j:Nat):List (Int×Int):=(((cx (gM g u)).take j).filter λx=>decide (u<gI (jZ g.1 u) x)).map λx=>(u,gI (jZ g.1 u) x)
def pR(g:bN)(u:Int):List (Int×Int):=je g u (cx (gM g u)).length
theorem zx(hj:(j:Int)<((cx (gM g u)).length:Int))(h:u<gI (jZ g.1 u) (gI (cx (gM g u)) (j:Int))):je g u j++[(u,gI (jZ g.1 u) (gI (cx (gM g u)) (j:Int)))]=je g u (j+1):=by
 unfold je
 rw[bc hj,List.filter_append,List.filter_cons_of_pos (by simpa using h),List.map_append];rfl
theorem Bl(hj:(j:Int)<((cx (gM g u)).length:Int))(h:¬u<gI (jZ g.1 u) (gI (cx (gM g u)) (j:Int))):je g u j=je g u (j+1):=by
 unfold je
 rw[bc hj,List.filter_append,List.filter_cons_of_neg (by simpa using h),List.filter_nil,List.append_nil]
theorem Ax(hj:¬(j:Int)<((cx (gM g u)).length:Int)):je g u j=pR g u:=by
 unfold pR je
 rw[List.take_of_length_le (by omega),List.take_length]
theorem nP:(je g u j).length<=j:=by
 unfold je
 rw[List.length_map]
 refine Nat.le_trans (List.length_filter_le _ _) ?_
 rw[List.length_take];omega
def ej(g:bN)(k:Nat):List (Int×Int):=(bQ k).flatMap (pR g)
theorem kw:ej g (k+1)=ej g k++pR g (k:Int):=by
 unfold ej;rw[dE,List.flatMap_append];simp
theorem oP(hm:bO g):∀k:Nat,((ej g k).length:Int)<=(k:Int)*1024
 |0=>by simp[ej,bQ]
 |k+1=>by
   have h1:=oP hm k
   have h2:=lP (mL (u:=(k:Int)) hm)
   have h3:=mL (u:=(k:Int)) hm
   have h4:(pR g (k:Int)).length<=(cx (gM g (k:Int))).length:=nP
   rw[kw,List.length_append]
   have:=h3.2.1
   omega
def mG(g:bN)(most:Int):Nat->Nat->List (Int×Int)
 |0,k=>ej g k
 |f+1,k=>if most<=((ej g (k+1)).length:Int) then ej g (k+1) else mG g most f (k+1)
def jx(g:bN)(most:Int):List (Int×Int):=mG g most g.1.toNat 0
theorem yk{most:Int}(h:mG g most (g.1.toNat-k) k=jx g most)(hk:(k:Int)<g.1)(hb:¬most<=((ej g (k+1)).length:Int)):mG g most (g.1.toNat-(k+1)) (k+1)=jx g most:=by
 rw[<-h,show g.1.toNat-k=(g.1.toNat-(k+1))+1 by omega]
 simp only[mG]
 rw[if_neg hb]
theorem vT{most:Int}(h:mG g most (g.1.toNat-k) k=jx g most)(hk:(k:Int)<g.1)(hb:most<=((ej g (k+1)).length:Int)):ej g (k+1)=jx g most:=by
 rw[<-h,show g.1.toNat-k=(g.1.toNat-(k+1))+1 by omega]
 simp only[mG]
 rw[if_pos hb]
theorem xM{most:Int}(h:mG g most (g.1.toNat-k) k=jx g most)(hk:¬(k:Int)<g.1):ej g k=jx g most:=by
 rw[<-h,show g.1.toNat-k=0 by omega];rfl
def aH(g:bN):List (Int×Int)×Int:=if bO g then if j8 g=true then(jx g (g.1*g.1),0) else([],7) else([],1)
theorem sx(h:¬bO g):aH g=([],1):=by unfold aH;rw[if_neg h]
theorem AF(hm:bO g)(h:¬j8 g=true):aH g=([],7):=by unfold aH;rw[if_pos hm,if_neg h]
theorem sG(hm:bO g)(h:j8 g=true):aH g=(jx g (g.1*g.1),0):=by unfold aH;rw[if_pos hm,if_pos h]
def rM(u v:Int)(e:Int×Int):Bool:=decide (¬e.1=u/\¬e.1=v/\¬e.2=u/\¬e.2=v)
def jG(g:bN)(u v:Int)(k:Nat):List (Int×Int):=(g.2.take k).filter (rM u v)
def uC(g:bN)(u v:Int):bN:=(g.1,jG g u v g.2.length)
theorem xV(hk:(k:Int)<(g.2.length:Int))(h:rM u v (gI g.2 (k:Int))=true):jG g u v k++[gI g.2 (k:Int)]=jG g u v (k+1):=by
 unfold jG
 rw[bc hk,List.filter_append,List.filter_cons_of_pos h];rfl
theorem mN(hk:(k:Int)<(g.2.length:Int))(h:¬rM u v (gI g.2 (k:Int))=true):jG g u v k=jG g u v (k+1):=by
 unfold jG
 rw[bc hk,List.filter_append,List.filter_cons_of_neg h,List.filter_nil,List.append_nil]
theorem rD:(jG g u v k).length<=k:=by
 unfold jG
 refine Nat.le_trans (List.length_filter_le _ _) ?_
 rw[List.length_take];omega
theorem zw(hk:¬(k:Int)<(g.2.length:Int)):(g.1,jG g u v k)=uC g u v:=by
 unfold uC jG
 rw[List.take_of_length_le (by omega),List.take_length]
theorem ya(hm:bO g):bO (uC g u v):=by
 obtain⟨m1,m2,m3,m4⟩:=hm
 refine⟨m1,m2,Nat.le_trans rD m3,λe he=>?_⟩
 have h1:e∈g.2.take g.2.length:=(List.mem_filter.1 he).1
 rw[List.take_length] at h1
 exact m4 e h1
def hY(u v:Int)(e:Int×Int):Int:=if e.1=u\/e.1=v then e.2 else e.1
def vQ(u v:Int)(e:Int×Int):Prop:=e.1=e.2\/hY u v e=u\/hY u v e=v
instance {e:Int×Int}:Decidable (vQ u v e):=by unfold vQ;infer_instance
abbrev Fb:=List (List Int)×((Int->Int)×List Int)
def nL(p:List Int)(g:bN)(u v:Int)(s:Fb)(i:Int):Fb:=
  if vQ u v (gI g.2 i) then(s.1++[[i]],s.2)
  else if gI p (hY u v (gI g.2 i))∈s.2.2 then(s.1.set (s.2.1 (gI p (hY u v (gI g.2 i)))).toNat (gI s.1 (s.2.1 (gI p (hY u v (gI g.2 i))))++[i]),s.2)
  else(s.1++[[i]],((λq=>if q=gI p (hY u v (gI g.2 i)) then(s.1.length:Int) else s.2.1 q),s.2.2++[gI p (hY u v (gI g.2 i))]))
def zr(p:List Int)(g:bN)(u v:Int)(k:Nat):Fb:=(bQ k).foldl (nL p g u v) ([],(λ_=>0,[]))
theorem lL{p:List Int}:zr p g u v (k+1)=nL p g u v (zr p g u v k) (k:Int):=by
 unfold zr;rw[dE,List.foldl_append];rfl
def sY(g:bN)(u v:Int):List (List Int):=(zr (bx (uC g u v)).1 g u v g.2.length).1
structure kQ(p:List Int)(g:bN)(u v:Int)(k:Nat)(l:List (List Int))(at_:(Int->Int)×List Int):Prop where
 eq:(l,at_)=zr p g u v k
 len:l.length<=k
 rg:∀q∈at_.2,0<=at_.1 q/\at_.1 q<(l.length:Int)
 sm:∀r∈l,r.length<=k
variable{p:List Int}{ls ls':List (List Int)}{at_ at2:(Int->Int)×List Int}
theorem kQ.start:kQ p g u v 0 [] (λ_=>0,[]):=⟨rfl,by simp,λq hq=>absurd hq List.not_mem_nil,λr hr=>absurd hr List.not_mem_nil⟩
theorem kQ.alone(h:kQ p g u v k ls at_)(ha:vQ u v (gI g.2 (k:Int))):kQ p g u v (k+1) (ls++[[(k:Int)]]) at_:=by
 refine⟨?_,by rw[List.length_append];have:=h.len;simp;omega,λq hq=>?_,λr hr=>?_⟩
 · rw[lL,<-h.eq];unfold nL;rw[if_pos ha]
 · have:=h.rg q hq
   rw[List.length_append];simp;omega
 · rcases List.mem_append.1 hr with hr|hr
   · have:=h.sm r hr;omega
   · rw[List.mem_singleton.1 hr];simp
theorem kQ.old(h:kQ p g u v k ls at_)(ha:¬vQ u v (gI g.2 (k:Int)))(hin:gI p (hY u v (gI g.2 (k:Int)))∈at_.2)(e:ls'=ls.set (at_.1 (gI p (hY u v (gI g.2 (k:Int))))).toNat (gI ls (at_.1 (gI p (hY u v (gI g.2 (k:Int)))))++[(k:Int)])):kQ p g u v (k+1) ls' at_:=by
 have hr0:=h.rg _ hin
 subst e
 refine⟨?_,by rw[List.length_set];have:=h.len;omega,λq hq=>by rw[List.length_set];exact h.rg q hq,λr hr=>?_⟩
 · rw[lL,<-h.eq];unfold nL;rw[if_neg ha,if_pos hin]
 · rcases List.mem_or_eq_of_mem_set hr with hr|hr
   · have:=h.sm r hr;omega
   · rw[hr,List.length_append]
     have:=h.sm _ (bz (xs:=ls) hr0.1 hr0.2)
     simp;omega
theorem kQ.new(h:kQ p g u v k ls at_)(ha:¬vQ u v (gI g.2 (k:Int)))(hin:¬gI p (hY u v (gI g.2 (k:Int)))∈at_.2)(e:ls'=ls++[[(k:Int)]])(e2:at2=((λq=>if q=gI p (hY u v (gI g.2 (k:Int))) then(ls.length:Int) else at_.1 q),at_.2++[gI p (hY u v (gI g.2 (k:Int)))])):kQ p g u v (k+1) ls' at2:=by
 subst e e2
 refine⟨?_,by rw[List.length_append];have:=h.len;simp;omega,λq hq=>?_,λr hr=>?_⟩
 · rw[lL,<-h.eq];unfold nL;rw[if_neg ha,if_neg hin]
 · show 0<=(if q=_ then _ else _)/\(if q=_ then _ else _)<_
   rw[List.length_append]
   split
   · simp;omega
   · rcases List.mem_append.1 hq with hq|hq
     · have:=h.rg q hq
       simp;omega
     · exact absurd (List.mem_singleton.1 hq) (by assumption)
 · rcases List.mem_append.1 hr with hr|hr
   · have:=h.sm r hr;omega
   · rw[List.mem_singleton.1 hr];simp
theorem kQ.done(h:kQ (bx (uC g u v)).1 g u v k ls at_)(h0:(k:Int)<=(g.2.length:Int))(hk:¬(k:Int)<(g.2.length:Int)):ls=sY g u v:=by
 have e:k=g.2.length:=by omega
 subst e
 exact congrArg Prod.fst h.eq
theorem CY(e:Int×Int)(h1:e.1=u\/e.1=v):hY u v e=e.2:=if_pos h1
theorem Ep(e:Int×Int)(h1:¬e.1=u)(h2:¬e.1=v):hY u v e=e.1:=if_neg (by rintro(q|q);exact h1 q;exact h2 q)
theorem kQ.alone'{w:Int}(h:kQ p g u v k ls at_)(hw:hY u v (gI g.2 (k:Int))=w)(ha:(gI g.2 (k:Int)).1=(gI g.2 (k:Int)).2\/w=u\/w=v):kQ p g u v (k+1) (ls++[[(k:Int)]]) at_:=h.alone (by subst hw;exact ha)
theorem kQ.old'{w:Int}(h:kQ p g u v k ls at_)(hw:hY u v (gI g.2 (k:Int))=w)(ha:¬((gI g.2 (k:Int)).1=(gI g.2 (k:Int)).2\/w=u\/w=v))(hin:gI p w∈at_.2)(e:ls'=ls.set (at_.1 (gI p w)).toNat (gI ls (at_.1 (gI p w))++[(k:Int)])):kQ p g u v (k+1) ls' at_:=by
 subst hw;exact h.old ha hin e
theorem CI{x:Int}:(ls++[[]]).set (Int.toNat (ls.length:Int)) (gI (ls++[[]]) (ls.length:Int)++[x])=ls++[[x]]:=by
 simp[gI]
theorem kQ.new'{w:Int}(h:kQ p g u v k ls at_)(hw:hY u v (gI g.2 (k:Int))=w)(ha:¬((gI g.2 (k:Int)).1=(gI g.2 (k:Int)).2\/w=u\/w=v))(hin:¬gI p w∈at_.2)(e:ls'=(ls++[[]]).set (Int.toNat (ls.length:Int)) (gI (ls++[[]]) (ls.length:Int)++[(k:Int)]))(e2:at2=((λq=>if q=gI p w then(ls.length:Int) else at_.1 q),if gI p w∈at_.2 then at_.2 else at_.2++[gI p w])):kQ p g u v (k+1) ls' at2:=by
 subst hw
 rw[if_neg hin] at e2
 exact h.new ha hin (e.trans CI) e2
theorem rR(hm:bO g):((bx g).1.length:Int)=g.1:=by
 unfold bx
 rw[if_pos hm]
 have:=(oJ g g.1.toNat).1
 have:=hm.1
 show((cI g g.1.toNat).1.length:Int)=_
 omega
def b6(g:bN)(u v:Int):List (List Int)×Int:=if bO g then if(0<=u/\u<g.1)/\(0<=v/\v<g.1)/\¬u=v then(sY g u v,0) else([],2) else([],1)
theorem A3(h:¬bO g):b6 g u v=([],1):=by unfold b6;rw[if_neg h]
theorem k8(hm:bO g)(h:¬((0<=u/\u<g.1)/\(0<=v/\v<g.1)/\¬u=v)):b6 g u v=([],2):=by unfold b6;rw[if_pos hm,if_neg h]
theorem Ar(hm:bO g)(h:(0<=u/\u<g.1)/\(0<=v/\v<g.1)/\¬u=v):b6 g u v=(sY g u v,0):=by unfold b6;rw[if_pos hm,if_pos h]
theorem Fc(hm:bO g):0<=g.1*g.1/\g.1*g.1<=1048576:=by
 obtain⟨h0,h1,_⟩:=hm
 exact⟨Int.mul_nonneg h0 h0,Int.le_trans (Int.mul_le_mul_of_nonneg_right h1 h0) (show 1024*g.1<=1048576 by omega)⟩
end
end TL
set_option linter.all false
namespace TL
open Go
section
variable{P:Program}{w:World}{f:Fr}{dst:Option Tmp}{ty:TypeId}{pos:String}{after:Array Edge}{g:Option (Nat×Bool)}{x y:Operand}{s d t:TypeId}{m:Int}{k k0:IntKind}
theorem tg{us:TypeDesc}(hs:P.underlying s=some us)(hd:P.underlying d=some (.int k))(hx:ev f x= .int k0 m)(hw:k.wrap m=m):(execOp (ev f) ⟨dst,.convert s d x,ty,pos,after,g⟩).run P w= .ok (.value (.int k m)) w:=by
 simp[execOp,convert,hx,aO hs,aO hd,Conv.intToInt,hw]
theorem rp{i r:Int}{b:UInt8}{str:ByteArray}(ht:P.underlying t=some .string)(hx:ev f x= .string str)(hy:ev f y= .int k i)(h0:0<=i)(hb:str[i.toNat]? =some b)(hr:(b.toNat:Int)=r):(execOp (ev f) ⟨dst,.index t x y,ty,pos,after,g⟩).run P w= .ok (.value (.int .u8 r)) w:=by
 simp[execOp,Instr.index,asIntOf,hx,hy,aO ht,h0,hb,hr]
theorem ez{fid:Nat}{cs:List Operand}{vals:List Value}(h:cs.map (ev f)=vals):(execOp (ev f) ⟨dst,.makeFunc (.func fid) #[] cs.toArray,ty,pos,after,g⟩).run P w= .ok (.value (.func (.func fid) #[] vals.toArray)) w:=by
 have h:cs.toArray.map (ev f)=vals.toArray:=by rw[<-h];simp
 simp[execOp,Instr.makeFunc,h]
theorem fW{fid:Nat}{fn:Func}{c:Operand}{args:List Operand}{at_:Array TypeId}{vals caps:List Value}(hc:ev f c= .func (.func fid) #[] caps.toArray)(hf:P.funcs[fid]? =some fn)(hb:fn.body.isNone=false)(hn:(fn.name== "runtime.NumGoroutine")=false)(ha:args.map (ev f)=vals):
   (execOp (ev f) ⟨dst,.call {callee:=.value c,args:=args.toArray,argTypes:=at_},ty,pos,after,g⟩).run P w= .ok (.enter fid (vals++caps).toArray) w:=by
 have ha:args.toArray.map (ev f)=vals.toArray:=by rw[<-ha];simp
 simp only[execOp,resolve,hc,Deferred.ofValue,invoke,callFunc,ha,Sem.run_bind,Sem.run_pure,Result.andThen_ok,run_program,hf,hn,hb,Bool.false_eq_true,if_false,Array.append_empty,Array.empty_append]
 simp
end
end TL
namespace TL
open Go
section
end
end TL
namespace TL
open Go
section
end
end TL
set_option linter.all false
namespace TL
open Go
section
end
theorem wa{x:Int}(h0:0<=x)(h1:x<=4611686018427387904):IntKind.u64.wrap x=x:=by
 have:IntKind.u64.wrap x=x%18446744073709551616:=by simp[IntKind.wrap,IntKind.bits,IntKind.signed]
 rw[this];omega
theorem Cw{x:Int}(h0:0<=x)(h1:x<=255):IntKind.u8.wrap x=x:=by
 have:IntKind.u8.wrap x=x%256:=by simp[IntKind.wrap,IntKind.bits,IntKind.signed]
 rw[this];omega
def iE(i:Int):Int:=gI [0,1,2,2,3,3,3,3,4,4,4,4,4] i
theorem qK{i:Int}(h0:0<=i)(h1:i<=12):i=0\/i=1\/i=2\/i=3\/i=4\/i=5\/i=6\/i=7\/i=8\/i=9\/i=10\/i=11\/i=12:=by omega
theorem BH{i:Int}(h0:0<=i)(h1:i<=12):0<=iE i/\iE i<=4:=by
 rcases qK h0 h1 with rfl|rfl|rfl|rfl|rfl|rfl|rfl|rfl|rfl|rfl|rfl|rfl|rfl<;>decide
theorem zc{i:Int}(h0:0<=i)(h1:i<=12){str:ByteArray}(h:(List.range 13).all (λk=>decide (str[k]? =some (UInt8.ofNat (iE (k:Int)).toNat)))=true):str[i.toNat]? =some (UInt8.ofNat (iE i).toNat):=by
 obtain⟨k,rfl⟩:∃k:Nat,i=k:=⟨i.toNat,by omega⟩
 exact of_decide_eq_true (List.all_eq_true.1 h k (List.mem_range.2 (by omega)))
theorem AH{i:Int}(h0:0<=i)(h1:i<=12):((UInt8.ofNat (iE i).toNat).toNat:Int)=iE i:=by
 rcases qK h0 h1 with rfl|rfl|rfl|rfl|rfl|rfl|rfl|rfl|rfl|rfl|rfl|rfl|rfl<;>decide
end TL
set_option linter.all false
namespace TL
section
variable{l:List Int}{k:Nat}{g:bN}
variable{L D:List (Int×Int)}{n:Nat}{m m2:(Int×Int->Int)×List (Int×Int)}
theorem DP{K:Type}{nb:Bool}{q:K}{D S:List K}(h:nb=true->q∈D/\q∉S/\S.length+1<=D.length)(hb:nb=true):S.length+1<=D.length:=(h hb).2.2
end
end TL
set_option linter.all false
namespace TL
def lU(k:Nat):List (Int×Int):=(List.range k).map λ(i:Nat)=>((i:Int),(i:Int)+1)
def cL(n:Int):bN:=(n,lU (n-1).toNat++[(n-1,0)])
section
variable{n kk:Int}{i j k:Nat}{E:List (Int×Int)}
theorem nr:(lU k).length=k:=by simp[lU]
theorem oX(h:E=lU k):E++[((k:Int),(k:Int)+1)]=lU (k+1):=by
 rw[h];simp[lU,List.range_succ]
theorem qt(h:E=lU k)(h0:(k:Int)<=n-1)(hk:¬(k:Int)<n-1):(n,E++[(n-1,0)])=cL n:=by
 unfold cL;rw[h,show k=(n-1).toNat by omega]
def ko(i j:Nat):List (Int×Int):=(List.range j).map λ(q:Nat)=>((i:Int),(i:Int)+1+(q:Int))
def iM(n:Int)(i:Nat):List (Int×Int):=(List.range i).flatMap λa=>ko a (n-1-(a:Int)).toNat
def dB(n:Int):bN:=(n,iM n n.toNat)
theorem nC(hn:n<=20):∀i:Nat,(iM n i).length<=i*20
 |0=>by simp[iM]
 |i+1=>by
   have h1:=nC hn i
   have e:iM n (i+1)=iM n i++ko i (n-1-(i:Int)).toNat:=by
     unfold iM
     rw[List.range_succ,List.flatMap_append,List.flatMap_cons,List.flatMap_nil,List.append_nil]
   have e2:(ko i (n-1-(i:Int)).toNat).length=(n-1-(i:Int)).toNat:=by simp only[ko,List.length_map,List.length_range]
   rw[e,List.length_append,e2]
   omega
theorem uv:iM n i=iM n i++ko i ((i:Int)+1-1-(i:Int)).toNat:=by
 rw[show((i:Int)+1-1-(i:Int)).toNat=0 by omega];simp[ko]
theorem A6(h:E=iM n i++ko i (kk-1-(i:Int)).toNat)(h1:(i:Int)+1<=kk):E++[((i:Int),kk)]=iM n i++ko i (kk+1-1-(i:Int)).toNat:=by
 rw[h,show(kk+1-1-(i:Int)).toNat=(kk-1-(i:Int)).toNat+1 by omega,List.append_assoc]
 congr 1
 simp only[ko,List.range_succ,List.map_append,List.map_cons,List.map_nil]
 congr 2
 refine congrArg (λz=>((i:Int),z)) ?_
 omega
theorem Co(h:E=iM n i++ko i (kk-1-(i:Int)).toNat)(h1:kk<=n)(h2:¬kk<n):E=iM n (i+1):=by
 rw[h,show kk=n by omega]
 unfold iM
 rw[List.range_succ,List.flatMap_append]
 simp
theorem Cc(hn:n<=20)(hi:(i:Int)<n)(h:E=iM n i++ko i (kk-1-(i:Int)).toNat)(h1:kk<=n):E.length<=1000:=by
 have h3:=nC hn i
 have e2:(ko i (kk-1-(i:Int)).toNat).length=(kk-1-(i:Int)).toNat:=by simp only[ko,List.length_map,List.length_range]
 rw[h,List.length_append,e2]
 omega
theorem zD(h:E=iM n i)(h0:(i:Int)<=n)(hi:¬(i:Int)<n):(n,E)=dB n:=by
 unfold dB;rw[h,show i=n.toNat by omega]
theorem EB(h0:1<=n)(h1:n<=20):0<=n*(n-1)/\n*(n-1)<=400:=⟨Int.mul_nonneg (by omega) (by omega),Int.le_trans (Int.mul_le_mul_of_nonneg_right h1 (by omega)) (by omega)⟩
end
end TL
set_option linter.all false
namespace TL
def eD(w h:Int)(y x:Nat):List (Int×Int):=fl ((x:Int)+1<w) ((y:Int)*w+(x:Int),(y:Int)*w+(x:Int)+1)++fl ((y:Int)+1<h) ((y:Int)*w+(x:Int),(y:Int)*w+(x:Int)+w)
def jW(w h:Int)(y:Nat):List (Int×Int):=iK (eD w h y) w.toNat
def c7(w h:Int):bN:=(w*h,iK (jW w h) h.toNat)
theorem ra{a b:Int}{A B:Nat}(h1:0<=a/\a<=A)(h2:0<=b/\b<=B):0<=a*b/\a*b<=((A*B:Nat):Int):=by
 refine⟨Int.mul_nonneg h1.1 h2.1,?_⟩
 rw[Int.natCast_mul]
 exact Int.mul_le_mul h1.2 h2.2 h2.1 (by omega)
section
variable{w h:Int}{x y:Nat}{E F B:List (Int×Int)}
theorem oz:(eD w h y x).length<=2:=by
 unfold eD
 rw[List.length_append]
 have h1:(fl ((x:Int)+1<w) ((y:Int)*w+(x:Int),(y:Int)*w+(x:Int)+1)).length<=1:=y6
 have h2:(fl ((y:Int)+1<h) ((y:Int)*w+(x:Int),(y:Int)*w+(x:Int)+w)).length<=1:=y6
 omega
theorem Al(hE:E=iK (jW w h) y):E=iK (jW w h) y++iK (eD w h y) 0:=by rw[hE];simp[iK]
theorem Ef(hE:E=iK (jW w h) y++iK (eD w h y) x)(hx:x=w.toNat):E=iK (jW w h) (y+1):=by subst hx;rw[hE];rfl
theorem Fo(hE:E=B++iK (eD w h y) x)(h1:(x:Int)+1<w)(h2:(y:Int)+1<h):E++[((y:Int)*w+(x:Int),(y:Int)*w+(x:Int)+1)]++[((y:Int)*w+(x:Int),(y:Int)*w+(x:Int)+w)]=B++iK (eD w h y) (x+1):=by
 rw[hE,iK];unfold eD;rw[pS h1,pS h2];simp
theorem Fh(hE:E=B++iK (eD w h y) x)(h1:(x:Int)+1<w)(h2:¬(y:Int)+1<h):E++[((y:Int)*w+(x:Int),(y:Int)*w+(x:Int)+1)]=B++iK (eD w h y) (x+1):=by
 rw[hE,iK];unfold eD;rw[pS h1,tP h2];simp
theorem Ft(hE:E=B++iK (eD w h y) x)(h1:¬(x:Int)+1<w)(h2:(y:Int)+1<h):E++[((y:Int)*w+(x:Int),(y:Int)*w+(x:Int)+w)]=B++iK (eD w h y) (x+1):=by
 rw[hE,iK];unfold eD;rw[tP h1,pS h2];simp
theorem F1(hE:E=B++iK (eD w h y) x)(h1:¬(x:Int)+1<w)(h2:¬(y:Int)+1<h):E=B++iK (eD w h y) (x+1):=by
 rw[hE,iK];unfold eD;rw[tP h1,tP h2];simp
theorem Ej(hE:E=iK (jW w h) y)(hy:y=h.toNat):(w*h,E)=c7 w h:=by subst hy;rw[hE];rfl
end
section
end
end TL
set_option linter.all false
namespace TL
abbrev Bd:=Int×Int×Int×Int
abbrev cB:=Int×List Bd
def kz(x:Int):List Int->List Int
  |[]=>[x]
  |y::l=>if x<y then x::y::l else if x=y then y::l else y::kz x l
def eE(bs:List Bd):List Int:=bs.flatMap λb=>[b.1,b.2.1]
def cz(bs:List Bd):List Int:=(eE bs).foldr kz []
def DZ:List (Int×Int)->List Bd->Option (Int×Int)
  |_,[]=>none
  |seen,b::l=>if(b.1,b.2.1)∈seen then some (b.1,b.2.1) else DZ ((b.1,b.2.1)::seen) l
def gZ(bs:List Bd):Bool:=(eE bs).all λv=>(eE bs).count v==2
def tf(l:List Int)(x:Int):Int:=(l.idxOf x:Int)
def eH(l:List Int)(x:Int):Int:=((l.countP (· <x):Nat):Int)
def ba(bs:List Bd):bN:=(((cz bs).length:Int),bs.map λb=>(eH (cz bs) b.1,eH (cz bs) b.2.1))
def iQ(f:Int->Bool):Int->List Bd->List Bd
  |_,[]=>[]
  |i,b::l=>if f i then b::iQ f (i+1) l else iQ f (i+1) l
def yn(u v nm:Int):Bd:=(min u v,max u v,-1,nm)
def mB(f:Int->Bool)(bs:List Bd)(u v nm:Int):List Bd:=iQ f 0 bs++[yn u v nm]
def j4(f:Int->Bool)(bs:List Bd)(u v nm:Int):List Bd:=iQ (λi=> !f i) 0 bs++[yn u v nm]
def dI(g:bN):List Bd:=(bQ g.2.length).map λe=>(min (gI g.2 e).1 (gI g.2 e).2,max (gI g.2 e).1 (gI g.2 e).2,e,0)
def An(k:Int)(b:Bd):Bool:=decide (b.2.2.1<0/\b.2.2.2=k)
def jk:Int->List cB->Int->List Int
  |_,[],_=>[]
  |i,p::l,k=>(p.2.filter (An k)).map (λ_=>i)++jk (i+1) l k
def aQ(ps:List cB)(names:Int):List (List Int):=(bQ names.toNat).map (jk 0 ps)
def iO(gone:List Bool)(bs:List Bd):List Bd:=bs.filter λb=>decide (0<=b.2.2.1)|| !gI gone b.2.2.2
def j9(r:Int)(p:cB)(bs:List Bd):List (Int×cB)->List (Int×cB)
 |[]=>[(r,p.1,bs)]
 |q::l=>if q.1=r then(q.1,q.2.1,q.2.2++bs)::l else q::j9 r p bs l
def dM(to:List Int)(b:Bd):List Int×Bd:=
 if 0<=b.2.2.1 then(to,b) else if b.2.2.2∈to then(to,(b.1,b.2.1,b.2.2.1,tf to b.2.2.2)) else(to++[b.2.2.2],(b.1,b.2.1,b.2.2.1,(to.length:Int)))
def dG:List Int->List Bd->List Int×List Bd
 |to,[]=>(to,[])
 |to,b::l=>((dG (dM to b).1 l).1,(dM to b).2::(dG (dM to b).1 l).2)
def dU:List Int->List cB->List Int×List cB
 |to,[]=>(to,[])
 |to,p::l=>((dU (dG to p.2).1 l).1,(p.1,(dG to p.2).2)::(dU (dG to p.2).1 l).2)
def eA(h:List (List Int))(i name:Int):Int:=gI (gI h name) 0+gI (gI h name) 1-i
abbrev r7:=Int×List Int×List Bd
def iL(ps:List cB):Int:=(ps.findIdx (λp=>p.2.any λb=>b.2.2.1==0):Int)
def b5:bN:=(4,[(0,1),(1,2),(2,3),(3,0),(0,2)])
def ci(n:Int):bN:=(2,List.replicate n.toNat (0,1))
def bw(n:Int):bN:=(n+1,(cL n).2++(bQ n.toNat).map λi=>(n,i))
end TL
set_option linter.all false
namespace TL
open Go Go.Lib
section
variable{x y:Int}{l zs:List Int}{bs:List Bd}{d:Array Int}{m:Nat}
theorem nF:∀{l:List Int},y∈kz x l↔y=x\/y∈l
 |[]=>by simp[kz]
 |z::l=>by
   unfold kz
   split
   · simp
   · split
     · rename_i h1 h2
       subst h2
       simp
     · rw[List.mem_cons,nF,List.mem_cons]
       exact⟨λh=>h.elim (λh=>.inr (.inl h)) λh=>h.elim .inl λh=>.inr (.inr h),λh=>h.elim (λh=>.inr (.inl h)) λh=>h.elim .inl λh=>.inr (.inr h)⟩
theorem tp:∀{l:List Int},l.Pairwise (· < ·)->(kz x l).Pairwise (· < ·)
 |[],_=>by simp[kz]
 |z::l,h=>by
   have h':=List.pairwise_cons.1 h
   unfold kz
   split
   · rename_i h1
     refine List.pairwise_cons.2 ⟨λq hq=>?_,h⟩
     rcases List.mem_cons.1 hq with rfl|hq
     · exact h1
     · have:=h'.1 q hq;omega
   · split
     · exact h
     · refine List.pairwise_cons.2 ⟨λq hq=>?_,tp h'.2⟩
       rcases nF.1 hq with rfl|hq
       · omega
       · exact h'.1 q hq
theorem tn:∀(l:List Int),(l.foldr kz []).Pairwise (· < ·)/\∀y,y∈l.foldr kz []↔y∈l
 |[]=>by simp
 |x::l=>by
   obtain⟨h1,h2⟩:=tn l
   refine⟨tp h1,λy=>?_⟩
   rw[List.foldr_cons,nF,h2,List.mem_cons]
theorem CX(bs:List Bd):(cz bs).Pairwise (· < ·):=(tn _).1
theorem D6:x∈cz bs↔x∈eE bs:=(tn _).2 x
theorem mo(hs:∀i j,i<j->j<d.size->d[i]! <=d[j]!):∀m,m<=d.size->(compactUpTo d m).Pairwise (· < ·)/\∀x,x∈compactUpTo d m↔∃i,i<m/\d[i]! =x
 |0,_=>by simp[compactUpTo]
 |m+1,hm=>by
   obtain⟨h1,h2⟩:=mo hs m (by omega)
   rw[compactUpTo_succ]
   by_cases h0:m=0
   · subst h0
     rw[if_pos (keeps_lt_one d 0 (by omega))]
     have e:compactUpTo d 0=[]:=by simp[compactUpTo]
     rw[e]
     refine⟨by simp,λx=>?_⟩
     simp only[List.nil_append,List.mem_singleton]
     constructor
     · rintro rfl;exact⟨0,by omega,rfl⟩
     · rintro⟨i,hi,rfl⟩
       rw[show i=0 by omega]
   · by_cases hk:d[m]! =d[m-1]!
     · rw[keeps_neg (by omega) hk]
       simp only[Bool.false_eq_true,if_false,List.append_nil]
       refine⟨h1,λx=>(h2 x).trans ⟨?_,?_⟩⟩
       · rintro⟨i,hi,e⟩;exact⟨i,by omega,e⟩
       · rintro⟨i,hi,e⟩
         by_cases hi2:i<m
         · exact⟨i,hi2,e⟩
         · exact⟨m-1,by omega,by rw[<-hk,<-e,show i=m by omega]⟩
     · rw[keeps_pos hk,if_pos rfl]
       have hlt:d[m-1]! <d[m]! :=by
         have:=hs (m-1) m (by omega) (by omega)
         omega
       refine⟨?_,λx=>?_⟩
       · rw[List.pairwise_append]
         refine⟨h1,by simp,λa ha b hb=>?_⟩
         rw[List.mem_singleton.1 hb]
         obtain⟨i,hi,rfl⟩:=(h2 a).1 ha
         by_cases e:i=m-1
         · rw[e];exact hlt
         · have:=hs i (m-1) (by omega) (by omega)
           omega
       · rw[List.mem_append,List.mem_singleton,h2]
         constructor
         · rintro(⟨i,hi,e⟩|e)
           · exact⟨i,by omega,e⟩
           · exact⟨m,by omega,e.symm⟩
         · rintro⟨i,hi,e⟩
           by_cases hi2:i<m
           · exact .inl ⟨i,hi2,e⟩
           · exact .inr (by rw[<-e,show i=m by omega])
theorem BX(l:List Int):∀a,a∈l->∀b,b∈l->a<b->¬b<a:=λa _ b _ h=>by omega
theorem BJ(zs:List Int):compact (zs.mergeSort λx y=>decide (x<=y))=zs.foldr kz []:=by
 have hp:=List.mergeSort_perm zs λx y=>decide (x<=y)
 have hs:=List.pairwise_mergeSort (le:=λ(x y:Int)=>decide (x<=y)) (by intro a b c h1 h2;simp at*;omega) (by intro a b;simp;omega) zs
 have hs':∀i j,i<j->j<(zs.mergeSort λx y=>decide (x<=y)).toArray.size->(zs.mergeSort λx y=>decide (x<=y)).toArray[i]! <=(zs.mergeSort λx y=>decide (x<=y)).toArray[j]! :=λi j hij hj=>by
   have hj':j<(zs.mergeSort λx y=>decide (x<=y)).length:=by simpa using hj
   have:=List.pairwise_iff_getElem.1 hs i j (by omega) hj' hij
   simp only[decide_eq_true_eq] at this
   rw[getElem!_pos _ i (by simp only[List.size_toArray];omega),getElem!_pos _ j (by simpa using hj)]
   simpa using this
 obtain⟨h1,h2⟩:=mo hs' (zs.mergeSort λx y=>decide (x<=y)).length (by simp)
 obtain⟨h3,h4⟩:=tn zs
 unfold compact
 refine yW (R:=(· < ·)) (BX _) h1 h3 λx=>?_
 rw[h2,h4,<-hp.mem_iff]
 constructor
 · rintro⟨i,hi,rfl⟩
   rw[getElem!_pos _ i (by simpa using hi)]
   exact List.getElem_mem (by simpa using hi)
 · intro hx
   obtain⟨i,hi,e⟩:=List.mem_iff_getElem.1 hx
   refine⟨i,hi,?_⟩
   rw[getElem!_pos _ i (by simpa using hi)]
   exact e
theorem zT(bs:List Bd):compact ((eE bs).mergeSort λx y=>decide (x<=y))=cz bs:=BJ _
end
end TL
namespace TL
section
variable{bs:List Bd}{k:Nat}
def Fv(bs:List Bd):List Int:=(eE bs).mergeSort λx y=>decide (x<=y)
theorem iF:∀bs:List Bd,(eE bs).length=2*bs.length
 |[]=>rfl
 |b::bs=>by
   have:=iF bs
   unfold eE at this ⊢
   rw[List.flatMap_cons,List.length_append,this]
   simp only[List.length_cons,List.length_nil]
   omega
theorem mX(h:(k:Int)<bs.length):eE (bs.take k)++[(gI bs (k:Int)).1,(gI bs (k:Int)).2.1]=eE (bs.take (k+1)):=by
 rw[bc h]
 unfold eE
 rw[List.flatMap_append]
 simp
theorem rm(h:0<bs.length):eE bs≠[]:=λe=>by
 have:=iF bs
 rw[e] at this
 simp at this
 omega
end
end TL
set_option linter.all false
namespace TL
section
variable{bs:List Bd}{k:Nat}{m:(Int->Int)×List Int}{SS:List Int}{nb:Bool}{q:Int}{F:Int×Int->Int}{ie:List (Int×Int)}
theorem DT(h:0<(bs.length:Int)):0<((cz bs).length:Int):=by
 have h2:=rm (bs:=bs) (by omega)
 obtain⟨x,hx⟩:=List.exists_mem_of_ne_nil _ h2
 have:=List.length_pos_of_mem (D6.2 hx)
 omega
theorem Du:(cz bs).length<=2*bs.length:=by
 rw[<-iF bs]
 unfold cz
 generalize eE bs=l
 induction l with
 |nil=>simp
 |cons x l ih=>
   rw[List.foldr_cons]
   have:∀(x:Int) (l:List Int),(kz x l).length<=l.length+1:=λx l=>by
     induction l with
     |nil=>simp[kz]
     |cons y l ih=>
       unfold kz
       split
       · simp
       · split
         · simp
         · simp only[List.length_cons];omega
   have:=this x (l.foldr kz [])
   simp only[List.length_cons]
   omega
def o3(m:(Int->Int)×List Int)(a:Int):(Int->Int)×List Int:=(λq=>if q=a then m.1 a+1 else m.1 q,if a∈m.2 then m.2 else m.2++[a])
structure qn(bs:List Bd)(k:Nat)(m:(Int->Int)×List Int):Prop where
 f:∀v,m.1 v=(((eE (bs.take k)).count v:Nat):Int)
 d:∀v,v∈m.2↔v∈eE (bs.take k)
theorem qn.start:qn bs 0 ((λ_=>0),[]):=⟨λv=>by simp[eE],λv=>by simp[eE]⟩
theorem xE{l:List Int}{a:Int}(h:∀v,m.1 v=((l.count v:Nat):Int)):∀v,(o3 m a).1 v=(((l++[a]).count v:Nat):Int):=λv=>by
 unfold o3
 simp only[List.count_append,List.count_singleton]
 by_cases e:v=a
 · subst e
   rw[if_pos rfl,h]
   simp
 · rw[if_neg e,h]
   have:(a==v)=false:=by simpa using Ne.symm e
   rw[this]
   simp
theorem AY{l:List Int}{a:Int}(h:∀v,v∈m.2↔v∈l):∀v,v∈(o3 m a).2↔v∈l++[a]:=λv=>by
 unfold o3
 simp only
 split
 · rename_i ha
   rw[List.mem_append,List.mem_singleton,h]
   exact⟨.inl,λq=>q.elim id λe=>by rw[e];exact(h a).1 ha⟩
 · rw[List.mem_append,List.mem_append,h]
theorem qn.next(h:qn bs k m)(hk:(k:Int)<bs.length):qn bs (k+1) (o3 (o3 m (gI bs (k:Int)).1) (gI bs (k:Int)).2.1):=by
 have e:eE (bs.take (k+1))=(eE (bs.take k)++[(gI bs (k:Int)).1])++[(gI bs (k:Int)).2.1]:=by rw[<-mX hk];simp
 refine⟨λv=>?_,λv=>?_⟩
 · rw[e];exact xE (xE h.f) v
 · rw[e];exact AY (AY h.d) v
theorem qn.bd(h:qn bs k m):∀v,0<=m.1 v/\m.1 v<=2*(k:Int):=λv=>by
 rw[h.f]
 have h1:=List.count_le_length (a:=v) (l:=eE (bs.take k))
 rw[iF,List.length_take] at h1
 omega
theorem qn.bdd(h:qn bs k m)(a:Int):∀v,0<=(o3 m a).1 v/\(o3 m a).1 v<=2*(k:Int)+1:=λv=>by
 have h1:=h.bd v
 have h2:=h.bd a
 unfold o3
 simp only
 split<;>omega
theorem qn.all(h:qn bs k m)(hk:¬(k:Int)<bs.length):(∀v,m.1 v=(((eE bs).count v:Nat):Int))/\∀v,v∈m.2↔v∈eE bs:=by
 have h1:=h.f
 have h2:=h.d
 rw[List.take_of_length_le (by omega)] at h1 h2
 exact⟨h1,h2⟩
theorem qn.no(h:qn bs k m)(hk:¬(k:Int)<bs.length)(hy:nb=true->q∈m.2/\q∉SS/\SS.length+1<=m.2.length)(hb:nb=true)(h2:¬m.1 q=2):false=gZ bs:=by
 obtain⟨h3,h4⟩:=h.all hk
 refine(Bool.eq_false_iff.2 λhr=>h2 ?_).symm
 unfold gZ at hr
 have:=List.all_eq_true.1 hr q ((h4 q).1 (hy hb).1)
 rw[h3]
 have:=of_decide_eq_true this
 omega
theorem qn.yes(h:qn bs k m)(hk:¬(k:Int)<bs.length)(hS:∀v∈SS,m.1 v=2)(hz:nb=false->∀v∈m.2,v∈SS)(hb:¬nb=true):true=gZ bs:=by
 obtain⟨h3,h4⟩:=h.all hk
 refine(List.all_eq_true.2 λv hv=>?_).symm
 have h5:=hS v (hz (by cases nb;rfl;exact absurd rfl hb) v ((h4 v).2 hv))
 rw[h3] at h5
 exact decide_eq_true (by omega)
theorem C3(hS:∀v∈SS,m.1 v=2)(hb:nb=true)(h2:m.1 q=2):∀v∈Dp nb SS q,m.1 v=2:=by
 rw[zt hb]
 intro v hv
 rcases List.mem_append.1 hv with hv|hv
 · exact hS v hv
 · rw[List.mem_singleton.1 hv];exact h2
def Eb(b:Bd):Int×Int:=(b.1,b.2.1)
def cD(bs:List Bd):Int×Int×Bool:=
 match DZ [] bs with
 |some p=>(p.1,p.2,true)
 |none=>(0,0,false)
structure u3(bs:List Bd)(k:Nat)(F:Int×Int->Int):Prop where
 f:∀q,F q=((((bs.take k).map Eb).count q:Nat):Int)
 one:∀q,F q<=1
 t:DZ [] bs=DZ ((bs.take k).map Eb).reverse (bs.drop k)
theorem u3.start:u3 bs 0 (λ_=>0):=⟨λq=>by simp,λq=>by simp,by simp⟩
theorem fa(hk:(k:Int)<bs.length):bs.drop k=gI bs (k:Int)::bs.drop (k+1):=by
 have hl:k<bs.length:=by omega
 rw[List.drop_eq_getElem_cons hl]
 congr 1
 simp[gI,hl]
theorem u3.yes(h:u3 bs k F)(hk:(k:Int)<bs.length)(h2:1<(λq=>if q=((gI bs (k:Int)).1,(gI bs (k:Int)).2.1) then F ((gI bs (k:Int)).1,(gI bs (k:Int)).2.1)+1 else F q) ((gI bs (k:Int)).1,(gI bs (k:Int)).2.1)):cD bs=((gI bs (k:Int)).1,(gI bs (k:Int)).2.1,true):=by
 simp only[if_pos] at h2
 have hm:((gI bs (k:Int)).1,(gI bs (k:Int)).2.1)∈((bs.take k).map Eb).reverse:=by
   rw[h.f] at h2
   rw[List.mem_reverse]
   exact List.count_pos_iff.1 (by omega)
 unfold cD
 rw[h.t,fa hk,DZ,if_pos hm]
theorem u3.next(h:u3 bs k F)(hk:(k:Int)<bs.length)(h2:¬1<(λq=>if q=((gI bs (k:Int)).1,(gI bs (k:Int)).2.1) then F ((gI bs (k:Int)).1,(gI bs (k:Int)).2.1)+1 else F q) ((gI bs (k:Int)).1,(gI bs (k:Int)).2.1)):u3 bs (k+1) (λq=>if q=((gI bs (k:Int)).1,(gI bs (k:Int)).2.1) then F ((gI bs (k:Int)).1,(gI bs (k:Int)).2.1)+1 else F q):=by
 simp only[if_pos] at h2
 have hm:((gI bs (k:Int)).1,(gI bs (k:Int)).2.1)∉((bs.take k).map Eb).reverse:=λhm=>by
   rw[List.mem_reverse] at hm
   have:=List.count_pos_iff.2 hm
   have:=h.f ((gI bs (k:Int)).1,(gI bs (k:Int)).2.1)
   omega
 have et:(bs.take (k+1)).map Eb=(bs.take k).map Eb++[((gI bs (k:Int)).1,(gI bs (k:Int)).2.1)]:=by rw[bc hk,List.map_append];rfl
 refine⟨λq=>?_,λq=>?_,?_⟩
 · rw[et]
   simp only[List.count_append,List.count_singleton]
   by_cases e:q=((gI bs (k:Int)).1,(gI bs (k:Int)).2.1)
   · rw[if_pos e,h.f,e];simp
   · rw[if_neg e,h.f]
     have:((((gI bs (k:Int)).1,(gI bs (k:Int)).2.1):Int×Int)==q)=false:=by simpa using Ne.symm e
     rw[this];simp
 · by_cases e:q=((gI bs (k:Int)).1,(gI bs (k:Int)).2.1)
   · rw[if_pos e];exact Int.not_lt.1 h2
   · rw[if_neg e];exact h.one q
 · rw[h.t,fa hk,DZ,if_neg hm,et,List.reverse_append]
   rfl
theorem u3.none(h:u3 bs k F)(hk:¬(k:Int)<bs.length):cD bs=(0,0,false):=by
 unfold cD
 rw[h.t,List.drop_of_length_le (by omega),DZ]
theorem u3.bd(h:u3 bs k F):∀q,0<=F q/\F q<=1:=λq=>⟨by rw[h.f];omega,h.one q⟩
theorem ww(h:ie=(bs.take k).map λb=>(eH (cz bs) b.1,eH (cz bs) b.2.1))(hk:(k:Int)<bs.length):ie++[(eH (cz bs) (gI bs (k:Int)).1,eH (cz bs) (gI bs (k:Int)).2.1)]=(bs.take (k+1)).map λb=>(eH (cz bs) b.1,eH (cz bs) b.2.1):=by
 rw[h,bc hk,List.map_append];rfl
theorem zY(h:ie=(bs.take k).map λb=>(eH (cz bs) b.1,eH (cz bs) b.2.1))(hk:¬(k:Int)<bs.length):(((cz bs).length:Int),ie)=ba bs:=by
 rw[h,List.take_of_length_le (by omega)];rfl
end
end TL
set_option linter.all false
namespace TL
open Go
structure Pp where
  n:Nat
instance:Inhabited Pp:=⟨⟨0⟩⟩
instance:DecidableEq Pp:=λa b=>if h:a.n=b.n then isTrue (by cases a;cases b;simp_all) else isFalse λe=>h (by rw[e])
instance:Rp Pp where
 sz:=1
 rep _ _ _ cs x:=cs=[.pointer (some ⟨x.n,0,none⟩)]
 len h:=by subst h;rfl
 one h:=by subst h;simp[Value.oneCell']
 tr _ _ h:=h
instance:Fl Pp where
 cells x:=[.pointer (some ⟨x.n,0,none⟩)]
 rep_iff:=Iff.rfl
abbrev ch(α:Type):=Int×List α
def dl{α:Type}[Rp α](γ:ax)(k h:Nat)(w:World)(us:List Pp)(xs:List (ch α)):Prop:=
  us.length=xs.length/\∀(j:Nat) (u:Pp) (x:ch α),j≠h->us[j]? =some u->xs[j]? =some x->∃bv,Bx γ (row k (2*j+1)) w u.n [.int .i64 x.1,bv]/\Ow γ (row k (2*j+2)) (row k (2*j+2)) w bv x.2
def fi{α:Type}[Rp α](γ:ax)(k:Nat)(w:World)(us:List Pp)(xs:List (ch α)):Prop:=
 us.length=xs.length/\∀(j:Nat) (u:Pp) (x:ch α),us[j]? =some u->xs[j]? =some x->∃bv,Bx γ (row k (2*j+1)) w u.n [.int .i64 x.1,bv]/\Ow γ (row k (2*j+2)) (row k (2*j+2)) w bv x.2
theorem jF{γ:ax}{J:cw->Prop}{w:World}{b:Nat}{cs:List Value}(h:Bx γ J w b cs):Bx c0 (is 0) w b cs:=⟨rfl,h.2⟩
section
variable{α:Type}[Rp α]{γ γ':ax}{k h j a c:Nat}{w w':World}{us:List Pp}{xs:List (ch α)}{u:Pp}{x:ch α}{b:Nat}{bv:Value}{bs:List α}{i:Int}
theorem fi.nil:fi (α:=α) γ k w [] []:=⟨rfl,λj u x h=>by simp at h⟩
theorem fi.len(hp:fi γ k w us xs):us.length=xs.length:=hp.1
theorem fi.chg{K:cw->Prop}(hp:fi γ k w us xs)(hc:bg K γ w γ' w')(hK:∀c,is k c->¬K c):fi γ' k w' us xs:=by
 refine⟨hp.1,λj u x hu hx=>?_⟩
 obtain⟨bv,h1,h2⟩:=hp.2 j u x hu hx
 have hr:∀r c,row k r c->¬K c:=λr c h=>hK c (eb c h)
 exact⟨bv,h1.chg hc (hr _),h2.chg hc (hr _) (hr _)⟩
theorem dl.chg{K:cw->Prop}(hp:dl γ k h w us xs)(hc:bg K γ w γ' w')(hK:∀c,is k c->¬K c):dl γ' k h w' us xs:=by
 refine⟨hp.1,λj u x hj hu hx=>?_⟩
 obtain⟨bv,h1,h2⟩:=hp.2 j u x hj hu hx
 have hr:∀r c,row k r c->¬K c:=λr c h=>hK c (eb c h)
 exact⟨bv,h1.chg hc (hr _),h2.chg hc (hr _) (hr _)⟩
theorem fi.inj(hp:fi γ k w us xs){i j:Nat}(hi:us[i]? =some u)(hj:us[j]? =some u):i=j:=by
  have li:=(List.getElem?_eq_some_iff.1 hi).1
  have lj:=(List.getElem?_eq_some_iff.1 hj).1
  have hl:=hp.1
  obtain⟨_,h1,_⟩:=hp.2 i u _ hi (List.getElem?_eq_getElem (by omega:i<xs.length))
  obtain⟨_,h2,_⟩:=hp.2 j u _ hj (List.getElem?_eq_getElem (by omega:j<xs.length))
  have e1:γ u.n=(k,2*i+1):=h1.1
  have e2:γ u.n=(k,2*j+1):=h2.1
  rw[e1] at e2
  simp at e2
  omega
def kj(γ:ax)(k r1 r2 a c:Nat):ax:=λb=>if γ b=(k,r1) then(a,0) else if γ b=(k,r2) then(c,0) else γ b
theorem kG{r r1 r2:Nat}(h1:r≠r1)(h2:r≠r2)(hb:row k r (γ b)):row k r (kj γ k r1 r2 a c b):=by
 have hb:γ b=(k,r):=hb
 unfold kj row
 rw[hb,if_neg (by simp;omega),if_neg (by simp;omega)]
theorem sR(γ:ax)(w:World)(k r1 r2 a c:Nat):bg (is k) γ w (kj γ k r1 r2 a c) w:=
 ⟨rfl,rfl,rfl,Nat.le_refl _,λb _ hn=>by
   unfold kj
   rw[if_neg (λe=>hn (by rw[e];rfl)),if_neg (λe=>hn (by rw[e];rfl))],λ_ _ _=>rfl,Nat.le_refl _⟩
theorem fi.open_(a c:Nat)(hp:fi γ k w us xs)(hu:us[j]? =some u)(hx:xs[j]? =some x):∃γ' bv,bg (is k) γ w γ' w/\dl γ' k j w us xs/\Bx γ' (is a) w u.n [.int .i64 x.1,bv]/\Ow γ' (is c) (is c) w bv x.2:=by
  obtain⟨bv,h1,h2⟩:=hp.2 j u x hu hx
  refine⟨kj γ k (2*j+1) (2*j+2) a c,bv,sR _ _ _ _ _ _ _,⟨hp.1,λi u' x' hi hu' hx'=>?_⟩,⟨?_,h1.2⟩,h2.recol ?_ ?_⟩
  · obtain⟨bv',k1,k2⟩:=hp.2 i u' x' hu' hx'
    exact⟨bv',⟨kG (by omega) (by omega) k1.1,k1.2⟩,k2.recol (λb hb=>kG (by omega) (by omega) hb) (λb hb=>kG (by omega) (by omega) hb)⟩
  · have e:γ u.n=(k,2*j+1):=h1.1
    unfold kj is
    rw[if_pos e]
  all_goals
    intro b hb
    have e:γ b=(k,2*j+2):=hb
    unfold kj is
    rw[if_neg (by rw[e];simp),if_pos e]
def ic(γ:ax)(k r1 r2 a c:Nat):ax:=λb=>if(γ b).1=a then(k,r1) else if(γ b).1=c then(k,r2) else γ b
theorem fR{r r1 r2:Nat}(ha:Nat.beq k a=false)(hc:Nat.beq k c=false)(hb:row k r (γ b)):row k r (ic γ k r1 r2 a c b):=by
 have hb:γ b=(k,r):=hb
 have h1:=ku ha
 have h2:=ku hc
 unfold ic row
 rw[hb,if_neg (by simpa using h1),if_neg (by simpa using h2)]
theorem ni(γ:ax)(w:World)(k r1 r2 a c:Nat):bg (EE a c) γ w (ic γ k r1 r2 a c) w:=
 ⟨rfl,rfl,rfl,Nat.le_refl _,λb _ hn=>by
   unfold ic
   rw[if_neg (λe=>hn (.inl e)),if_neg (λe=>hn (.inr e))],λ_ _ _=>rfl,Nat.le_refl _⟩
theorem nk{r1 r2:Nat}(hb:is a (γ b)):row k r1 (ic γ k r1 r2 a c b):=by
 have hb:(γ b).1=a:=hb
 unfold ic row
 rw[if_pos hb]
theorem j1{r1 r2:Nat}(hac:Nat.beq c a=false)(hb:is c (γ b)):row k r2 (ic γ k r1 r2 a c b):=by
 have hb:(γ b).1=c:=hb
 have h:=ku hac
 unfold ic row
 rw[if_neg (by rw[hb];exact h),if_pos hb]
theorem dl.close(hp:dl γ k j w us xs)(ha:Nat.beq k a=false)(hc:Nat.beq k c=false)(hac:Nat.beq c a=false)(hu:us[j]? =some u)(hb:Bx γ (is a) w u.n [.int .i64 i,bv])(ho:Ow γ (is c) (is c) w bv bs):∃γ',bg (EE a c) γ w γ' w/\fi γ' k w us (xs.set j (i,bs)):=by
  refine⟨ic γ k (2*j+1) (2*j+2) a c,ni _ _ _ _ _ _ _,by rw[List.length_set];exact hp.1,λq u' x' hu' hx'=>?_⟩
  by_cases e:q=j
  · subst e
    have hl:=(List.getElem?_eq_some_iff.1 hu).1
    have hl2:=hp.1
    rw[List.getElem?_set_self (by omega)] at hx'
    obtain rfl:=Option.some.inj hx'
    rw[hu] at hu'
    obtain rfl:=Option.some.inj hu'
    exact⟨bv,⟨nk hb.1,hb.2⟩,ho.recol (λb hb=>j1 hac hb) (λb hb=>j1 hac hb)⟩
  · rw[List.getElem?_set_ne (Ne.symm e)] at hx'
    obtain⟨bv',k1,k2⟩:=hp.2 q u' x' e hu' hx'
    exact⟨bv',⟨fR ha hc k1.1,k1.2⟩,k2.recol (λb hb=>fR ha hc hb) (λb hb=>fR ha hc hb)⟩
theorem fi.add(hp:fi γ k w us xs)(ha:Nat.beq k a=false)(hc:Nat.beq k c=false)(hac:Nat.beq c a=false)(hb:Bx γ (is a) w b [.int .i64 i,bv])(ho:Ow γ (is c) (is c) w bv bs):∃γ',bg (EE a c) γ w γ' w/\fi γ' k w (us++[⟨b⟩]) (xs++[(i,bs)]):=by
  refine⟨ic γ k (2*us.length+1) (2*us.length+2) a c,ni _ _ _ _ _ _ _,by simp[hp.1],λq u' x' hu' hx'=>?_⟩
  by_cases e:q<us.length
  · have hl:=hp.1
    rw[List.getElem?_append_left e] at hu'
    rw[List.getElem?_append_left (by omega)] at hx'
    obtain⟨bv',k1,k2⟩:=hp.2 q u' x' hu' hx'
    exact⟨bv',⟨fR ha hc k1.1,k1.2⟩,k2.recol (λb hb=>fR ha hc hb) (λb hb=>fR ha hc hb)⟩
  · have hl:=hp.1
    have hq:=(List.getElem?_eq_some_iff.1 hu').1
    simp only[List.length_append,List.length_singleton] at hq
    have e0:q=us.length:=by omega
    subst e0
    rw[List.getElem?_append_right (Nat.le_refl _),Nat.sub_self] at hu'
    rw[hl,List.getElem?_append_right (Nat.le_refl _),Nat.sub_self] at hx'
    obtain rfl:(⟨b⟩:Pp)=u':=by simpa using hu'
    obtain rfl:(i,bs)=x':=by simpa using hx'
    exact⟨bv,⟨nk hb.1,hb.2⟩,ho.recol (λb hb=>j1 hac hb) (λb hb=>j1 hac hb)⟩
theorem tE(hp:us.length=xs.length)(hu:us[j]? =some u):xs[j]? =some (gI xs (j:Int)):=by
 have:=(List.getElem?_eq_some_iff.1 hu).1
 have h:=jq (xs:=xs) (i:=(j:Int)) (by omega) (by omega)
 simpa using h
theorem fi.opn(a c:Nat)(hp:fi γ k w us xs)(hu:us[j]? =some u):∃γ' bv,bg (is k) γ w γ' w/\dl γ' k j w us xs/\Bx γ' (is a) w u.n [.int .i64 (gI xs (j:Int)).1,bv]/\Ow γ' (is c) (is c) w bv (gI xs (j:Int)).2:=hp.open_ a c hu (tE hp.1 hu)
end
end TL
namespace TL
open Go
theorem fi.nd{α:Type}[Rp α]{γ:ax}{k:Nat}{w:World}{us:List Pp}{xs:List (ch α)}(hp:fi γ k w us xs):us.Nodup:=by
 rw[List.Nodup,List.pairwise_iff_getElem]
 intro i j hi hj hij e
 have h1:us[i]? =some us[i]:=List.getElem?_eq_getElem hi
 have h2:us[j]? =some us[i]:=by rw[e];exact List.getElem?_eq_getElem hj
 have:=hp.inj h1 h2
 omega
end TL
namespace TL
open Go
def CU{α:Type}[Rp α](w:World)(us:List Pp)(xs:List (ch α)):Prop:=
  us.length=xs.length/\∀(j:Nat) (u:Pp) (x:ch α),us[j]? =some u->xs[j]? =some x->∃bv,Bx c0 (is 0) w u.n [.int .i64 x.1,bv]/\Ro w bv x.2
def gC{α:Type}[Rp α](γ:ax)(w:World)(us:List Pp)(xs:List (ch α)):Prop:=
  us.length=xs.length/\∀(j:Nat) (u:Pp) (x:ch α),us[j]? =some u->xs[j]? =some x->∃bv,Bx γ (is 0) w u.n [.int .i64 x.1,bv]/\Sl γ (is 0) w bv x.2
section
variable{α:Type}[Rp α]{γ γ' δ:ax}{k i j B:Nat}{w w':World}{us:List Pp}{xs:List (ch α)}{u:Pp}
theorem fi.ro[Fl α](hp:fi γ k w us xs):CU w us xs:=by
 refine⟨hp.1,λj u x hu hx=>?_⟩
 obtain⟨bv,h1,h2⟩:=hp.2 j u x hu hx
 exact⟨bv,⟨rfl,h1.2⟩,h2.flat.ro⟩
theorem gC.ro(hp:gC γ w us xs):CU w us xs:=by
 refine⟨hp.1,λj u x hu hx=>?_⟩
 obtain⟨bv,h1,h2⟩:=hp.2 j u x hu hx
 exact⟨bv,⟨rfl,h1.2⟩,h2.ro⟩
theorem CU.start(hp:CU w us xs):gC c0 w us xs:=by
 refine⟨hp.1,λj u x hu hx=>?_⟩
 obtain⟨bv,h1,h2⟩:=hp.2 j u x hu hx
 exact⟨bv,h1,h2.sl⟩
theorem gC.chg{K:cw->Prop}(hp:gC γ w us xs)(hc:bg K γ w γ' w')(hK:∀c,is 0 c->¬K c):gC γ' w' us xs:=by
 refine⟨hp.1,λj u x hu hx=>?_⟩
 obtain⟨bv,h1,h2⟩:=hp.2 j u x hu hx
 exact⟨bv,h1.chg hc hK,h2.chg hc hK⟩
theorem gC.gt(hp:gC γ w us xs)(hu:us[j]? =some u):∃bv,Bx γ (is 0) w u.n [.int .i64 (gI xs (j:Int)).1,bv]/\Sl γ (is 0) w bv (gI xs (j:Int)).2:=hp.2 j u _ hu (tE hp.1 hu)
theorem fi.glue{ren:Nat->Nat}(hp:fi δ i w us xs)(hδ:∀b,b<B->(δ b).1=0)(hi:Nat.beq i 0=false)(hr:ren i=k):fi (TL.glue B γ δ ren) k w us xs:=by
 refine⟨hp.1,λj u x hu hx=>?_⟩
 obtain⟨bv,h1,h2⟩:=hp.2 j u x hu hx
 exact⟨bv,⟨fE hδ hi hr _ h1.1,h1.2⟩,h2.recol (fE hδ hi hr) (fE hδ hi hr)⟩
end
end TL
