/- Plain texts of this claim, part 2. By an AI agent. -/
import Derived.Test.YtmakonaaojadbaaBjTlP1
import Derived.Carry
import Derived.Deep.Slices
import Derived.Lib.SmallJoins
/-
  TlBlk: blocks by a walk depth first with a stack of edges, as the program does it, and what its walk may rely on.
  By an AI agent.
-/
set_option linter.all false
namespace TL
structure Bs where
 place:List Int
 low:List Int
 by_:List Int
 next:List Int
 found:Int
 edges:List Int
 laid:List Bool
 block:List Int
 count:Int
def jr(l:List Int)(x:Int):Nat:=l.length-1-l.reverse.idxOf x
def d3(s:Bs)(first:Int):Bs:=
 {s with block:=(s.edges.drop (jr s.edges first)).foldl (λb e=>b.set e.toNat s.count) s.block,edges:=s.edges.take (jr s.edges first),count:=s.count+1}
def eg(s:Bs)(v:Int):Bs:={s with found:=s.found+1,place:=s.place.set v.toNat (s.found+1),low:=s.low.set v.toNat (s.found+1)}
def fc(s:Bs)(e:Int):Bs:={s with laid:=s.laid.set e.toNat true,edges:=s.edges++[e]}
def da(g:bF)(s:Bs)(v h:Int):Bs×Int×Bool:=
 if gI s.laid (h/2)=true then(s,0,false)
 else if bA g h=v then(d3 (fc s (h/2)) (h/2),0,false)
 else if gI s.place (bA g h)=0 then(eg {fc s (h/2) with by_:=s.by_.set (bA g h).toNat h} (bA g h),bA g h,true)
 else({fc s (h/2) with low:=s.low.set v.toNat (min (gI s.low v) (gI s.place (bA g h)))},0,false)
def cU(g:bF)(s:Bs)(v:Int):Bs:=
 if gI s.by_ v<0 then s
 else
   let u:=au g (gI s.by_ v)
   let s1:Bs:={s with low:=s.low.set u.toNat (min (gI s.low u) (gI s.low v))}
   if gI s1.place u<=gI s1.low v then d3 s1 (gI s.by_ v/2) else s1
def cK(g:bF)(s:Bs)(path:List Int)(u:Int):Bs×List Int:=
 if gI s.next u=((gI (aT g) u).length:Int) then(cU g s u,path.dropLast)
 else
   let h:=gI (gI (aT g) u) (gI s.next u)
   let t:=da g {s with next:=s.next.set u.toNat (gI s.next u+1)} u h
   (t.1,if t.2.2=true then path++[t.2.1] else path)
def mA(g:bF):Nat->Bs->List Int->Bs
 |0,s,_=>s
 |n+1,s,path=>if path=[] then s else mA g n (cK g s path (gI path ((path.length:Int)-1))).1 (cK g s path (gI path ((path.length:Int)-1))).2
def bo(g:bF)(s:Bs)(path:List Int):Nat:=2*(((cz g.1.toNat).map λv=>((gI (aT g) v).length-(gI s.next v).toNat)).sum)+path.length
def cZ(g:bF)(s:Bs)(v:Int):Bs:=mA g (bo g (eg s v) [v]) (eg s v) [v]
def eN(g:bF):Bs:=⟨List.replicate g.1.toNat 0,List.replicate g.1.toNat 0,List.replicate g.1.toNat (-1),List.replicate g.1.toNat 0,0,[],List.replicate g.2.length false,List.replicate g.2.length 0,0⟩
def cq(g:bF)(k:Nat):Bs:=(cz k).foldl (λs v=>if gI s.place v=0 then cZ g s v else s) (eN g)
def dK(by_:List Int)(path:List Int):List Int:=path.tail.map λv=>gI by_ v/2
structure dm(g:bF)(s:Bs)(path:List Int):Prop where
  l1:(s.place.length:Int)=g.1
  l2:(s.low.length:Int)=g.1
  l3:(s.by_.length:Int)=g.1
  l4:(s.next.length:Int)=g.1
  l5:(s.laid.length:Int)=g.2.length
  l6:(s.block.length:Int)=g.2.length
  nx:∀v,0<=v->v<g.1->0<=gI s.next v/\gI s.next v<=((gI (aT g) v).length:Int)
  pl:∀v,0<=v->v<g.1->0<=gI s.place v/\gI s.place v<=s.found
  f0:0<=s.found
  fn:s.found+(s.place.count 0:Int)=g.1
  by_:∀v,0<=v->v<g.1->gI s.by_ v= -1\/((0<=gI s.by_ v/\gI s.by_ v<2*(g.2.length:Int))/\bA g (gI s.by_ v)=v/\gI s.place v≠0)
  en:s.edges.Nodup
  el:∀e∈s.edges,(0<=e/\e<(g.2.length:Int))/\gI s.laid e=true
  ct:0<=s.count
  cl:s.count+(s.edges.length:Int)<=(s.laid.count true:Int)
  pn:path.Nodup
  pr:∀v∈path,(0<=v/\v<g.1)/\gI s.place v≠0
  p0:∀v,path.head? =some v->gI s.by_ v= -1
  pt:∀v∈path.tail,0<=gI s.by_ v
  pe:(dK s.by_ path).Sublist s.edges
variable{g:bF}{s:Bs}{path:List Int}{e v w u hh:Int}
theorem jD{x:Int}{n:Nat}{v:Int}(h0:0<=v)(h1:v<n):gI (List.replicate n x) v=x:=by
 obtain⟨k,rfl⟩:∃k:Nat,v=(k:Int):=⟨v.toNat,by omega⟩
 have:k<n:=by omega
 simp[gI,this]
theorem fP{l:List Int}{i:Nat}(hi:i<l.length){x:Int}(h0:l[i]=0)(hx:x≠0):(l.set i x).count 0+1=l.count 0:=by
 have hp:0<l.count 0:=List.count_pos_iff.2 (h0▸List.getElem_mem hi)
 rw[List.count_set hi,h0]
 simp[hx]
 omega
theorem iB{l:List Bool}{i:Nat}(hi:i<l.length)(h0:l[i]=false):(l.set i true).count true=l.count true+1:=by
 rw[List.count_set hi,h0]
 simp
theorem o8{l:List Bool}{i:Int}(h0:0<=i)(h1:i<l.length):∃h:i.toNat<l.length,gI l i=l[i.toNat]:=⟨by omega,by
 have:i.toNat<l.length:=by omega
 simp[gI,this]⟩
theorem lu{l:List Int}{i:Int}(h0:0<=i)(h1:i<l.length):∃h:i.toNat<l.length,gI l i=l[i.toNat]:=⟨by omega,by
 have:i.toNat<l.length:=by omega
 simp[gI,this]⟩
theorem dm.start(hm:ba g):dm g (eN g) []:=by
 have h0:=hm.1
 have r0:∀{x:Int} {v:Int},0<=v->v<g.1->gI (List.replicate g.1.toNat x) v=x:=λa b=>jD a (by omega)
 refine⟨by simp[eN];omega,by simp[eN];omega,by simp[eN];omega,by simp[eN];omega,by simp[eN],by simp[eN],λv a b=>?_,λv a b=>?_,Int.le_refl _,?_,λv a b=>.inl (r0 a b),List.nodup_nil,λe he=>absurd he List.not_mem_nil,Int.le_refl _,?_,List.nodup_nil,λv hv=>absurd hv List.not_mem_nil,λv hv=>by simp at hv,λv hv=>absurd hv List.not_mem_nil,List.Sublist.refl _⟩
 · show 0<=gI (List.replicate g.1.toNat (0:Int)) v/\_<=_
   rw[show gI (eN g).next v=gI (List.replicate g.1.toNat (0:Int)) v from rfl,r0 a b];omega
 · show 0<=gI (List.replicate g.1.toNat (0:Int)) v/\gI (List.replicate g.1.toNat (0:Int)) v<=0
   rw[r0 a b];omega
 · show(0:Int)+((List.replicate g.1.toNat (0:Int)).count 0:Int)=g.1
   rw[List.count_replicate];simp;omega
 · show(0:Int)+((([]:List Int)).length:Int)<=((List.replicate g.2.length false).count true:Int)
   simp
theorem dm.lay(h:dm g s path)(e0:0<=e)(e1:e<(g.2.length:Int))(hl:¬gI s.laid e=true):dm g (fc s e) path/\e∉s.edges:=by
  have hl5:=h.l5
  obtain⟨hi,hg⟩:=o8 (l:=s.laid) e0 (by omega)
  have hne:e∉s.edges:=λk=>hl (h.el e k).2
  have hf:s.laid[e.toNat]=false:=by rw[<-hg];simpa using hl
  have hc:=iB hi hf
  refine⟨⟨h.l1,h.l2,h.l3,h.l4,by show((s.laid.set e.toNat true).length:Int)=_;rw[List.length_set];exact hl5,h.l6,h.nx,h.pl,h.f0,h.fn,h.by_,?_,λx hx=>?_,h.ct,?_,h.pn,h.pr,h.p0,h.pt,h.pe.trans (List.sublist_append_left ..)⟩,hne⟩
  · show(s.edges++[e]).Nodup
    rw[List.nodup_append]
    exact⟨h.en,by simp,λa ha b hb=>by rw[List.mem_singleton.1 hb];exact λk=>hne (by rw[<-k];exact ha)⟩
  · show(0<=x/\x<_)/\gI (s.laid.set e.toNat true) x=true
    rcases List.mem_append.1 hx with k|k
    · obtain⟨a,b⟩:=h.el x k
      refine⟨a,?_⟩
      rw[bM e0 (by omega) a.1]
      split
      · rfl
      · exact b
    · rw[List.mem_singleton.1 k]
      exact⟨⟨e0,e1⟩,by rw[bM e0 (by omega) e0,if_pos rfl]⟩
  · show s.count+((s.edges++[e]).length:Int)<=((s.laid.set e.toNat true).count true:Int)
    rw[hc,List.length_append,List.length_singleton]
    have:=h.cl;omega
theorem kC{A B:List Int}{x:Int}(hB:x∉B):jr (A++x::B) x=A.length:=by
 unfold jr
 rw[List.reverse_append,List.reverse_cons,List.append_assoc,List.idxOf_append]
 rw[if_neg (by simpa using hB)]
 simp
theorem kJ{l:List Int}{x:Int}(hn:l.Nodup)(hx:x∈l):∃A B,l=A++x::B/\x∉A/\x∉B/\jr l x=A.length:=by
 obtain⟨A,B,e⟩:=List.append_of_mem hx
 have hn':=hn
 rw[e,List.nodup_append] at hn'
 have h1:x∉B:=(List.nodup_cons.1 hn'.2.1).1
 have h2:x∉A:=λk=>hn'.2.2 x k x (List.mem_cons_self ..) rfl
 exact⟨A,B,e,h2,h1,by rw[e];exact kC h1⟩
theorem ie(c:Int):∀(l b:List Int),(l.foldl (λb e=>b.set e.toNat c) b).length=b.length
 |[],b=>rfl
 |x::l,b=>by rw[List.foldl_cons,ie c l,List.length_set]
theorem dm.close(h:dm g s path)(he:e∈s.edges)(hp:(dK s.by_ path).Sublist (s.edges.take (jr s.edges e))):dm g (d3 s e) path:=by
  obtain⟨A,B,e1,_,_,e2⟩:=kJ h.en he
  have hlt:jr s.edges e<s.edges.length:=by rw[e2,e1];simp
  have hs:(s.edges.take (jr s.edges e)).Sublist s.edges:=List.take_sublist _ _
  refine⟨h.l1,h.l2,h.l3,h.l4,h.l5,?_,h.nx,h.pl,h.f0,h.fn,h.by_,hs.nodup h.en,λx hx=>h.el x (hs.subset hx),by show 0<=s.count+1;have:=h.ct;omega,?_,h.pn,h.pr,h.p0,h.pt,hp⟩
  · show(((s.edges.drop (jr s.edges e)).foldl (λb x=>b.set x.toNat s.count) s.block).length:Int)=_
    rw[ie];exact h.l6
  · show s.count+1+((s.edges.take (jr s.edges e)).length:Int)<=(s.laid.count true:Int)
    rw[List.length_take]
    have:=h.cl;omega
theorem dm.lows(h:dm g s path)(x:Int)(k:Nat):dm g {s with low:=s.low.set k x} path:=
  {h with l2:=by show((s.low.set k x).length:Int)=_;rw[List.length_set];exact h.l2}
theorem dm.nexts(h:dm g s path)(u0:0<=u)(u1:u<g.1)(hn:¬gI s.next u=((gI (aT g) u).length:Int)):dm g {s with next:=s.next.set u.toNat (gI s.next u+1)} path:=
  {h with
    l4:=by show((s.next.set u.toNat _).length:Int)=_;rw[List.length_set];exact h.l4
    nx:=λx a b=>by
      show 0<=gI (s.next.set u.toNat (gI s.next u+1)) x/\gI (s.next.set u.toNat (gI s.next u+1)) x<=_
      rw[bM u0 (by have:=h.l4;omega) a]
      obtain⟨c,d⟩:=h.nx x a b
      split
      · rename_i k
        subst k
        obtain⟨c,d⟩:=h.nx x u0 u1
        omega
      · exact⟨c,d⟩}
theorem jl{b b':List Int}{p:List Int}(h:∀x∈p.tail,gI b x=gI b' x):dK b p=dK b' p:=by
 unfold dK
 exact List.map_congr_left λx hx=>by rw[h x hx]
theorem gY{b:List Int}{p:List Int}(hp:p≠[])(x:Int):dK b (p++[x])=dK b p++[gI b x/2]:=by
 unfold dK
 cases p with
 |nil=>exact absurd rfl hp
 |cons a l=>simp
theorem dm.grow(h:dm g s path)(hp:path≠[])(w0:0<=w)(w1:w<g.1)(hw:gI s.place w=0)(h0:0<=hh)(h1:hh<2*(g.2.length:Int))(ht:bA g hh=w)(he:(dK s.by_ path++[hh/2]).Sublist s.edges):
    dm g (eg {s with by_:=s.by_.set w.toNat hh} w) (path++[w]):=by
  have l1:=h.l1
  have l2:=h.l2
  have l3:=h.l3
  have f0:=h.f0
  have hwp:w∉path:=λk=>(h.pr w k).2 hw
  have gp:∀x,0<=x->gI (s.place.set w.toNat (s.found+1)) x=if x=w then s.found+1 else gI s.place x:=λx a=>bM w0 (by omega) a
  have gb:∀x,0<=x->gI (s.by_.set w.toNat hh) x=if x=w then hh else gI s.by_ x:=λx a=>bM w0 (by omega) a
  obtain⟨hi,hg⟩:=lu (l:=s.place) w0 (by omega)
  have hc:=fP hi (x:=s.found+1) (by rw[<-hg];exact hw) (by omega)
  refine⟨by show((s.place.set _ _).length:Int)=_;rw[List.length_set];exact l1,by show((s.low.set _ _).length:Int)=_;rw[List.length_set];exact l2,by show((s.by_.set _ _).length:Int)=_;rw[List.length_set];exact l3,h.l4,h.l5,h.l6,h.nx,λx a b=>?_,by show 0<=s.found+1;omega,?_,λx a b=>?_,h.en,h.el,h.ct,h.cl,?_,λx hx=>?_,λx hx=>?_,λx hx=>?_,?_⟩
  · show 0<=gI (s.place.set w.toNat (s.found+1)) x/\gI (s.place.set w.toNat (s.found+1)) x<=s.found+1
    rw[gp x a]
    have:=h.pl x a b
    split<;>omega
  · show s.found+1+((s.place.set w.toNat (s.found+1)).count 0:Int)=g.1
    have:=h.fn;omega
  · show gI (s.by_.set w.toNat hh) x= -1\/(0<=gI (s.by_.set w.toNat hh) x/\gI (s.by_.set w.toNat hh) x<_)/\bA g (gI (s.by_.set w.toNat hh) x)=x/\gI (s.place.set w.toNat (s.found+1)) x≠0
    rw[gb x a,gp x a]
    by_cases k:x=w
    · rw[if_pos k,if_pos k]
      exact .inr ⟨⟨h0,h1⟩,by rw[ht,k],by omega⟩
    · rw[if_neg k,if_neg k];exact h.by_ x a b
  · rw[List.nodup_append]
    exact⟨h.pn,by simp,λa ha b hb=>by rw[List.mem_singleton.1 hb];exact λk=>hwp (by rw[<-k];exact ha)⟩
  · show(0<=x/\x<g.1)/\gI (s.place.set w.toNat (s.found+1)) x≠0
    rcases List.mem_append.1 hx with k|k
    · obtain⟨a,b⟩:=h.pr x k
      refine⟨a,?_⟩
      rw[gp x a.1];split
      · omega
      · exact b
    · rw[List.mem_singleton.1 k]
      exact⟨⟨w0,w1⟩,by rw[gp w w0,if_pos rfl];omega⟩
  · show gI (s.by_.set w.toNat hh) x= -1
    cases hpe:path with
    |nil=>exact absurd hpe hp
    |cons a l=>
      rw[hpe] at hx
      have hxa:a=x:=by simpa using hx
      have hxp:x∈path:=by rw[hpe,<-hxa];exact List.mem_cons_self ..
      rw[gb x (h.pr x hxp).1.1,if_neg (λk=>hwp (by rw[<-k];exact hxp))]
      exact h.p0 x (by rw[hpe,hxa];rfl)
  · show 0<=gI (s.by_.set w.toNat hh) x
    have hx2:x∈path.tail\/x=w:=by
      cases hpe:path with
      |nil=>exact absurd hpe hp
      |cons a l=>
        rw[hpe] at hx
        simpa using hx
    rcases hx2 with k|k
    · have hxp:x∈path:=List.mem_of_mem_tail k
      rw[gb x (h.pr x hxp).1.1,if_neg (λj=>hwp (by rw[<-j];exact hxp))]
      exact h.pt x k
    · rw[k,gb w w0,if_pos rfl];exact h0
  · show(dK (s.by_.set w.toNat hh) (path++[w])).Sublist s.edges
    rw[gY hp,gb w w0,if_pos rfl,jl (b':=s.by_) (λx hx=>?_)]
    · exact he
    · have hxp:x∈path:=List.mem_of_mem_tail hx
      rw[gb x (h.pr x hxp).1.1,if_neg (λj=>hwp (by rw[<-j];exact hxp))]
theorem dm.first(h:dm g s [])(v0:0<=v)(v1:v<g.1)(hv:gI s.place v=0):dm g (eg s v) [v]:=by
  have l1:=h.l1
  have l2:=h.l2
  have f0:=h.f0
  have gp:∀x,0<=x->gI (s.place.set v.toNat (s.found+1)) x=if x=v then s.found+1 else gI s.place x:=λx a=>bM v0 (by omega) a
  obtain⟨hi,hg⟩:=lu (l:=s.place) v0 (by omega)
  have hc:=fP hi (x:=s.found+1) (by rw[<-hg];exact hv) (by omega)
  refine⟨by show((s.place.set _ _).length:Int)=_;rw[List.length_set];exact l1,by show((s.low.set _ _).length:Int)=_;rw[List.length_set];exact l2,h.l3,h.l4,h.l5,h.l6,h.nx,λx a b=>?_,by show 0<=s.found+1;omega,?_,λx a b=>?_,h.en,h.el,h.ct,h.cl,by simp,λx hx=>?_,λx hx=>?_,λx hx=>absurd hx List.not_mem_nil,List.nil_sublist _⟩
  · show 0<=gI (s.place.set v.toNat (s.found+1)) x/\gI (s.place.set v.toNat (s.found+1)) x<=s.found+1
    rw[gp x a]
    have:=h.pl x a b
    split<;>omega
  · show s.found+1+((s.place.set v.toNat (s.found+1)).count 0:Int)=g.1
    have:=h.fn;omega
  · show gI s.by_ x= -1\/(0<=gI s.by_ x/\gI s.by_ x<_)/\bA g (gI s.by_ x)=x/\gI (s.place.set v.toNat (s.found+1)) x≠0
    rcases h.by_ x a b with k|⟨k1,k2,k3⟩
    · exact .inl k
    · refine .inr ⟨k1,k2,?_⟩
      rw[gp x a];split
      · omega
      · exact k3
  · rw[List.mem_singleton.1 hx]
    exact⟨⟨v0,v1⟩,by show gI (s.place.set v.toNat (s.found+1)) v≠0;rw[gp v v0,if_pos rfl];omega⟩
  · have:v=x:=by simpa using hx
    rw[<-this]
    rcases h.by_ v v0 v1 with k|⟨_,_,k⟩
    · exact k
    · exact absurd hv k
theorem fL(hp:path≠[]):path=path.dropLast++[gI path ((path.length:Int)-1)]:=by
 have e:gI path ((path.length:Int)-1)=path.getLast hp:=by
   have h:0<path.length:=List.length_pos_iff.2 hp
   have e1:((path.length:Int)-1).toNat=path.length-1:=by omega
   have h2:path.length-1<path.length:=by omega
   unfold gI
   rw[e1,List.getLast_eq_getElem,List.getD_eq_getElem?_getD,List.getElem?_eq_getElem h2]
   rfl
 rw[e];exact(List.dropLast_concat_getLast hp).symm
theorem dm.drop(h:dm g s path):dm g s path.dropLast:=by
  have hs:(path.dropLast).Sublist path:=List.dropLast_sublist _
  have ht:(path.dropLast.tail).Sublist path.tail:=hs.tail
  refine {h with pn:=hs.nodup h.pn,pr:=λv hv=>h.pr v (hs.subset hv),p0:=λv hv=>h.p0 v ?_,pt:=λv hv=>h.pt v (ht.subset hv),pe:=?_}
  · cases hp:path with
    |nil=>rw[hp] at hv;simp at hv
    |cons a l=>
      rw[hp] at hv
      cases l with
      |nil=>simp at hv
      |cons b l=>simpa using hv
  · unfold dK
    exact(ht.map _).trans h.pe
theorem mJ{X A B:List Int}{x:Int}(h:(X++[x]).Sublist (A++x::B))(hA:x∉A)(hB:x∉B):X.Sublist A:=by
 obtain⟨l1,l2,e,h1,h2⟩:=List.sublist_append_iff.1 h
 by_cases hl2:l2=[]
 · subst hl2
   rw[List.append_nil] at e
   exact absurd (h1.subset (by rw[<-e];simp)) hA
 · obtain⟨l,y,rfl⟩:∃l y,l2=l++[y]:=⟨l2.dropLast,l2.getLast hl2,(List.dropLast_concat_getLast hl2).symm⟩
   have e2:X++[x]=(l1++l)++[y]:=by rw[e,List.append_assoc]
   obtain⟨e3,e4⟩:=List.append_inj' e2 rfl
   have ey:y=x:=by simpa using e4.symm
   subst ey
   cases l with
   |nil=>rw[e3,List.append_nil];exact h1
   |cons z l=>
     exfalso
     rw[List.cons_append] at h2
     rcases List.sublist_cons_iff.1 h2 with k|⟨r,k1,k2⟩
     · exact hB (k.subset (by simp))
     · have:r=l++[y]:=by
         injection k1 with _ q
         exact q.symm
       rw[this] at k2
       exact hB (k2.subset (by simp))
theorem dm.top(h:dm g s path)(hp:path≠[])(hv:v=gI path ((path.length:Int)-1))(hb:¬gI s.by_ v<0):gI s.by_ v/2∈s.edges/\(dK s.by_ path.dropLast).Sublist (s.edges.take (jr s.edges (gI s.by_ v/2))):=by
  have e0:=fL hp
  rw[<-hv] at e0
  have hd:path.dropLast≠[]:=by
    intro k
    rw[k] at e0
    have:=h.p0 v (by rw[e0];rfl)
    omega
  have pe:=h.pe
  rw[e0,gY hd] at pe
  have hm:gI s.by_ v/2∈s.edges:=pe.subset (by simp)
  obtain⟨A,B,e1,hA,hB,e2⟩:=kJ h.en hm
  refine⟨hm,?_⟩
  have:s.edges.take (jr s.edges (gI s.by_ v/2))=A:=by
    rw[e2]
    conv=>lhs;rw[e1]
    simp
  rw[this]
  rw[e1] at pe
  exact mJ pe hA hB
theorem dm.leave(hm:ba g)(h:dm g s path)(hp:path≠[])(hv:v=gI path ((path.length:Int)-1)):dm g (cU g s v) path.dropLast:=by
 unfold cU
 by_cases c:gI s.by_ v<0
 · rw[if_pos c];exact h.drop
 · rw[if_neg c]
   obtain⟨h1,h2⟩:=h.top hp hv c
   simp only
   have hl:=h.lows (min (gI s.low (au g (gI s.by_ v))) (gI s.low v)) (au g (gI s.by_ v)).toNat
   split
   · exact hl.drop.close (s:={s with low:=s.low.set (au g (gI s.by_ v)).toNat (min (gI s.low (au g (gI s.by_ v))) (gI s.low v))}) h1 h2
   · exact hl.drop
theorem dm.take(hm:ba g)(h:dm g s path)(hp:path≠[])(h0:0<=hh)(h1:hh<2*(g.2.length:Int)):dm g (da g s v hh).1 (if(da g s v hh).2.2=true then path++[(da g s v hh).2.1] else path):=by
 have ht:=eB hm h0 h1
 unfold da
 by_cases c:gI s.laid (hh/2)=true
 · rw[if_pos c];exact h
 · rw[if_neg c]
   obtain⟨hl,hn⟩:=h.lay (e:=hh/2) (by omega) (by omega) c
   by_cases c2:bA g hh=v
   · rw[if_pos c2]
     show dm g (d3 (fc s (hh/2)) (hh/2)) path
     refine hl.close (by show hh/2∈s.edges++[hh/2];simp) ?_
     have e:jr (s.edges++[hh/2]) (hh/2)=s.edges.length:=kC (A:=s.edges) (B:=[]) List.not_mem_nil
     show(dK s.by_ path).Sublist ((s.edges++[hh/2]).take (jr (s.edges++[hh/2]) (hh/2)))
     rw[e,List.take_left']
     · exact h.pe
     · rfl
   · rw[if_neg c2]
     by_cases c3:gI s.place (bA g hh)=0
     · rw[if_pos c3]
       show dm g (eg {fc s (hh/2) with by_:=s.by_.set (bA g hh).toNat hh} (bA g hh)) (path++[bA g hh])
       exact hl.grow hp ht.1 ht.2 c3 h0 h1 rfl (h.pe.append (List.Sublist.refl _))
     · rw[if_neg c3]
       show dm g {fc s (hh/2) with low:=s.low.set v.toNat (min (gI s.low v) (gI s.place (bA g hh)))} path
       exact hl.lows _ _
theorem dm.step(hm:ba g)(h:dm g s path)(hp:path≠[])(hu:u=gI path ((path.length:Int)-1)):dm g (cK g s path u).1 (cK g s path u).2:=by
 have hup:u∈path:=by
   have:=fL hp
   rw[<-hu] at this
   rw[this];simp
 obtain⟨⟨u0,u1⟩,_⟩:=h.pr u hup
 unfold cK
 by_cases c:gI s.next u=((gI (aT g) u).length:Int)
 · rw[if_pos c];exact h.leave hm hp hu
 · rw[if_neg c]
   obtain⟨n0,n1⟩:=h.nx u u0 u1
   have hin:gI (gI (aT g) u) (gI s.next u)∈gI (aT g) u:=bO n0 (by omega)
   rw[dM u0 u1] at hin
   have ho:=(eF hin).1
   rw[<-dM u0 u1] at ho
   exact(h.nexts u0 u1 c).take hm hp ho.1 ho.2
end TL
/-
  TlBlk2: the walk that finds blocks: it ends; all of it.
  By an AI agent.
-/
set_option linter.all false
namespace TL
variable{g:bF}{s:Bs}{path:List Int}{e v w u hh:Int}
theorem k9{f f':Int->Nat}{u:Int}:∀{l:List Int},l.Nodup->u∈l->(∀x∈l,x≠u->f x=f' x)->f u=f' u+1->(l.map f).sum=(l.map f').sum+1
 |[],_,hu,_,_=>absurd hu List.not_mem_nil
 |a::l,hn,hu,hx,he=>by
   have hn':=List.nodup_cons.1 hn
   simp only[List.map_cons,List.sum_cons]
   by_cases c:a=u
   · subst c
     have:l.map f=l.map f':=List.map_congr_left λx hxl=>hx x (List.mem_cons_of_mem _ hxl) (λk=>hn'.1 (by rw[<-k];exact hxl))
     rw[this,he];omega
   · have h2:=k9 hn'.2 ((List.mem_cons.1 hu).resolve_left (λk=>c k.symm)) (λx hxl=>hx x (List.mem_cons_of_mem _ hxl)) he
     rw[h2,hx a (List.mem_cons_self ..) c];omega
theorem lX(h:dm g s path)(u0:0<=u)(u1:u<g.1)(hn:¬gI s.next u=((gI (aT g) u).length:Int))(p:List Int):bo g s p=bo g {s with next:=s.next.set u.toNat (gI s.next u+1)} p+2:=by
 have e1:bo g {s with next:=s.next.set u.toNat (gI s.next u+1)} p=2*(((cz g.1.toNat).map λv=>((gI (aT g) v).length-(gI (s.next.set u.toNat (gI s.next u+1)) v).toNat)).sum)+p.length:=rfl
 rw[e1]
 unfold bo
 have hl:=h.l4
 obtain⟨n0,n1⟩:=h.nx u u0 u1
 have:=k9 (f:=λv=>(gI (aT g) v).length-(gI s.next v).toNat) (f':=λv=>(gI (aT g) v).length-(gI (s.next.set u.toNat (gI s.next u+1)) v).toNat) (u:=u) (kF g.1.toNat) (gu.2 ⟨u0,by omega⟩) (λx hx hxu=>by
   show _=(gI (aT g) x).length-(gI (s.next.set u.toNat (gI s.next u+1)) x).toNat
   rw[bM u0 (by omega) (gu.1 hx).1,if_neg hxu]) (by
   show(gI (aT g) u).length-(gI s.next u).toNat=(gI (aT g) u).length-(gI (s.next.set u.toNat (gI s.next u+1)) u).toNat+1
   rw[bM u0 (by omega) u0,if_pos rfl]
   omega)
 rw[this];omega
theorem fY:(cU g s v).next=s.next:=by
 unfold cU
 split
 · rfl
 · simp only;split<;>rfl
theorem mb:(da g s v hh).1.next=s.next:=by
 unfold da
 split
 · rfl
 · split
   · rfl
   · split<;>rfl
theorem iy{s':Bs}(h:s'.next=s.next)(p:List Int):bo g s' p=bo g s p:=by unfold bo;rw[h]
theorem gJ(h:dm g s path)(hp:path≠[])(hu:u=gI path ((path.length:Int)-1)):bo g (cK g s path u).1 (cK g s path u).2<bo g s path:=by
 have hup:u∈path:=by
   have:=fL hp
   rw[<-hu] at this
   rw[this];simp
 obtain⟨⟨u0,u1⟩,_⟩:=h.pr u hup
 have hl:0<path.length:=List.length_pos_iff.2 hp
 unfold cK
 by_cases c:gI s.next u=((gI (aT g) u).length:Int)
 · rw[if_pos c]
   show bo g (cU g s u) path.dropLast<_
   rw[iy fY]
   unfold bo
   rw[List.length_dropLast];omega
 · rw[if_neg c]
   simp only
   rw[iy mb]
   have h2:=lX h u0 u1 c path
   have h3:∀p:List Int,p.length<=path.length+1->bo g {s with next:=s.next.set u.toNat (gI s.next u+1)} p<=bo g {s with next:=s.next.set u.toNat (gI s.next u+1)} path+1:=λp hp=>by unfold bo;omega
   have h4:=h3 (if(da g {s with next:=s.next.set u.toNat (gI s.next u+1)} u (gI (gI (aT g) u) (gI s.next u))).2.2=true then path++[(da g {s with next:=s.next.set u.toNat (gI s.next u+1)} u (gI (gI (aT g) u) (gI s.next u))).2.1] else path) (by split<;>simp)
   omega
structure dH(g:bF)(R s:Bs)(path:List Int):Prop where
  i:dm g s path
  res:∃f,bo g s path<=f/\mA g f s path=R
theorem dH.start(h:dm g s [])(v0:0<=v)(v1:v<g.1)(hv:gI s.place v=0):dH g (cZ g s v) (eg s v) [v]:=⟨h.first v0 v1 hv,_,Nat.le_refl _,rfl⟩
theorem dH.step(hm:ba g){R:Bs}(h:dH g R s path)(hp:path≠[])(hu:u=gI path ((path.length:Int)-1)):dH g R (cK g s path u).1 (cK g s path u).2/\bo g (cK g s path u).1 (cK g s path u).2<bo g s path:=by
 have hl:=gJ h.i hp hu
 refine⟨⟨h.i.step hm hp hu,?_⟩,hl⟩
 obtain⟨f,f1,f2⟩:=h.res
 cases f with
 |zero=>omega
 |succ f=>
   refine⟨f,by omega,?_⟩
   unfold mA at f2
   rw[if_neg hp,<-hu] at f2
   exact f2
theorem dH.done{R:Bs}(h:dH g R s []):s=R:=by
 obtain⟨f,_,e⟩:=h.res
 rw[<-e]
 cases f with
 |zero=>rfl
 |succ f=>unfold mA;rw[if_pos rfl]
theorem qI(hm:ba g):∀(f:Nat) (s:Bs) (path:List Int),dm g s path->bo g s path<=f->dm g (mA g f s path) []
 |0,s,path,h,hf=>by
   have:path=[]:=List.length_eq_zero_iff.1 (by unfold bo at hf;omega)
   subst this
   exact h
 |f+1,s,path,h,hf=>by
   unfold mA
   by_cases c:path=[]
   · rw[if_pos c];rw[c] at h;exact h
   · rw[if_neg c]
     have:=gJ h c rfl
     exact qI hm f _ _ (h.step hm c rfl) (by omega)
theorem q7(hm:ba g)(h:dm g s [])(v0:0<=v)(v1:v<g.1)(hv:gI s.place v=0):dm g (cZ g s v) []:=qI hm _ _ _ (h.first v0 v1 hv) (Nat.le_refl _)
theorem fB(g:bF)(k:Nat):cq g (k+1)=if gI (cq g k).place (k:Int)=0 then cZ g (cq g k) (k:Int) else cq g k:=by
 unfold cq
 rw[db,List.foldl_append];rfl
theorem nG(hm:ba g):∀k:Nat,(k:Int)<=g.1->dm g (cq g k) []
 |0,_=>dm.start hm
 |k+1,h=>by
   have ih:=nG hm k (by omega)
   rw[fB]
   split
   · exact q7 hm ih (by omega) (by omega) ‹_›
   · exact ih
end TL
/-
  TlWayH: From with a heap: what holds while it runs.
  By an AI agent.
-/
set_option linter.all false
namespace TL
-- down
-- up
-- all of it
theorem oJ{α:Type}[Inhabited α]{n:Nat}{x:α}{v:Int}(h0:0<=v)(h1:v<n):gI (List.replicate n x) v=x:=by
 obtain⟨k,rfl⟩:∃k:Nat,v=(k:Int):=⟨v.toNat,by omega⟩
 have:k<n:=by omega
 simp[gI,this]
end TL
/-
  TlBlk3: blocks by the numbers of their least edges, cut nodes, bridges: what package block tells; a bridge is alone in its block.
  By an AI agent.
-/
set_option linter.all false
namespace TL
variable{g:bF}{l:List Int}{k:Nat}{b e:Int}
def ax(l:List Int):Nat->List Int×List Int
  |0=>([],[])
  |k+1=>
    let sn:=if gI l (k:Int)∈(ax l k).1 then(ax l k).1 else(ax l k).1++[gI l (k:Int)]
    (sn,(ax l k).2++[((sn.idxOf (gI l (k:Int)):Nat):Int)])
theorem gh(l:List Int):∀k,(ax l k).2.length=k/\(ax l k).1.length<=k
 |0=>⟨rfl,Nat.le_refl _⟩
 |k+1=>by
   obtain⟨a,b⟩:=gh l k
   unfold ax
   refine⟨by simp[a],?_⟩
   simp only
   split
   · omega
   · rw[List.length_append,List.length_singleton];omega
theorem nA(l:List Int)(k:Nat):(ax l k).1.length<=(ax l (k+1)).1.length:=by
 conv=>rhs;unfold ax
 simp only
 split
 · exact Nat.le_refl _
 · rw[List.length_append];omega
theorem lm(l:List Int):∀k,∀x∈(ax l k).2,0<=x/\x<((ax l k).1.length:Int)
 |0,x,hx=>absurd hx List.not_mem_nil
 |k+1,x,hx=>by
   have hg:=nA l k
   have hx2:x∈(ax l k).2++[(((if gI l (k:Int)∈(ax l k).1 then(ax l k).1 else(ax l k).1++[gI l (k:Int)]).idxOf (gI l (k:Int)):Nat):Int)]:=hx
   rcases List.mem_append.1 hx2 with c|c
   · have:=lm l k x c;omega
   · rw[List.mem_singleton.1 c]
     have hm:gI l (k:Int)∈(if gI l (k:Int)∈(ax l k).1 then(ax l k).1 else(ax l k).1++[gI l (k:Int)]):=by
       split
       · assumption
       · simp
     have:=List.idxOf_lt_length_of_mem hm
     refine⟨by omega,?_⟩
     show((_:Nat):Int)<(((if gI l (k:Int)∈(ax l k).1 then(ax l k).1 else(ax l k).1++[gI l (k:Int)]).length:Nat):Int)
     omega
def qt(of:List Int)(g:bF)(s:List Int×List Bool)(h:Int):List Int×List Bool:=
  (s.1.set (au g h).toNat (gI of (h/2)+1),s.2.set (au g h).toNat (gI s.2 (au g h)||(decide (0<gI s.1 (au g h))&& !decide (gI s.1 (au g h)=gI of (h/2)+1))))
def lT(of:List Int)(g:bF)(k:Nat):List Int×List Bool:=(cz k).foldl (qt of g) (List.replicate g.1.toNat 0,List.replicate g.1.toNat false)
def dD(g:bF):List Int:=(ax (cq g g.1.toNat).block g.2.length).2
def dd(g:bF):Int:=((ax (cq g g.1.toNat).block g.2.length).1.length:Int)
def ln(g:bF):List Int:=(cz g.1.toNat).filter λv=>gI (lT (dD g) g (2*g.2.length)).2 v
def dI(of:List Int)(n:Nat)(k:Nat):List Int:=(of.take k).foldl (λl b=>l.set b.toNat (gI l b+1)) (List.replicate n 0)
def cB(g:bF)(k:Nat):List Int:=(cz k).filter λe=>decide (gI (dI (dD g) (dd g).toNat g.2.length) (gI (dD g) e)=1)&& !decide ((gI g.2 e).1=(gI g.2 e).2)
def ao(g:bF):(List Int×List Int×Int)×Int:=if ba g then((dD g,ln g,dd g),0) else(([],[],0),1)
def bz(g:bF):List Int×Int:=if ba g then(cB g g.2.length,0) else([],1)
theorem fJ(g:bF):(dD g).length=g.2.length:=(gh _ _).1
theorem fy(g:bF){i:Int}(h0:0<=i)(h1:i<(g.2.length:Int)):0<=gI (dD g) i/\gI (dD g) i<dd g:=by
 have hl:=fJ g
 exact lm _ _ _ (bO (xs:=dD g) h0 (by omega))
theorem n6(of:List Int)(n k:Nat):(dI of n k).length=n:=by
 unfold dI
 have key:∀(l p:List Int),(l.foldl (λl b=>l.set b.toNat (gI l b+1)) p).length=p.length:=by
   intro l
   induction l with
   |nil=>intro p;rfl
   |cons a l ih=>intro p;rw[List.foldl_cons,ih,List.length_set]
 rw[key];simp
theorem iK{of:List Int}{n k:Nat}(hk:(k:Int)<of.length):dI of n (k+1)=(dI of n k).set (gI of (k:Int)).toNat (gI (dI of n k) (gI of (k:Int))+1):=by
 have hk':k<of.length:=by omega
 unfold dI
 rw[List.take_succ_eq_append_getElem hk',List.foldl_append]
 have e:gI of (k:Int)=of[k]:=by simp[gI,hk']
 rw[e];rfl
theorem kf(hk:decide (gI (dI (dD g) (dd g).toNat g.2.length) (gI (dD g) (k:Int))=1)=true)(hn:¬(gI g.2 (k:Int)).1=(gI g.2 (k:Int)).2):cB g (k+1)=cB g k++[(k:Int)]:=by
 unfold cB
 rw[db,List.filter_append]
 simp only[List.filter_cons,List.filter_nil,hk,decide_eq_false hn,Bool.not_false,Bool.and_self,if_true]
theorem ky(h:¬gI (dI (dD g) (dd g).toNat g.2.length) (gI (dD g) (k:Int))=1\/(gI g.2 (k:Int)).1=(gI g.2 (k:Int)).2):cB g (k+1)=cB g k:=by
 unfold cB
 rw[db,List.filter_append]
 have e:(decide (gI (dI (dD g) (dd g).toNat g.2.length) (gI (dD g) (k:Int))=1)&& !decide ((gI g.2 (k:Int)).1=(gI g.2 (k:Int)).2))=false:=by
   rcases h with h|h
   · rw[decide_eq_false h];rfl
   · rw[decide_eq_true h];simp
 simp only[List.filter_cons,List.filter_nil,e,Bool.false_eq_true,if_false,List.append_nil]
end TL
namespace TL
structure lC(l:List Int)(mp:(Int->Int)×List Int)(out:List Int)(k:Nat):Prop where
  dom:mp.2=(ax l k).1
  val:∀b∈mp.2,mp.1 b=((mp.2.idxOf b:Nat):Int)
  eq:out=(ax l k).2++List.replicate (l.length-k) 0
  lo:(out.length:Int)=l.length
variable{l:List Int}{mp:(Int->Int)×List Int}{out:List Int}{k:Nat}
theorem lC.start:lC l (λ_=>0,[]) (List.replicate (Int.toNat (l.length:Int)) 0) 0:=
 ⟨rfl,λb hb=>absurd hb List.not_mem_nil,by simp[ax],by simp⟩
theorem l9{x:Int}(h:out=(ax l k).2++List.replicate (l.length-k) 0)(hk:(k:Int)<l.length):out.set (Int.toNat (k:Int)) x=((ax l k).2++[x])++List.replicate (l.length-(k+1)) 0:=by
 have hl:=(gh l k).1
 rw[h,Int.toNat_natCast,List.set_append_right _ _ (by omega),hl,Nat.sub_self]
 rw[show l.length-k=(l.length-(k+1))+1 by omega,List.replicate_succ]
 simp
theorem lC.old(h:lC l mp out k)(hk:(k:Int)<l.length)(hm:gI l (k:Int)∈mp.2):lC l mp (out.set (Int.toNat (k:Int)) (mp.1 (gI l (k:Int)))) (k+1):=by
 have hd:=h.dom
 have e:ax l (k+1)=((ax l k).1,(ax l k).2++[(((ax l k).1.idxOf (gI l (k:Int)):Nat):Int)]):=by
   conv=>lhs;unfold ax
   simp only[if_pos (show gI l (k:Int)∈(ax l k).1 by rw[<-hd];exact hm)]
 refine⟨by rw[e];exact hd,h.val,?_,by rw[List.length_set];exact h.lo⟩
 rw[l9 h.eq hk,e,h.val _ hm,hd]
theorem lC.new(h:lC l mp out k)(hk:(k:Int)<l.length)(hm:¬gI l (k:Int)∈mp.2){mp':(Int->Int)×List Int}{x:Int}(em:mp'=((λq=>if q=gI l (k:Int) then(mp.2.length:Int) else mp.1 q),if gI l (k:Int)∈mp.2 then mp.2 else mp.2++[gI l (k:Int)]))(ex:x=mp'.1 (gI l (k:Int))):
   lC l mp' (out.set (Int.toNat (k:Int)) x) (k+1):=by
 subst em
 have hd:=h.dom
 rw[if_neg hm]
 have e:ax l (k+1)=((ax l k).1++[gI l (k:Int)],(ax l k).2++[((((ax l k).1++[gI l (k:Int)]).idxOf (gI l (k:Int)):Nat):Int)]):=by
   conv=>lhs;unfold ax
   simp only[if_neg (show¬gI l (k:Int)∈(ax l k).1 by rw[<-hd];exact hm)]
 have ei:(mp.2++[gI l (k:Int)]).idxOf (gI l (k:Int))=mp.2.length:=by
   rw[List.idxOf_append,if_neg hm];simp
 refine⟨by rw[e,<-hd],λb hb=>?_,?_,by rw[List.length_set];exact h.lo⟩
 · show(if b=gI l (k:Int) then(mp.2.length:Int) else mp.1 b)=(((mp.2++[gI l (k:Int)]).idxOf b:Nat):Int)
   by_cases c:b=gI l (k:Int)
   · rw[if_pos c,c,ei]
   · have hb2:b∈mp.2:=(List.mem_append.1 hb).resolve_right (λz=>c (List.mem_singleton.1 z))
     rw[if_neg c,List.idxOf_append,if_pos hb2];exact h.val b hb2
 · rw[l9 h.eq hk,e,ex]
   show _=_
   rw[<-hd,ei]
   simp
theorem lC.done(h:lC l mp out k)(hk:k=l.length):out=(ax l l.length).2/\(mp.2.length:Int)=((ax l l.length).1.length:Int):=by
 subst hk
 have:=h.eq
 rw[Nat.sub_self,List.replicate_zero,List.append_nil] at this
 exact⟨this,by rw[h.dom]⟩
end TL
/-
  TlWayT: the way that leads to a node, from how the nodes were reached (package path's To), as the document has it.
  By an AI agent.
-/
set_option linter.all false
namespace TL
def n4(fs:FS)(g:bF):Prop:=ba g/\(fs.1.length:Int)=g.1/\(fs.2.length:Int)=g.1
instance (fs:FS)(g:bF):Decidable (n4 fs g):=by unfold n4;infer_instance
variable{fs:FS}{g:bF}{t v:Int}{l:List Int}{n:Nat}
variable{by_:List Int}
end TL
/-
  TlDij: what the document's From comes to: each length is that of the way found; no half-edge of a reached node leads nearer.
  By an AI agent.
-/
set_option linter.all false
namespace TL
abbrev hf(g:bF)(h:Int):Prop:=0<=h/\h<2*(g.2.length:Int)
abbrev nd(g:bF)(v:Int):Prop:=0<=v/\v<g.1
variable{g:bF}{ws:List Nat}{s p:Int}{far:List Nat}{by_:List Int}{se:List Bool}{rk:Int->Nat}{n:Nat}{done:List Int}
end TL
/-
  TlOpen: arguments opened: what a law's reader says of a slice is what a walk wants of it.
  By an AI agent.
-/
namespace TL
open Go Go.Proofs Go.ChangeShapes Go.WideShapes Go.Joins Go.Deep
structure kI{H:Type}(f:DataW H->Nat):Prop where
 slice:∀l s:List (DataW H),l.length<=f (.slice l s)
 elem:∀l s:List (DataW H),∀d∈l,f d<=f (.slice l s)
 part:∀l:List (DataW H),∀d∈l,f d<=f (.agg l)
def nZ(α:Type)[Rp α](P:Program)(t:TypeId):Prop:=
  ∀{H:Type} (enc:TypeId×Value->H) (w:World) (fuel:Nat) (cs:List Value) (x:DataW H×List MemPlace),DataW.trod enc P w 0 (λ_=>true) true fuel t cs=some x->∃y:α,Rp.rep c0 any w cs y
theorem l7{P:Program}{t:TypeId}(ht:P.underlying t=some (.int .i64)):nZ Int P t:=by
 intro H enc w fuel cs x h
 obtain⟨n,rfl,_,_⟩:=DataW.trod_int ht h
 exact⟨n,rfl⟩
theorem jw{H:Type}{enc:TypeId×Value->H}{P:Program}{w:World}{base:Nat}{spare:Nat->Bool}{held:Bool}{t e:TypeId}{fuel:Nat}{cs:List Value}{x:DataW H×List MemPlace}(ht:P.underlying t=some (.array 2 e))(hce:P.cellsOf e=1)(hct:P.cellsOf t=2)
   (h:DataW.trod enc P w base spare held fuel t cs=some x):
   ∃v0 v1 y0 y1 n,cs=[v0,v1]/\x=(.agg [y0.1,y1.1],y0.2++y1.2)/\DataW.trod enc P w base spare held n e [v0]=some y0/\DataW.trod enc P w base spare held n e [v1]=some y1:=by
 cases fuel with
 |zero=>simp[DataW.trod] at h
 |succ n=>
   unfold DataW.trod at h
   rw[ht] at h
   have r2:List.range 2=[0,1]:=rfl
   simp only[hct] at h
   by_cases hl:cs.length=2
   · rw[if_pos hl] at h
     match cs,hl with
     |[v0,v1],_=>
       simp[r2,hce] at h
       cases h0:DataW.trod enc P w base spare held n e [v0] with
       |none=>simp[h0] at h
       |some y0=>
         cases h1:DataW.trod enc P w base spare held n e [v1] with
         |none=>simp[h0,h1] at h
         |some y1=>
           simp[h0,h1] at h
           exact⟨v0,v1,y0,y1,n,rfl,h.symm,h0,h1⟩
   · rw[if_neg hl] at h;cases h
theorem nX{P:Program}{t e:TypeId}(ht:P.underlying t=some (.array 2 e))(he:P.underlying e=some (.int .i64))(hce:P.cellsOf e=1)(hct:P.cellsOf t=2):nZ (Int×Int) P t:=by
 intro H enc w fuel cs x h
 obtain⟨v0,v1,y0,y1,n,rfl,_,h0,h1⟩:=jw ht hce hct h
 obtain⟨a,ha⟩:=l7 he enc w n [v0] y0 h0
 obtain⟨b,hb⟩:=l7 he enc w n [v1] y1 h1
 exact⟨(a,b),[v0],[v1],rfl,ha,hb⟩
theorem lZ{α:Type}[Rp α][Inhabited α]{P:Program}{t e:TypeId}(ht:P.underlying t=some (.slice e))(hc:P.cellsOf e=Rp.sz α)(hz:0<Rp.sz α)(he:nZ α P e)
    {H:Type}{enc:TypeId×Value->H}{w:World}{f:DataW H->Nat}(hf:kI f){fuel:Nat}{v:Value}{x:DataW H×List MemPlace}
    (hs:∀a len cap,v= .slice (some a) len cap->a.spot=none)(h:DataW.trod enc P w 0 (λ_=>true) true fuel t [v]=some x)(hb:f x.1<=1048576):∃xs:List α,Ro w v xs:=by
  rcases Deep.open_slice ht h with⟨h0,_⟩|⟨a,len,cap,m,n,D,Pl,h0,_,hlc,_,hm,rfl,hx⟩
  · obtain rfl:v= .slice none 0 0:=by simpa using h0
    exact⟨[],.inl ⟨⟨_,rfl⟩,rfl⟩⟩
  · obtain rfl:v= .slice (some a) len cap:=by simpa using h0
    have hsp:=hs a len cap rfl
    obtain⟨b,off,spot⟩:=a
    obtain rfl:spot=none:=hsp
    simp only[if_true] at hm
    subst hm
    obtain⟨Y,hY⟩:=Deep.choose_lt (α:=α) (n:=len) (p:=λi y=>∃cs,(∀j,j<Rp.sz α->w.cell? ⟨b,off+i*Rp.sz α+j,none⟩=cs[j]?)/\Rp.rep c0 any w cs y) (λi hi=>by
      obtain⟨cs',h1,h2⟩:=hx i (by omega)
      obtain⟨y,hy⟩:=he enc w n cs' _ h2
      refine⟨y,cs',λj hj=>?_,hy⟩
      obtain⟨_,hl,hcell⟩:=World.cells?_some h1
      have:=hcell j (by omega)
      rw[Deep.add_add,hc] at this
      rw[<-this]
      unfold Addr.add
      by_cases hij:i*Rp.sz α+j=0
      · rw[if_pos hij,Nat.add_assoc,hij];rfl
      · rw[if_neg hij,Nat.add_assoc])
    have hlen:((List.range len).map Y).length=len:=by simp
    have hbound:=Nat.le_trans (hf.slice _ _) hb
    refine⟨(List.range len).map Y,.inr ⟨b,off,m,by rw[hlen],⟨by omega,by simp at hbound;omega⟩,λi y hi=>?_⟩⟩
    have hil:i<len:=by
      have:=(List.getElem?_eq_some_iff.1 hi).1
      omega
    obtain rfl:Y i=y:=by simpa[hil] using hi
    obtain⟨cs,h1,h2⟩:=hY i hil
    refine⟨?_,trivial,cs,h1,h2⟩
    have h3:=h1 0 hz
    have h4:=Rp.len h2
    have h5:0<cs.length:=by omega
    rw[List.getElem?_eq_getElem h5] at h3
    by_cases hbl:b<w.heap.size
    · exact hbl
    · have:w.heap[b]? =none:=Array.getElem?_eq_none (by omega)
      simp[World.cell?,this] at h3
theorem j4{P:Program}{w:World}{base:Nat}{t e:TypeId}{v:Value}(ht:P.underlying t=some (.slice e))(h:Cell.okWide P w .any base t v):∀a len cap,v= .slice (some a) len cap->a.spot=none:=by
 rintro a len cap rfl
 simp only[Cell.okWide,Cell.ok,ht] at h
 exact h.2.2.2.1
theorem pp{α:Type}[Rp α][Inhabited α]{P:Program}{t t0 t1 e:TypeId}{f0 f1:Field}(hs:P.underlying t=some (.struct #[f0,f1]))(hone:oneCellFields P #[f0,f1]=true)(hC:P.cellsOf t=2)(hts:P.cellTypes P.depth t=some [t0,t1])
    (h0:f0.type=t0)(h1:f1.type=t1)(hi:P.underlying t0=some (.int .i64))(ht:P.underlying t1=some (.slice e))(hc:P.cellsOf e=Rp.sz α)(hz:0<Rp.sz α)(he:nZ α P e)
    {H:Type}{enc:TypeId×Value->H}{w:World}{f:DataW H->Nat}(hf:kI f){base:Nat}{v:Value}{d:DataW H}{p:List MemPlace}
    (hval:Value.okWide P w .any base t v)(h:DataW.Trod enc P w 0 (λ_=>true) true t v d p)(hb:f d<=1048576):∃(n:Int) (u:Value) (xs:List α),v= .agg #[.int .i64 n,u]/\Ro w u xs:=by
  obtain⟨v0,v1,y0,y1,n,rfl,rfl,rfl,r0,r1⟩:=open_agg2 hs hone hC hval h
  subst h0 h1
  obtain⟨k,hk,_,_⟩:=DataW.trod_int hi r0
  obtain rfl:v0= .int .i64 k:=by simpa using hk
  have hcell:Cell.okWide P w .any base f1.type v1:=by
    simp only[Value.okWide,hs] at hval
    obtain⟨cs,hcs,_,ts,h3,_,h4⟩:=hval
    rw[hts] at h3
    obtain rfl:=Option.some.inj h3
    obtain rfl: #[Value.int .i64 k,v1]=cs:=by simpa using hcs
    obtain⟨u,hu,hk⟩:=h4 1 v1 rfl
    simp at hu
    subst hu
    exact hk
  obtain⟨xs,hx⟩:=lZ ht hc hz he hf (j4 ht hcell) (x:=y1) r1 (Nat.le_trans (hf.part _ _ (by simp)) hb)
  exact⟨k,v1,xs,rfl,hx⟩
end TL
/-
  TlJudge4: directions around a point; a plot turned by a quarter; the example's rotation.
  By an AI agent.
-/
set_option linter.all false
namespace TL
section
variable{u v w:Pt}
end
section
variable{p:iC}{o:Pt}{l:List Int}
end
section
variable{u v:Pt}{i k:Int}
def qB(u:Pt):Prop:=0<=u.1/\0<u.2
instance (u:Pt):Decidable (qB u):=by unfold qB;infer_instance
end
section
variable{o:Pt}{ps:List Pt}
end
end TL
/-
  TlJTr: plots moved as a whole: their flaws.
  By an AI agent.
-/
set_option linter.all false
namespace TL
section
variable{T:Pt->Pt}{D:Pt->Prop}{g:bF}{p:iC}{l a b but:List Pt}{q:Pt}{i k:Nat}
end
section
variable{g:bF}{p:iC}
end
def qF(p:iC):Nat->Int
 |0=>(p.1.length:Int)
 |k+1=>qF p k+((gI p.2 (k:Int)).length:Int)+1
def nw(g:bF)(p:iC):Prop:=qF p p.2.length<=400/\(¬ba g\/g.1<=30/\(g.2.length:Int)<=40)
instance (g:bF)(p:iC):Decidable (nw g p):=by unfold nw;infer_instance
end TL
namespace TL
section
variable{g:bF}{p:iC}{l r:List Pt}{L:List (List Pt)}{k e:Nat}
end
end TL
namespace TL
section
variable{α:Type}[Inhabited α][DecidableEq α]{a b:List α}{k:Nat}
end
section
variable{g:bF}{p:iC}{n:Int}{e:Nat}
end
end TL
/-
  TlWord: words and bytes in memory (a list of uint64, a list of uint8), and how a statement's argument of them is opened.
  By an AI agent.
-/
set_option linter.all false
namespace TL
open Go Go.Proofs Go.ChangeShapes Go.WideShapes Go.Joins Go.Deep
structure Wd where
  n:Nat
  lt:n<18446744073709551616
instance:Inhabited Wd:=⟨⟨0,by decide⟩⟩
instance:Rp Wd where
 sz:=1
 rep _ _ _ cs x:=cs=[.int .u64 (x.n:Int)]
 len h:=by subst h;rfl
 one h:=by subst h;simp[Value.oneCell']
 tr _ _ h:=h
instance:Fl Wd where
 cells x:=[.int .u64 (x.n:Int)]
 rep_iff:=Iff.rfl
structure Bt where
  n:Nat
  lt:n<256
instance:Inhabited Bt:=⟨⟨0,by decide⟩⟩
instance:Rp Bt where
 sz:=1
 rep _ _ _ cs x:=cs=[.int .u8 (x.n:Int)]
 len h:=by subst h;rfl
 one h:=by subst h;simp[Value.oneCell']
 tr _ _ h:=h
instance:Fl Bt where
 cells x:=[.int .u8 (x.n:Int)]
 rep_iff:=Iff.rfl
end TL
namespace TL
open Go Go.Proofs Go.ChangeShapes Go.WideShapes Go.Joins Go.Deep
end TL
namespace TL
open Go
end TL
/-
  TlDij3: lengths of small whole weights: one way and another compared.
  By an AI agent.
-/
set_option linter.all false
namespace TL
variable{g g1 g2:bF}{ws w1 w2:List Nat}{s s1 s2:Int}{far f1 f2:List Nat}{by_ b1 b2:List Int}{rk r1 r2:Int->Nat}{C:Nat}
def di(h:Int):Int:=if h%2=0 then h+1 else h-1
theorem du{h:Int}(hh:hf g h):hf g (di h)/\di h/2=h/2/\au g (di h)=bA g h/\bA g (di h)=au g h:=by
 have h0:=hh.1
 have h1:=hh.2
 have e1:di h/2=h/2:=by unfold di;split<;>omega
 have e2:di h%2=1-h%2:=by unfold di;split<;>omega
 refine⟨⟨by unfold di;split<;>omega,by unfold di;split<;>omega⟩,e1,?_,?_⟩
 · unfold au bA;rw[e1,e2]
 · unfold au bA;rw[e1,e2,show 1-(1-h%2)=h%2 by omega]
end TL
namespace TL
end TL
/-
  TlBlk4: the walk that finds blocks, one way of a step at a time; the loop that looks for an edge on the stack.
  By an AI agent.
-/
set_option linter.all false
namespace TL
variable{g:bF}{R:Bs}{pl lo by_ nx:List Int}{fo:Int}{ed:List Int}{la:List Bool}{bl:List Int}{co:Int}{path:List Int}{u hh:Int}
theorem dH.via{s s':Bs}{path path':List Int}(hm:ba g)(h:dH g R s path)(hp:0<(path.length:Int))(hu:u=gI path ((path.length:Int)-1))(e:cK g s path u=(s',path')):dH g R s' path'/\bo g s' path'<bo g s path:=by
 have:=h.step hm (λk=>by rw[k] at hp;simp at hp) hu
 rw[e] at this;exact this
abbrev bs(pl lo by_ nx:List Int)(fo:Int)(ed:List Int)(la:List Bool)(bl:List Int)(co:Int):Bs:=⟨pl,lo,by_,nx,fo,ed,la,bl,co⟩
theorem dH.skip(hm:ba g)(h:dH g R (bs pl lo by_ nx fo ed la bl co) path)(hp:0<(path.length:Int))(hu:u=gI path ((path.length:Int)-1))(hn:¬gI nx u=((gI (aT g) u).length:Int))(eh:gI (gI (aT g) u) (gI nx u)=hh)(hl:gI la (hh/2)=true):
    dH g R (bs pl lo by_ (nx.set u.toNat (gI nx u+1)) fo ed la bl co) path/\bo g (bs pl lo by_ (nx.set u.toNat (gI nx u+1)) fo ed la bl co) path<bo g (bs pl lo by_ nx fo ed la bl co) path:=by
  refine h.via hm hp hu ?_
  unfold cK
  rw[if_neg hn]
  simp only[eh]
  unfold da
  rw[if_pos hl];rfl
theorem dH.loop(hm:ba g)(h:dH g R (bs pl lo by_ nx fo ed la bl co) path)(hp:0<(path.length:Int))(hu:u=gI path ((path.length:Int)-1))(hn:¬gI nx u=((gI (aT g) u).length:Int))(eh:gI (gI (aT g) u) (gI nx u)=hh)(hl:¬gI la (hh/2)=true)(hw:bA g hh=u):
    dH g R (d3 (bs pl lo by_ (nx.set u.toNat (gI nx u+1)) fo (ed++[hh/2]) (la.set (hh/2).toNat true) bl co) (hh/2)) path/\bo g (d3 (bs pl lo by_ (nx.set u.toNat (gI nx u+1)) fo (ed++[hh/2]) (la.set (hh/2).toNat true) bl co) (hh/2)) path<bo g (bs pl lo by_ nx fo ed la bl co) path:=by
  refine h.via hm hp hu ?_
  unfold cK
  rw[if_neg hn]
  simp only[eh]
  unfold da
  rw[if_neg hl,if_pos hw];rfl
theorem dH.new(hm:ba g)(h:dH g R (bs pl lo by_ nx fo ed la bl co) path)(hp:0<(path.length:Int))(hu:u=gI path ((path.length:Int)-1))(hn:¬gI nx u=((gI (aT g) u).length:Int))(eh:gI (gI (aT g) u) (gI nx u)=hh)(hl:¬gI la (hh/2)=true){w:Int}(ew:bA g hh=w)(hw:¬w=u)(hz:gI pl w=0):
    dH g R (bs (pl.set w.toNat (fo+1)) (lo.set w.toNat (fo+1)) (by_.set w.toNat hh) (nx.set u.toNat (gI nx u+1)) (fo+1) (ed++[hh/2]) (la.set (hh/2).toNat true) bl co) (path++[w])/\bo g (bs (pl.set w.toNat (fo+1)) (lo.set w.toNat (fo+1)) (by_.set w.toNat hh) (nx.set u.toNat (gI nx u+1)) (fo+1) (ed++[hh/2]) (la.set (hh/2).toNat true) bl co) (path++[w])<bo g (bs pl lo by_ nx fo ed la bl co) path:=by
  subst ew
  refine h.via hm hp hu ?_
  unfold cK
  rw[if_neg hn]
  simp only[eh]
  unfold da
  rw[if_neg hl,if_neg hw,if_pos hz];rfl
theorem dH.back(hm:ba g)(h:dH g R (bs pl lo by_ nx fo ed la bl co) path)(hp:0<(path.length:Int))(hu:u=gI path ((path.length:Int)-1))(hn:¬gI nx u=((gI (aT g) u).length:Int))(eh:gI (gI (aT g) u) (gI nx u)=hh)(hl:¬gI la (hh/2)=true){w:Int}(ew:bA g hh=w)(hw:¬w=u)(hz:¬gI pl w=0):
    dH g R (bs pl (lo.set u.toNat (min (gI lo u) (gI pl w))) by_ (nx.set u.toNat (gI nx u+1)) fo (ed++[hh/2]) (la.set (hh/2).toNat true) bl co) path/\bo g (bs pl (lo.set u.toNat (min (gI lo u) (gI pl w))) by_ (nx.set u.toNat (gI nx u+1)) fo (ed++[hh/2]) (la.set (hh/2).toNat true) bl co) path<bo g (bs pl lo by_ nx fo ed la bl co) path:=by
  subst ew
  refine h.via hm hp hu ?_
  unfold cK
  rw[if_neg hn]
  simp only[eh]
  unfold da
  rw[if_neg hl,if_neg hw,if_neg hz];rfl
theorem dH.off0(hm:ba g)(h:dH g R (bs pl lo by_ nx fo ed la bl co) path)(hp:0<(path.length:Int))(hu:u=gI path ((path.length:Int)-1))(hn:gI nx u=((gI (aT g) u).length:Int))(hb:gI by_ u<0):
    dH g R (bs pl lo by_ nx fo ed la bl co) path.dropLast/\bo g (bs pl lo by_ nx fo ed la bl co) path.dropLast<bo g (bs pl lo by_ nx fo ed la bl co) path:=by
  refine h.via hm hp hu ?_
  unfold cK
  rw[if_pos hn]
  unfold cU
  rw[if_pos hb]
theorem dH.off1(hm:ba g)(h:dH g R (bs pl lo by_ nx fo ed la bl co) path)(hp:0<(path.length:Int))(hu:u=gI path ((path.length:Int)-1))(hn:gI nx u=((gI (aT g) u).length:Int))(hb:¬gI by_ u<0){q:Int}(eq:au g (gI by_ u)=q){lo':List Int}(el:lo'=lo.set q.toNat (min (gI lo q) (gI lo u)))(hc:¬gI pl q<=gI lo' u):
    dH g R (bs pl lo' by_ nx fo ed la bl co) path.dropLast/\bo g (bs pl lo' by_ nx fo ed la bl co) path.dropLast<bo g (bs pl lo by_ nx fo ed la bl co) path:=by
  subst eq el
  refine h.via hm hp hu ?_
  unfold cK
  rw[if_pos hn]
  unfold cU
  rw[if_neg hb]
  simp only
  rw[if_neg hc]
theorem dH.off2(hm:ba g)(h:dH g R (bs pl lo by_ nx fo ed la bl co) path)(hp:0<(path.length:Int))(hu:u=gI path ((path.length:Int)-1))(hn:gI nx u=((gI (aT g) u).length:Int))(hb:¬gI by_ u<0){q:Int}(eq:au g (gI by_ u)=q){lo':List Int}(el:lo'=lo.set q.toNat (min (gI lo q) (gI lo u)))(hc:gI pl q<=gI lo' u):
    dH g R (d3 (bs pl lo' by_ nx fo ed la bl co) (gI by_ u/2)) path.dropLast/\bo g (d3 (bs pl lo' by_ nx fo ed la bl co) (gI by_ u/2)) path.dropLast<bo g (bs pl lo by_ nx fo ed la bl co) path:=by
  subst eq el
  refine h.via hm hp hu ?_
  unfold cK
  rw[if_pos hn]
  unfold cU
  rw[if_neg hb]
  simp only
  rw[if_pos hc]
theorem dH.loop1(hm:ba g)(h:dH g R (bs pl lo by_ nx fo ed la bl co) path)(hp:0<(path.length:Int))(hu:u=gI path ((path.length:Int)-1))(hn:¬gI nx u=((gI (aT g) u).length:Int))(eh:gI (gI (aT g) u) (gI nx u)=hh)(hl:¬gI la (hh/2)=true)(hw:bA g hh=u){s':Bs}(hc:d3 (bs pl lo by_ (nx.set u.toNat (gI nx u+1)) fo (ed++[hh/2]) (la.set (hh/2).toNat true) bl co) (hh/2)=s'):
   dH g R s' path/\bo g s' path<bo g (bs pl lo by_ nx fo ed la bl co) path:=by
 subst hc;exact h.loop hm hp hu hn eh hl hw
theorem dH.off3(hm:ba g)(h:dH g R (bs pl lo by_ nx fo ed la bl co) path)(hp:0<(path.length:Int))(hu:u=gI path ((path.length:Int)-1))(hn:gI nx u=((gI (aT g) u).length:Int))(hb:¬gI by_ u<0){q:Int}(eq:au g (gI by_ u)=q){lo':List Int}(el:lo'=lo.set q.toNat (min (gI lo q) (gI lo u)))(hc:gI pl q<=gI lo' u){s':Bs}(hcl:d3 (bs pl lo' by_ nx fo ed la bl co) (gI by_ u/2)=s'):
   dH g R s' path.dropLast/\bo g s' path.dropLast<bo g (bs pl lo by_ nx fo ed la bl co) path:=by
 subst hcl;exact h.off2 hm hp hu hn hb eq el hc
structure iS(ed:List Int)(x at_:Int):Prop where
  mem:x∈ed
  nd:ed.Nodup
  lo:0<=at_
  hi:at_<ed.length
  no:∀j:Int,at_<j->j<ed.length->gI ed j≠x
theorem iS.start{x:Int}(hn:ed.Nodup)(hx:x∈ed):iS ed x ((ed.length:Int)-1):=by
 have:0<ed.length:=List.length_pos_of_mem hx
 exact⟨hx,hn,by omega,by omega,λj a b=>by omega⟩
theorem iS.next{x at_:Int}(h:iS ed x at_)(hne:¬gI ed at_=x):iS ed x (at_-1)/\1<=at_:=by
 have h1:=h.lo
 have h2:=h.hi
 have hp:1<=at_:=by
   by_cases c:1<=at_
   · exact c
   · exfalso
     obtain⟨i,hi,e⟩:=List.mem_iff_getElem.1 h.mem
     have e2:gI ed (i:Int)=x:=by rw[<-e];simp[gI,hi]
     by_cases k:(i:Int)=at_
     · rw[k] at e2;exact hne e2
     · exact h.no i (by omega) (by omega) e2
 refine⟨⟨h.mem,h.nd,by omega,by omega,λj a b=>?_⟩,hp⟩
 by_cases k:j=at_
 · rw[k];exact hne
 · exact h.no j (by omega) b
theorem iS.done{x at_:Int}(h:iS ed x at_)(he:gI ed at_=x):at_=(jr ed x:Int):=by
 obtain⟨A,B,e1,hA,hB,e2⟩:=kJ h.nd h.mem
 have h1:=h.lo
 have h2:=h.hi
 rw[e2]
 have hl:ed.length=A.length+1+B.length:=by rw[e1];simp;omega
 have hA2:gI ed (A.length:Int)=x:=by rw[e1];simp[gI]
 rcases Int.lt_trichotomy at_ A.length with c|c|c
 · exact absurd hA2 (h.no _ c (by omega))
 · exact c
 · exfalso
   obtain⟨k,rfl⟩:∃k:Nat,at_=k:=⟨at_.toNat,by omega⟩
   have hk:k<ed.length:=by omega
   have e3:gI ed (k:Int)=ed[k]:=by simp[gI,hk]
   have:ed[k]∈B:=by
     have hk2:k-(A.length+1)<B.length:=by omega
     have e4:ed[k]=B[k-(A.length+1)]:=by
       have:ed[k]? =B[k-(A.length+1)]? :=by
         rw[e1,List.getElem?_append_right (by omega),List.getElem?_cons,if_neg (by omega)]
         congr 1
       rw[List.getElem?_eq_getElem hk,List.getElem?_eq_getElem hk2] at this
       exact Option.some.inj this
     rw[e4];exact List.getElem_mem hk2
   rw[e3] at he
   rw[he] at this
   exact hB this
end TL
namespace TL
open Go
theorem mX(n:Nat):n^^^1=if n%2=0 then n+1 else n-1:=by
 have h1:(n^^^1)%2=(n+1)%2:=by
   have:= @Nat.xor_mod_two_eq_one n 1
   by_cases c:(n^^^1)%2=1
   · have:=this.1 c;omega
   · have h3:¬¬(n%2=1↔1%2=1):=λk=>c (this.2 k)
     have h4:=Decidable.not_not.1 h3
     have:n%2=1:=h4.2 rfl
     omega
 have h2:(n^^^1)/2=n/2:=by rw[Nat.xor_div_two];simp
 split<;>omega
theorem fK{m:Int}(t:TypeId)(h0:0<=m)(h1:m<4611686018427387904):binOp .xor t (.int .i64 m) (.int .i64 1)=pure (.int .i64 (di m)):=by
 obtain⟨n,rfl⟩:=Int.eq_ofNat_of_zero_le h0
 have hn:n<4611686018427387904:=by omega
 have e:(BitVec.ofInt 64 (n:Int)^^^BitVec.ofInt 64 1).toNat=n^^^1:=by
   rw[BitVec.toNat_xor]
   have e1:(BitVec.ofInt 64 (n:Int)).toNat=n:=by
     rw[BitVec.toNat_ofInt];omega
   have e2:(BitVec.ofInt 64 (1:Int)).toNat=1:=by decide
   rw[e1,e2]
 have h3:(((n^^^1:Nat)):Int)=di (n:Int):=by
   rw[mX];unfold di
   split<;>split<;>omega
 show(pure (Value.int .i64 (IntKind.i64.wrap ((BitVec.ofInt 64 (n:Int)^^^BitVec.ofInt 64 1).toNat:Int))):Sem Value)=_
 rw[e,h3,fH]
 unfold di;unfold pf;split<;>omega
end TL
namespace TL
variable{g:bF}{s:Bs}{path:List Int}
theorem iL(h:dm g s path):0<=s.found/\s.found<=g.1/\0<=s.count/\s.count+(s.edges.length:Int)<=(g.2.length:Int):=by
  have h1:=h.fn
  have h2:=h.cl
  have h3:s.laid.count true<=s.laid.length:=List.count_le_length
  have h4:=h.l5
  exact⟨h.f0,by omega,h.ct,by omega⟩
theorem lz{l:List Int}{n q:Nat}(h:l=List.replicate q (-1)++List.replicate (n-q) 0)(hq:q<=n):l.length=n:=by
 rw[h];simp;omega
theorem jv{l:List Int}{n q:Nat}(h:l=List.replicate q (-1)++List.replicate (n-q) 0)(hq:q<n):l.set (Int.toNat (q:Int)) (-1)=List.replicate (q+1) (-1)++List.replicate (n-(q+1)) 0:=by
 rw[h,Int.toNat_natCast,List.set_append_right _ _ (by simp)]
 simp only[List.length_replicate,Nat.sub_self]
 rw[show n-q=(n-(q+1))+1 by omega,List.replicate_succ,List.set_cons_zero,List.replicate_succ',List.append_assoc]
 rfl
def kk(L bl:List Int)(co:Int)(k:Nat):List Int:=(L.take k).foldl (λb x=>b.set x.toNat co) bl
theorem kV{L bl:List Int}{co:Int}:bl=kk L bl co 0:=rfl
theorem i9{L bl b:List Int}{co:Int}{k:Nat}(h:b=kk L bl co k):b.length=bl.length:=by rw[h];unfold kk;exact ie _ _ _
theorem gi{L bl b:List Int}{co:Int}{k:Nat}(h:b=kk L bl co k)(hk:(k:Int)<L.length):b.set (gI L (k:Int)).toNat co=kk L bl co (k+1):=by
 have hk':k<L.length:=by omega
 unfold kk at*
 rw[List.take_succ_eq_append_getElem hk',List.foldl_append,<-h]
 have e:gI L (k:Int)=L[k]:=by simp[gI,hk']
 rw[e];rfl
theorem dP{pl lo by_ nx:List Int}{fo:Int}{ed:List Int}{la:List Bool}{bl:List Int}{co x at_:Int}{bk:List Int}{k:Nat}(ha:iS ed x at_)(he:gI ed at_=x)(hb:bk=kk (List.drop (Int.toNat at_) (List.take (Int.toNat (ed.length:Int)) ed)) bl co k)
   (hk:¬(k:Int)<((List.drop (Int.toNat at_) (List.take (Int.toNat (ed.length:Int)) ed)).length:Int))(hk2:(k:Int)<=((List.drop (Int.toNat at_) (List.take (Int.toNat (ed.length:Int)) ed)).length:Int)):
   d3 (bs pl lo by_ nx fo ed la bl co) x=bs pl lo by_ nx fo (ed.take (Int.toNat at_)) la bk (co+1):=by
 have e:=ha.done he
 have el:List.drop (Int.toNat at_) (List.take (Int.toNat (ed.length:Int)) ed)=ed.drop (jr ed x):=by
   rw[e,Int.toNat_natCast,Int.toNat_natCast,List.take_length]
 rw[el] at hb hk hk2
 have hk3:k=(ed.drop (jr ed x)).length:=by omega
 unfold d3
 rw[hb]
 unfold kk
 rw[hk3,List.take_length,e,Int.toNat_natCast]
theorem cO{path:List Int}:List.take (Int.toNat ((path.length:Int)-1)) path=path.dropLast:=by
 rw[List.dropLast_eq_take];congr 1;omega
theorem kY{s s':Bs}{v:Nat}(h:s=cq g v)(hp:gI s.place (v:Int)=0)(hR:s'=cZ g s (v:Int)):s'=cq g (v+1):=by
 rw[fB,<-h,if_pos hp];exact hR
theorem ny{s:Bs}{v:Nat}(h:s=cq g v)(hp:¬gI s.place (v:Int)=0):s=cq g (v+1):=by
 rw[fB,<-h,if_neg hp]
end TL
namespace TL
variable{g:bF}{of o:List Int}{c:List Bool}{k:Nat}
structure eX(of:List Int)(g:bF)(o:List Int)(c:List Bool)(k:Nat):Prop where
  eq:(o,c)=lT of g k
  lo:(o.length:Int)=g.1
  lc:(c.length:Int)=g.1
theorem lG{pl lo by_ nx:List Int}{fo:Int}{ed:List Int}{la:List Bool}{bl:List Int}{co:Int}{path:List Int}{O:List (List Int)}{u:Int}(h:dm g (bs pl lo by_ nx fo ed la bl co) path)(hO:O=aT g)(hp:0<(path.length:Int))(hu:gI path ((path.length:Int)-1)=u):
    ((0<=u/\u<g.1)/\(0<=gI nx u/\gI nx u<=((gI O u).length:Int)))/\(gI by_ u= -1\/(0<=gI by_ u/\gI by_ u<2*(g.2.length:Int))):=by
  have hm:=h.pr _ (bO (xs:=path) (i:=(path.length:Int)-1) (by omega) (by omega))
  rw[hu] at hm
  rw[hO]
  refine⟨⟨hm.1,h.nx _ hm.1.1 hm.1.2⟩,?_⟩
  rcases h.by_ _ hm.1.1 hm.1.2 with k|k
  · exact .inl k
  · exact .inr k.1
theorem kW{pl lo by_ nx:List Int}{fo:Int}{ed:List Int}{la:List Bool}{bl:List Int}{co:Int}{path:List Int}{O:List (List Int)}{u:Int}(hm:ba g)(h:dm g (bs pl lo by_ nx fo ed la bl co) path)(hO:O=aT g)(u0:0<=u)(u1:u<g.1)(hn:¬gI nx u=((gI O u).length:Int)):
   (0<=gI (gI O u) (gI nx u)/\gI (gI O u) (gI nx u)<2*(g.2.length:Int))/\(0<=bA g (gI (gI O u) (gI nx u))/\bA g (gI (gI O u) (gI nx u))<g.1):=by
 obtain⟨n0,n1⟩:=h.nx u u0 u1
 rw[hO] at hn ⊢
 have hin:gI (gI (aT g) u) (gI nx u)∈gI (aT g) u:=bO n0 (by
   have n1':gI nx u<=((gI (aT g) u).length:Int):=n1
   omega)
 rw[dM u0 u1] at hin
 have ho:=(eF hin).1
 rw[<-dM u0 u1] at ho
 exact⟨ho,eB hm ho.1 ho.2⟩
theorem eX.start(h0:0<=g.1):eX of g (List.replicate (Int.toNat g.1) 0) (List.replicate (Int.toNat g.1) false) 0:=⟨rfl,by simp;omega,by simp;omega⟩
theorem eX.next(h:eX of g o c k){v e b:Int}{bb:Bool}(hv:au g (k:Int)=v)(he:(k:Int)/2=e)(hb:b=gI of e+1)(hbb:bb=(gI c v||(decide (0<gI o v)&& !decide (gI o v=gI of e+1)))):eX of g (o.set (Int.toNat v) b) (c.set (Int.toNat v) bb) (k+1):=by
 subst hv he hb hbb
 refine⟨?_,by rw[List.length_set];exact h.lo,by rw[List.length_set];exact h.lc⟩
 unfold lT
 rw[db,List.foldl_append]
 show _=qt of g (lT of g k) (k:Int)
 rw[<-h.eq];rfl
theorem eX.two(h:eX of g o c (2*k)){v v2 b b2:Int}{bb bb2:Bool}(hv:(gI g.2 (k:Int)).1=v)(hv2:(gI g.2 (k:Int)).2=v2)(hb:b=gI of (k:Int)+1)(hbb:bb=(gI c v||(decide (0<gI o v)&& !decide (gI o v=gI of (k:Int)+1))))(hb2:b2=gI of (k:Int)+1)(hbb2:bb2=(gI (c.set (Int.toNat v) bb) v2||(decide (0<gI (o.set (Int.toNat v) b) v2)&& !decide (gI (o.set (Int.toNat v) b) v2=gI of (k:Int)+1)))):
   eX of g ((o.set (Int.toNat v) b).set (Int.toNat v2) b2) ((c.set (Int.toNat v) bb).set (Int.toNat v2) bb2) (2*(k+1)):=by
 have e1:((2*k:Nat):Int)/2=(k:Int):=by omega
 have e2:((2*k+1:Nat):Int)/2=(k:Int):=by omega
 have f1:au g ((2*k:Nat):Int)=v:=by
   rw[<-hv];unfold au;rw[e1,show((2*k:Nat):Int)%2=0 by omega];rfl
 have f2:au g ((2*k+1:Nat):Int)=v2:=by
   rw[<-hv2];unfold au;rw[e2,show((2*k+1:Nat):Int)%2=1 by omega];rfl
 exact(h.next f1 e1 hb hbb).next f2 e2 hb2 hbb2
theorem gU{x y:Bool}(h:x=true):true=(x||y):=by rw[h];rfl
theorem gM{x:Bool}{y:Int}{q:Prop}[Decidable q](h:¬x=true)(hp:¬0<y):false=(x||(decide (0<y)&& !decide q)):=by
 rw[decide_eq_false hp];simpa using h
theorem gO{x:Bool}{y:Int}{q:Prop}[Decidable q](h:¬x=true)(hp:0<y):(!decide q)=(x||(decide (0<y)&& !decide q)):=by
 have:x=false:=by simpa using h
 rw[this,decide_eq_true hp];simp
theorem jy{a:List Int}{l:List Bool}{k:Nat}(h:a=(cz k).filter λv=>gI l v):(a.length:Int)<=(k:Int):=by
 have h1:=List.length_filter_le (λv=>gI l v) (cz k)
 have h2:(cz k).length=k:=by simp[cz]
 rw[h];omega
theorem mR{a:List Int}{l:List Bool}{k:Nat}(h:a=(cz k).filter λv=>gI l v)(hk:gI l (k:Int)=true):a++[(k:Int)]=(cz (k+1)).filter λv=>gI l v:=by
 rw[h,db,List.filter_append];simp[hk]
theorem nT{a:List Int}{l:List Bool}{k:Nat}(h:a=(cz k).filter λv=>gI l v)(hk:¬gI l (k:Int)=true):a=(cz (k+1)).filter λv=>gI l v:=by
 rw[h,db,List.filter_append];simp[hk]
end TL
namespace TL
variable{g:bF}
theorem kT{pl lo by_ nx:List Int}{fo:Int}{ed:List Int}{la:List Bool}{bl:List Int}{co:Int}{path:List Int}(h0:0<=g.1)(h:dm g (bs pl lo by_ nx fo ed la bl co) path):(path.length:Int)<=g.1:=by
 have:=kR g.1.toNat path h.pn (λx hx=>by have:=(h.pr x hx).1;omega)
 omega
theorem pC{b:List Int}{q:Nat}(hb:b=List.replicate q (-1)++List.replicate (Int.toNat g.1-q) 0)(hq:(q:Int)=g.1):
   bs (List.replicate (Int.toNat g.1) 0) (List.replicate (Int.toNat g.1) 0) b (List.replicate (Int.toNat g.1) 0) 0 [] (List.replicate (Int.toNat (g.2.length:Int)) false) (List.replicate (Int.toNat (g.2.length:Int)) 0) 0=cq g 0:=by
 have e:q=Int.toNat g.1:=by omega
 subst e
 rw[hb,Nat.sub_self,List.replicate_zero,List.append_nil,Int.toNat_natCast];rfl
theorem fv(g:bF):0<=dd g/\dd g<=(g.2.length:Int):=by
 have:=(gh (cq g g.1.toNat).block g.2.length).2
 unfold dd;omega
theorem nk{b:List Int}(hb:b=(cq g (Int.toNat g.1)).block)(hl:(b.length:Int)=g.2.length):ax b b.length=(ax (cq g g.1.toNat).block g.2.length):=by
 have:b.length=g.2.length:=by omega
 rw[this,hb]
theorem dH.fin{R s:Bs}{path:List Int}(h:dH g R s path)(hp:¬0<(path.length:Int)):s=R:=by
 have e:path=[]:=List.eq_nil_of_length_eq_zero (by omega)
 subst e
 exact h.done
def a5(g:bF):List Int×List Int×Int:=(dD g,ln g,dd g)
theorem kM{b cu oo:List Int}{cc:List Bool}{j k:Nat}(hnam:ax b b.length=ax (cq g g.1.toNat).block g.2.length)(hcu:cu=(cz j).filter λv=>gI cc v)(hj:(j:Int)=(cc.length:Int))(hci:eX (dD g) g oo cc (2*k))(hk:(k:Int)=(g.2.length:Int)):
   ((ax b b.length).2,cu,((ax b b.length).1.length:Int))=a5 g:=by
 have e1:k=g.2.length:=by omega
 have e2:j=g.1.toNat:=by have:=hci.lc;omega
 have e3:cc=(lT (dD g) g (2*g.2.length)).2:=by rw[<-e1,<-hci.eq]
 rw[hnam,hcu,e2,e3];rfl
end TL
/-
  TlBfs: a walk breadth first tells the numbers of edges: it is as ways of weights 1.
  By an AI agent.
-/
set_option linter.all false
namespace TL
theorem nN{l:List Int}{i:Nat}(h:i<l.length):gI l (i:Int)=l[i]:=by simp[gI,h]
structure k6(g:bF)(s:Int)(st:Bf)(dh:Int->Prop)(c:Int):Prop where
 ok:gV g st
 s0:gI st.far s=0
 sb:gI st.by_ s= -1
 sm:s∈st.order
 tr:∀v∈st.order,v≠s->hf g (gI st.by_ v)/\bA g (gI st.by_ v)=v/\au g (gI st.by_ v)∈st.order/\gI st.far v=gI st.far (au g (gI st.by_ v))+1
 un:∀v,nd g v->v∉st.order->gI st.by_ v= -1
 mono:st.order.Pairwise λx y=>gI st.far x<=gI st.far y
 top:∀x∈st.order,gI st.far x<=c+1
 rx:∀h,dh h->hf g h/\au g h∈st.order/\bA g h∈st.order/\gI st.far (bA g h)<=gI st.far (au g h)+1
variable{g:bF}{s v c hh:Int}{st:Bf}{dh:Int->Prop}
theorem k6.start(hm:ba g)(hs:nd g s):k6 g s (de g s) (λ_=>False) 0:=by
 have hb:∀x,nd g x->gI (de g s).by_ x= -1:=λx hx=>oJ hx.1 (by have:=hx.2;omega)
 have hf0:gI (de g s).far s=0:=by
   show gI ((List.replicate g.1.toNat (-1)).set s.toNat 0) s=0
   rw[bM hs.1 (by simp;have:=hs.2;omega) hs.1,if_pos rfl]
 refine⟨gV.start hs.1 hs.2,hf0,hb s hs,List.mem_singleton.2 rfl,λv hv hn=>absurd (List.mem_singleton.1 hv) hn,λv hv _=>hb v hv,List.pairwise_singleton _ _,λx hx=>?_,λh k=>k.elim⟩
 rw[List.mem_singleton.1 hx,hf0];decide
theorem k6.one(hm:ba g)(h:k6 g s st dh c)(hv:v∈st.order)(hc:gI st.far v=c)(h0:hf g hh)(hf':au g hh=v):
   k6 g s (dz g v st hh) (λx=>dh x\/x=hh) c/\(∃t,(dz g v st hh).order=st.order++t)/\∀x∈st.order,gI (dz g v st hh).far x=gI st.far x:=by
 have ht:=eB hm h0.1 h0.2
 have hvr:=h.ok.rng v hv
 have hok:=h.ok.one (v:=v) (h:=hh) hv ht.1 ht.2
 by_cases c1:gI st.far (bA g hh)<0
 · have e:dz g v st hh=⟨st.order++[bA g hh],st.by_.set (bA g hh).toNat hh,st.far.set (bA g hh).toNat (gI st.far v+1)⟩:=by unfold dz;rw[if_pos c1]
   rw[e] at hok ⊢
   have hw:bA g hh∉st.order:=(h.ok.iff _ ht.1 ht.2).1 c1
   obtain⟨w,ew⟩:∃w,w=bA g hh:=⟨_,rfl⟩
   rw[<-ew] at hok hw ht ⊢
   have hlf:=h.ok.far
   have hlb:=h.ok.by_
   have gf:∀x,0<=x->gI (st.far.set w.toNat (gI st.far v+1)) x=if x=w then gI st.far v+1 else gI st.far x:=λx x0=>bM ht.1 (by have:=ht.2;omega) x0
   have gb:∀x,0<=x->gI (st.by_.set w.toNat hh) x=if x=w then hh else gI st.by_ x:=λx x0=>bM ht.1 (by have:=ht.2;omega) x0
   have keep:∀x∈st.order,gI (st.far.set w.toNat (gI st.far v+1)) x=gI st.far x:=λx hx=>by
     rw[gf x (h.ok.rng x hx).1,if_neg (λk=>hw (by rw[<-k];exact hx))]
   have hsr:=h.ok.rng s h.sm
   refine⟨⟨hok,?_,?_,List.mem_append_left _ h.sm,λx hx hn=>?_,λx hx hn=>?_,?_,λx hx=>?_,λy hy=>?_⟩,⟨_,rfl⟩,keep⟩
   · show gI (st.far.set w.toNat (gI st.far v+1)) s=0
     rw[keep s h.sm];exact h.s0
   · show gI (st.by_.set w.toNat hh) s= -1
     rw[gb s hsr.1,if_neg (λk=>hw (by rw[<-k];exact h.sm))];exact h.sb
   · show hf g (gI (st.by_.set w.toNat hh) x)/\bA g (gI (st.by_.set w.toNat hh) x)=x/\au g (gI (st.by_.set w.toNat hh) x)∈st.order++[w]/\gI (st.far.set w.toNat (gI st.far v+1)) x=gI (st.far.set w.toNat (gI st.far v+1)) (au g (gI (st.by_.set w.toNat hh) x))+1
     by_cases c2:x=w
     · rw[gb x (by rw[c2];exact ht.1),if_pos c2]
       refine⟨h0,by rw[c2,ew],by rw[hf'];exact List.mem_append_left _ hv,?_⟩
       rw[hf',keep v hv,gf x (by rw[c2];exact ht.1),if_pos c2]
     · have hx':x∈st.order:=(List.mem_append.1 hx).resolve_right (λk=>c2 (List.mem_singleton.1 k))
       rw[gb x (h.ok.rng x hx').1,if_neg c2]
       obtain⟨a1,a2,a3,a4⟩:=h.tr x hx' hn
       exact⟨a1,a2,List.mem_append_left _ a3,by rw[keep x hx',keep _ a3];exact a4⟩
   · show gI (st.by_.set w.toNat hh) x= -1
     have c2:¬x=w:=λk=>hn (List.mem_append_right _ (List.mem_singleton.2 k))
     rw[gb x hx.1,if_neg c2]
     exact h.un x hx (λk=>hn (List.mem_append_left _ k))
   · show(st.order++[w]).Pairwise λx y=>gI (st.far.set w.toNat (gI st.far v+1)) x<=gI (st.far.set w.toNat (gI st.far v+1)) y
     rw[List.pairwise_append]
     refine⟨h.mono.imp_of_mem (λ {x y} hx hy k=>by rw[keep x hx,keep y hy];exact k),List.pairwise_singleton _ _,λx hx y hy=>?_⟩
     rw[List.mem_singleton.1 hy,keep x hx,gf w ht.1,if_pos rfl,hc]
     exact h.top x hx
   · show gI (st.far.set w.toNat (gI st.far v+1)) x<=c+1
     rcases List.mem_append.1 hx with k|k
     · rw[keep x k];exact h.top x k
     · rw[List.mem_singleton.1 k,gf w ht.1,if_pos rfl,hc];exact Int.le_refl _
   · show hf g y/\au g y∈st.order++[w]/\bA g y∈st.order++[w]/\gI (st.far.set w.toNat (gI st.far v+1)) (bA g y)<=gI (st.far.set w.toNat (gI st.far v+1)) (au g y)+1
     rcases hy with hy|hy
     · obtain⟨a1,a2,a3,a4⟩:=h.rx y hy
       exact⟨a1,List.mem_append_left _ a2,List.mem_append_left _ a3,by rw[keep _ a2,keep _ a3];exact a4⟩
     · subst hy
       refine⟨h0,by rw[hf'];exact List.mem_append_left _ hv,by rw[<-ew];exact List.mem_append_right _ (List.mem_singleton.2 rfl),?_⟩
       rw[hf',keep v hv,<-ew,gf w ht.1,if_pos rfl];exact Int.le_refl _
 · have e:dz g v st hh=st:=by unfold dz;rw[if_neg c1]
   rw[e]
   refine⟨{h with rx:=λy hy=>?_},⟨[],by simp⟩,λ_ _=>rfl⟩
   rcases hy with hy|hy
   · exact h.rx y hy
   · subst hy
     have hto:bA g y∈st.order:=by
       by_cases k:bA g y∈st.order
       · exact k
       · exact absurd ((h.ok.iff _ ht.1 ht.2).2 k) c1
     refine⟨h0,by rw[hf'];exact hv,hto,?_⟩
     rw[hf',hc];exact h.top _ hto
theorem k6.row(hm:ba g):∀(hs:List Int) (st:Bf) (dh:Int->Prop),(∀x∈hs,hf g x/\au g x=v)->v∈st.order->gI st.far v=c->k6 g s st dh c->
   ∃dh',k6 g s (hs.foldl (dz g v) st) dh' c/\(∀x,dh x->dh' x)/\(∀x∈hs,dh' x)/\(∃t,(hs.foldl (dz g v) st).order=st.order++t)/\∀x∈st.order,gI (hs.foldl (dz g v) st).far x=gI st.far x
 |[],st,dh,_,_,_,h=>⟨dh,h,λ_ k=>k,λx hx=>absurd hx List.not_mem_nil,⟨[],by simp⟩,λ_ _=>rfl⟩
 |y::hs,st,dh,hx,hv,hc,h=>by
   obtain⟨a,⟨t,ht⟩,k⟩:=h.one hm hv hc (hx y (List.mem_cons_self ..)).1 (hx y (List.mem_cons_self ..)).2
   have hv':v∈(dz g v st y).order:=by rw[ht];exact List.mem_append_left _ hv
   obtain⟨dh',b1,b2,b3,⟨t',ht'⟩,b5⟩:=k6.row hm hs (dz g v st y) _ (λx k=>hx x (List.mem_cons_of_mem _ k)) hv' ((k v hv).trans hc) a
   refine⟨dh',b1,λx kx=>b2 x (.inl kx),λx kx=>?_,⟨t++t',by rw[List.foldl_cons,ht',ht,List.append_assoc]⟩,λx kx=>?_⟩
   · rcases List.mem_cons.1 kx with e|e
     · exact b2 x (.inr e)
     · exact b3 x e
   · rw[List.foldl_cons,b5 x (by rw[ht];exact List.mem_append_left _ kx)];exact k x kx
theorem jB{x:Int}(hx:hf g x):x∈e8 g (au g x):=by
 unfold e8 fO
 exact List.mem_filter.2 ⟨List.mem_map.2 ⟨x.toNat,List.mem_range.2 (by have:=hx.1;have:=hx.2;omega),Int.toNat_of_nonneg hx.1⟩,decide_eq_true rfl⟩
theorem pz(hm:ba g):∀(n i:Nat) (st:Bf) (dh:Int->Prop) (c:Int),k6 g s st dh c->(∀h,hf g h->au g h∈st.order.take i->dh h)->(i<st.order.length->c<=gI st.far (gI st.order (i:Int)))->g.1.toNat<=n+i->
   ∃dh' c',k6 g s (iZ g n i st) dh' c'/\∀h,hf g h->au g h∈(iZ g n i st).order->dh' h
 |0,i,st,dh,c,h,hd,hc,hn=>by
   refine⟨dh,c,h,λx hx k=>hd x hx ?_⟩
   have:=h.ok.len hm.1
   unfold iZ at k
   rw[List.take_of_length_le (by omega)];exact k
 |n+1,i,st,dh,c,h,hd,hc,hn=>by
   unfold iZ
   by_cases hi:i<st.order.length
   · rw[if_pos hi]
     have hvm:gI st.order (i:Int)∈st.order:=bO (by omega) (by omega)
     have hev:gI st.order (i:Int)=st.order[i]:=by simp[gI,hi]
     obtain⟨v,ev⟩:∃v,v=gI st.order (i:Int):=⟨_,rfl⟩
     have hc':=hc hi
     rw[<-ev] at hvm hc' hev ⊢
     have h':k6 g s st dh (gI st.far v):={h with top:=λx hx=>by have:=h.top x hx;omega}
     obtain⟨dh',b1,b2,b3,⟨t,ht⟩,b5⟩:=k6.row hm (e8 g v) st dh (λx hx=>⟨(eF hx).1,(eF hx).2⟩) hvm rfl h'
     change k6 g s (fh g v st) dh' (gI st.far v) at b1
     change (fh g v st).order=st.order++t at ht
     change∀x∈st.order,gI (fh g v st).far x=gI st.far x at b5
     have htk:(fh g v st).order.take (i+1)=st.order.take i++[v]:=by
       rw[ht,List.take_append_of_le_length (by omega),List.take_succ_eq_append_getElem hi,hev]
     refine pz hm n (i+1) (fh g v st) dh' (gI st.far v) b1 (λx hx k=>?_) (λhi2=>?_) (by omega)
     · rw[htk] at k
       rcases List.mem_append.1 k with k|k
       · exact b2 x (hd x hx k)
       · refine b3 x ?_
         rw[<-List.mem_singleton.1 k];exact jB hx
     · have hm2:=b1.mono
       rw[List.pairwise_iff_getElem] at hm2
       have hi3:i<(fh g v st).order.length:=by omega
       have:=hm2 i (i+1) hi3 hi2 (by omega)
       have e1:(fh g v st).order[i]=v:=by
         have:(fh g v st).order[i]=st.order[i]:=by simp only[ht,List.getElem_append_left hi]
         rw[this,hev]
       have e2:gI (fh g v st).order ((i+1:Nat):Int)=(fh g v st).order[i+1]:=nN hi2
       rw[e1,b5 v hvm] at this
       rw[e2];exact this
   · rw[if_neg hi]
     refine⟨dh,c,h,λx hx k=>hd x hx ?_⟩
     rw[List.take_of_length_le (by omega)];exact k
theorem ip(hm:ba g)(hs:nd g s):∃dh c,k6 g s (b7 g s) dh c/\∀h,hf g h->au g h∈(b7 g s).order->dh h:=by
 unfold b7
 refine pz hm g.1.toNat 0 (de g s) _ 0 (k6.start hm hs) (λh _ k=>by simp at k) (λ_=>?_) (by omega)
 have:gI (de g s).order ((0:Nat):Int)=s:=rfl
 rw[this,(k6.start hm hs).s0];exact Int.le_refl _
end TL
/-
  TlCls: what a walk depth first over blocks may rely on: which edges belong together, and what parts them.
  By an AI agent.
-/
set_option linter.all false
namespace TL
inductive Wy (g:bF) (A:Int->Prop):Int->Int->Prop
  |refl {x:Int}:A x->Wy g A x x
  |step {x:Int} {h:Int}:Wy g A x (au g h)->hf g h->A (bA g h)->Wy g A x (bA g h)
variable{g:bF}{A B:Int->Prop}{x y z:Int}
theorem Wy.right(h:Wy g A x y):A y:=by cases h<;>assumption
theorem Wy.left(h:Wy g A x y):A x:=by
 induction h with
 |refl h=>exact h
 |step _ _ _ ih=>exact ih
theorem Wy.mono(h:Wy g A x y)(hAB:∀z,A z->B z):Wy g B x y:=by
 induction h with
 |refl h=>exact .refl (hAB _ h)
 |step _ b c ih=>exact .step ih b (hAB _ c)
theorem Wy.trans(h:Wy g A x y)(k:Wy g A y z):Wy g A x z:=by
 induction k with
 |refl _=>exact h
 |step _ b c ih=>exact .step ih b c
theorem Wy.one{h:Int}(hh:hf g h)(a:A (au g h))(b:A (bA g h)):Wy g A (au g h) (bA g h):=.step (.refl a) hh b
theorem Wy.symm(h:Wy g A x y):Wy g A y x:=by
 induction h with
 |refl h=>exact .refl h
 |step p b c ih=>
   rename_i h'
   obtain⟨t1,_,t3,t4⟩:=du (g:=g) b
   have q:Wy g A (bA g h') (au g h'):=by
     have:=Wy.one (g:=g) (A:=A) t1 (by rw[t3];exact c) (by rw[t4];exact p.right)
     rwa[t3,t4] at this
   exact q.trans ih
def iH(g:bF)(e f:Int):Prop:=∃h k,hf g h/\hf g k/\h/2=e/\k/2=f/\au g h=au g k/\bA g h≠au g h/\bA g k≠au g k/\Wy g (λz=>z≠au g h) (bA g h) (bA g k)
inductive EqB (g:bF):Int->Int->Prop
 |refl (e:Int):EqB g e e
 |rel {e f:Int}:iH g e f->EqB g e f
 |symm {e f:Int}:EqB g e f->EqB g f e
 |trans {e f k:Int}:EqB g e f->EqB g f k->EqB g e k
def gX(g:bF)(la:List Bool)(ed:List Int)(e:Int):Prop:=(0<=e/\e<(g.2.length:Int))/\gI la e=true/\e∉ed
def ox(g:bF)(la:List Bool)(ed bl:List Int)(b:Int):Prop:=
  (∃e0,(gI g.2 e0).1=(gI g.2 e0).2/\∀e,gX g la ed e->gI bl e=b->e=e0)\/
  ∃(T:Int->Prop) (u:Int),¬T u/\(∀h,hf g h->T (au g h)->(T (bA g h)\/bA g h=u)/\gX g la ed (h/2)/\gI bl (h/2)<=b)/\
    (∀e,gX g la ed e->gI bl e=b->∃h,hf g h/\h/2=e/\T (au g h))/\∀e f,gX g la ed e->gX g la ed f->gI bl e=b->gI bl f=b->EqB g e f
abbrev Fm:=List (Int×List Int)
structure mC(g:bF)(pl lo by_:List Int)(la:List Bool)(path:List Int)(A:Fm)(v:Int)(S:List Int)(B:Fm):Prop where
  own:(A=[]/\S=[]/\gI by_ v= -1)\/(∃A' u U S',A=A'++[(u,U)]/\S=gI by_ v/2::S'/\au g (gI by_ v)=u/\0<=gI by_ v)
  asc:∀p∈A,gI pl p.1<gI pl v
  eqb:∀e∈S,EqB g e (gI by_ v/2)
  end_:∀e∈S,∃h,hf g h/\h/2=e/\gI pl v<=gI pl (au g h)
  low:∀p∈A,∀e∈p.2,∀h,hf g h->h/2=e->gI pl (au g h)<gI pl v
  cross:∀h,hf g h->gI pl (au g h)≠0->au g h∉path->gI pl (au g h)<gI pl v->gI pl (bA g h)<gI pl v
  conn:∀x,0<=x->x<g.1->gI pl v<=gI pl x->Wy g (λz=>(0<=z/\z<g.1)/\gI pl v<=gI pl z) v x
  l1:∀h,hf g h->gI la (h/2)=true->gI pl v<=gI pl (au g h)->gI pl (bA g h)<gI pl v->h/2≠gI by_ v/2->∃w∈v::B.map Prod.fst,gI lo w<=gI pl (bA g h)
  l2:gI lo v<=gI pl v
  l3:gI lo v<gI pl v->∃h,hf g h/\gI la (h/2)=true/\gI pl v<=gI pl (au g h)/\gI pl (bA g h)=gI lo v
structure eD(g:bF)(s:Bs)(fr:Fm):Prop where
 se:dm g s (fr.map Prod.fst)
 stk:s.edges=(fr.map Prod.snd).flatten
 inj:∀x y,0<=x->x<g.1->0<=y->y<g.1->gI s.place x≠0->gI s.place x=gI s.place y->x=y
 lof:∀h,hf g h->gI s.laid (h/2)=true->gI s.place (au g h)≠0
 fra:∀A v S B,fr=A++(v,S)::B->mC g s.place s.low s.by_ s.laid (fr.map Prod.fst) A v S B
 clr:∀e,gX g s.laid s.edges e->0<=gI s.block e/\gI s.block e<s.count
 clb:∀b,0<=b->b<s.count->ox g s.laid s.edges s.block b
theorem ox.congr{la la':List Bool}{ed ed' bl bl':List Int}{b:Int}(h:ox g la ed bl b)(hc:∀e,gX g la' ed' e->gI bl' e=b->gX g la ed e/\gI bl e=b)(hc':∀e,gX g la ed e->gX g la' ed' e/\gI bl' e=gI bl e):ox g la' ed' bl' b:=by
 rcases h with⟨e0,h1,h2⟩|⟨T,u,h1,h2,h3,h4⟩
 · exact .inl ⟨e0,h1,λe a c=>h2 e (hc e a c).1 (hc e a c).2⟩
 · refine .inr ⟨T,u,h1,λh hh ht=>?_,λe a c=>h3 e (hc e a c).1 (hc e a c).2,λe f a c d k=>h4 e f (hc e a d).1 (hc f c k).1 (hc e a d).2 (hc f c k).2⟩
   obtain⟨a,c,d⟩:=h2 h hh ht
   exact⟨a,(hc' _ c).1,by rw[(hc' _ c).2];exact d⟩
theorem d6{la:List Bool}{e x:Int}{c:Bool}(e0:0<=e)(e1:e<(la.length:Int))(x0:0<=x):gI (la.set e.toNat c) x=if x=e then c else gI la x:=bM e0 e1 x0
theorem gj{la:List Bool}{ed:List Int}{e x:Int}(e0:0<=e)(e1:e<(la.length:Int))(hl:¬gI la e=true):gX g (la.set e.toNat true) (ed++[e]) x↔gX g la ed x:=by
 unfold gX
 constructor
 · rintro⟨a,b,c⟩
   have hne:x≠e:=λk=>c (by rw[k];simp)
   rw[d6 e0 e1 a.1,if_neg hne] at b
   exact⟨a,b,λk=>c (List.mem_append_left _ k)⟩
 · rintro⟨a,b,c⟩
   have hne:x≠e:=λk=>hl (by rw[<-k];exact b)
   refine⟨a,by rw[d6 e0 e1 a.1,if_neg hne];exact b,λk=>?_⟩
   rcases List.mem_append.1 k with k|k
   · exact c k
   · exact hne (List.mem_singleton.1 k)
theorem lp(c:Int):∀(P bl:List Int) (x:Int),0<=x->x<(bl.length:Int)->(∀e∈P,0<=e/\e<(bl.length:Int))->gI (P.foldl (λb e=>b.set e.toNat c) bl) x=if x∈P then c else gI bl x
 |[],bl,x,_,_,_=>by simp
 |e::P,bl,x,h0,h1,hP=>by
   have he:=hP e (List.mem_cons_self ..)
   rw[List.foldl_cons,lp c P (bl.set e.toNat c) x h0 (by rw[List.length_set];exact h1) (λy hy=>by rw[List.length_set];exact hP y (List.mem_cons_of_mem _ hy)),bM he.1 he.2 h0]
   by_cases k1:x∈P
   · rw[if_pos k1,if_pos (List.mem_cons_of_mem _ k1)]
   · rw[if_neg k1]
     by_cases k2:x=e
     · rw[if_pos k2,if_pos (by rw[k2];exact List.mem_cons_self ..)]
     · rw[if_neg k2,if_neg (λk=>(List.mem_cons.1 k).elim k2 k1)]
theorem kg{s:Bs}{pre rest:List Int}{e:Int}(he:s.edges=pre++e::rest)(hn:s.edges.Nodup):d3 s e={s with block:=(e::rest).foldl (λb x=>b.set x.toNat s.count) s.block,edges:=pre,count:=s.count+1}:=by
  have hr:e∉rest:=by
    rw[he,List.nodup_append] at hn
    exact(List.nodup_cons.1 hn.2.1).1
  have ha:jr s.edges e=pre.length:=by rw[he];exact kC hr
  unfold d3
  rw[ha,he]
  simp
structure iV(g:bF)(s:Bs)(path:List Int):Prop where
  use:∀x,0<=x->x<g.1->∀j:Int,0<=j->j<gI s.next x->gI s.laid (gI (gI (aT g) x) j/2)=true
  exh:∀x,0<=x->x<g.1->gI s.place x≠0->x∉path->gI s.next x=((gI (aT g) x).length:Int)
theorem cP(hm:ba g){h:Int}(hh:hf g h):0<=au g h/\au g h<g.1:=by
 obtain⟨t1,_,t3,t4⟩:=du (g:=g) hh
 have:=eB hm t1.1 t1.2
 rwa[t4] at this
theorem fb(hm:ba g){h:Int}(hh:hf g h):0<=bA g h/\bA g h<g.1:=eB hm hh.1 hh.2
theorem iV.all{s:Bs}{path:List Int}(hm:ba g)(h:iV g s path){k:Int}(hk:hf g k)(h1:gI s.place (au g k)≠0)(h2:au g k∉path):gI s.laid (k/2)=true:=by
  obtain⟨f0,f1⟩:=cP hm hk
  have he:=h.exh _ f0 f1 h1 h2
  have hin:k∈gI (aT g) (au g k):=by
    rw[dM f0 f1]
    exact jB hk
  obtain⟨i,hi,e⟩:=List.mem_iff_getElem.1 hin
  have:=h.use _ f0 f1 (i:Int) (by omega) (by rw[he];omega)
  have e2:∀(L:List Int) (hL:i<L.length),gI L (i:Int)=L[i]:=λL hL=>by simp[gI,hL]
  rw[e2 _ hi,e] at this
  exact this
end TL
/-
  TlCls2: the steps of the walk keep what it relies on.
  By an AI agent.
-/
set_option linter.all false
namespace TL
variable{g:bF}{s:Bs}{fr:Fm}{path:List Int}{A B:Fm}{S:List Int}{v e b:Int}{pl lo by_:List Int}{la:List Bool}{ed bl:List Int}
theorem fk{h k:Int}(h0:0<=h)(k0:0<=k)(e:h/2=k/2):h=k\/h=di k:=by
 unfold di
 split<;>omega
theorem i5{pre P:List Int}{x:Int}(he:ed=pre++P)(hn:ed.Nodup)(hP:∀x∈ed,(0<=x/\x<(g.2.length:Int))/\gI la x=true):gX g la pre x↔gX g la ed x\/x∈P:=by
 subst he
 unfold gX
 constructor
 · rintro⟨a,c,d⟩
   by_cases k:x∈P
   · exact .inr k
   · exact .inl ⟨a,c,λj=>(List.mem_append.1 j).elim d k⟩
 · rintro(⟨a,c,d⟩|k)
   · exact⟨a,c,λj=>d (List.mem_append_left _ j)⟩
   · obtain⟨a,c⟩:=hP x (List.mem_append_right _ k)
     exact⟨a,c,λj=>(List.nodup_append.1 hn).2.2 x j x k rfl⟩
theorem mL{pre P:List Int}{c:Int}(he:ed=pre++P)(hn:ed.Nodup)(hP:∀x∈ed,(0<=x/\x<(g.2.length:Int))/\gI la x=true)(hbl:(bl.length:Int)=(g.2.length:Int))(hc:0<=c)
    (hr:∀e,gX g la ed e->0<=gI bl e/\gI bl e<c)(hb:∀b,0<=b->b<c->ox g la ed bl b)(hnew:(∀x,gX g la pre x->gI (P.foldl (λb e=>b.set e.toNat c) bl) x=c->x∈P)->(∀x,gX g la pre x->gI (P.foldl (λb e=>b.set e.toNat c) bl) x<=c)->ox g la pre (P.foldl (λb e=>b.set e.toNat c) bl) c):
    (∀e,gX g la pre e->0<=gI (P.foldl (λb e=>b.set e.toNat c) bl) e/\gI (P.foldl (λb e=>b.set e.toNat c) bl) e<c+1)/\∀b,0<=b->b<c+1->ox g la pre (P.foldl (λb e=>b.set e.toNat c) bl) b:=by
  have hg:∀x,0<=x->x<(g.2.length:Int)->gI (P.foldl (λb e=>b.set e.toNat c) bl) x=if x∈P then c else gI bl x:=λx a d=>lp c P bl x a (by omega) (λy hy=>by have:=(hP y (by rw[he];exact List.mem_append_right _ hy)).1;omega)
  have hnP:∀x,gX g la ed x->x∉P:=λx hx k=>hx.2.2 (by rw[he];exact List.mem_append_right _ k)
  have h1:∀e,gX g la pre e->0<=gI (P.foldl (λb e=>b.set e.toNat c) bl) e/\gI (P.foldl (λb e=>b.set e.toNat c) bl) e<c+1:=λe hx=>by
    rw[hg e hx.1.1 hx.1.2]
    rcases(i5 he hn hP).1 hx with k|k
    · rw[if_neg (hnP e k)];have:=hr e k;omega
    · rw[if_pos k];omega
  refine⟨h1,λb b0 b1=>?_⟩
  by_cases k:b=c
  · rw[k]
    refine hnew (λx hx hxc=>?_) (λx hx=>by have:=h1 x hx;omega)
    rcases(i5 he hn hP).1 hx with j|j
    · rw[hg x hx.1.1 hx.1.2,if_neg (hnP x j)] at hxc
      have:=hr x j;omega
    · exact j
  · refine(hb b b0 (by omega)).congr (λx hx hxb=>?_) (λx hx=>⟨(i5 he hn hP).2 (.inl hx),by rw[hg x hx.1.1 hx.1.2,if_neg (hnP x hx)]⟩)
    rw[hg x hx.1.1 hx.1.2] at hxb
    by_cases j:x∈P
    · rw[if_pos j] at hxb;exact absurd hxb.symm k
    · rw[if_neg j] at hxb
      exact⟨((i5 he hn hP).1 hx).resolve_right j,hxb⟩
theorem kG(e0:0<=e)(e1:e<(la.length:Int))(hl:¬gI la e=true)(h:ox g la ed bl b):ox g (la.set e.toNat true) (ed++[e]) bl b:=
  h.congr (λx hx hb=>⟨(gj e0 e1 hl).1 hx,hb⟩) (λx hx=>⟨(gj e0 e1 hl).2 hx,rfl⟩)
theorem mC.lay(h:mC g pl lo by_ la path A v S B)(e0:0<=e)(e1:e<(la.length:Int))(hm2:∀x:Int,hf g x->0<=x/2)(hw:∀h,hf g h->h/2=e->gI pl v<=gI pl (au g h)->gI pl (bA g h)<gI pl v->h/2≠gI by_ v/2->∃w∈v::B.map Prod.fst,gI lo w<=gI pl (bA g h)):mC g pl lo by_ (la.set e.toNat true) path A v S B:=
  {h with
    l1:=λk hk hl a c d=>by
      by_cases q:k/2=e
      · exact hw k hk q a c d
      · rw[d6 e0 e1 (hm2 k hk),if_neg q] at hl
        exact h.l1 k hk hl a c d
    l3:=λk=>by
      obtain⟨x,a,c,d⟩:=h.l3 k
      refine⟨x,a,?_,d⟩
      rw[d6 e0 e1 (hm2 x a)]
      split
      · rfl
      · exact c}
theorem j5{x:Int}(h:hf g x):0<=x/2:=by have:=h.1;omega
theorem hU{x:Int}(h:hf g x):x/2<(g.2.length:Int):=by have:=h.2;omega
theorem ow(hf0:∀A v S B,fr=A++(v,S)::B->(A=[]/\S=[]/\gI by_ v= -1)\/(∃A' u U S',A=A'++[(u,U)]/\S=gI by_ v/2::S'/\au g (gI by_ v)=u/\0<=gI by_ v))(hto:∀p∈fr,0<=gI by_ p.1->hf g (gI by_ p.1)/\bA g (gI by_ p.1)=p.1):
    ∀(n:Nat) (A B:Fm),A.length=n->fr=A++B->∀x∈A.map Prod.fst,∀y∈A.map Prod.fst,Wy g (λz=>z∈A.map Prod.fst) x y:=by
  intro n
  induction n with
  |zero=>
    intro A B hl _ x hx
    rw[List.length_eq_zero_iff.1 hl] at hx;exact absurd hx List.not_mem_nil
  |succ n ih=>
    intro A B hl he x hx y hy
    obtain⟨A',p,rfl⟩:∃A' p,A=A'++[p]:=⟨A.dropLast,A.getLast (by intro k;rw[k] at hl;simp at hl),(List.dropLast_concat_getLast _).symm⟩
    have hl':A'.length=n:=by simpa using hl
    have he':fr=A'++p::B:=by rw[he];simp
    have ih':=ih A' (p::B) hl' he'
    have key:∀x∈(A'++[p]).map Prod.fst,Wy g (λz=>z∈(A'++[p]).map Prod.fst) x p.1:=by
      intro x hx
      have hp:p.1∈(A'++[p]).map Prod.fst:=by simp
      rw[List.map_append,List.mem_append] at hx
      rcases hx with hx|hx
      · rcases hf0 A' p.1 p.2 B he' with⟨q,_⟩|⟨A2,u,U,S',q1,_,q3,q4⟩
        · rw[q] at hx;exact absurd hx List.not_mem_nil
        · have hu:u∈A'.map Prod.fst:=by rw[q1];simp
          have hh:=hto p (by rw[he'];simp) q4
          have w1:=(ih' x hx u hu).mono (B:=λz=>z∈(A'++[p]).map Prod.fst) (λz hz=>by rw[List.map_append];exact List.mem_append_left _ hz)
          have w2:Wy g (λz=>z∈(A'++[p]).map Prod.fst) u p.1:=by
            have:=Wy.one (g:=g) (A:=λz=>z∈(A'++[p]).map Prod.fst) hh.1 (by rw[q3,List.map_append];exact List.mem_append_left _ hu) (by rw[hh.2];exact hp)
            rwa[q3,hh.2] at this
          exact w1.trans w2
      · have:x=p.1:=by simpa using hx
        rw[this];exact .refl hp
    exact(key x hx).trans (key y hy).symm
end TL
/-
  TlCls3: each step of the walk keeps what it relies on: a loop, an edge back.
  By an AI agent.
-/
set_option linter.all false
namespace TL
variable{g:bF}{s:Bs}{fr:Fm}{path:List Int}{A B A0:Fm}{S U:List Int}{u v w e b h:Int}{pl lo by_:List Int}{la:List Bool}{ed bl:List Int}
theorem eD.mem(hd:eD g s fr){p:Int×List Int}(hp:p∈fr):(0<=p.1/\p.1<g.1)/\gI s.place p.1≠0:=hd.se.pr _ (List.mem_map.2 ⟨p,hp,rfl⟩)
theorem eD.to(hd:eD g s fr):∀p∈fr,0<=gI s.by_ p.1->hf g (gI s.by_ p.1)/\bA g (gI s.by_ p.1)=p.1:=λp hp h0=>by
 have h1:=(hd.mem hp).1
 rcases hd.se.by_ p.1 h1.1 h1.2 with k|⟨k,j,_⟩
 · omega
 · exact⟨k,j⟩
theorem eD.wy(hd:eD g s fr){A B:Fm}(he:fr=A++B):∀x∈A.map Prod.fst,∀y∈A.map Prod.fst,Wy g (λz=>z∈A.map Prod.fst) x y:=
 ow (λA v S B k=>(hd.fra A v S B k).own) hd.to A.length A B rfl he
theorem eD.el(hd:eD g s fr):∀p∈fr,∀e∈p.2,(0<=e/\e<(g.2.length:Int))/\gI s.laid e=true:=λp hp e he=>hd.se.el e (by
 rw[hd.stk];exact List.mem_flatten.2 ⟨p.2,List.mem_map.2 ⟨p,hp,rfl⟩,he⟩)
theorem eD.lot(hd:eD g s fr){k:Int}(hk:hf g k)(hl:gI s.laid (k/2)=true):gI s.place (bA g k)≠0:=by
  obtain⟨t1,t2,t3,t4⟩:=du (g:=g) hk
  have:=hd.lof _ t1 (by rw[t2];exact hl)
  rwa[t3] at this
theorem iw{x y:Int}(h:gI pl x<gI pl y):x≠y:=λe=>by rw[e] at h;omega
theorem ej{X A:List (Int×List Int)}{a x:Int×List Int}{B:List (Int×List Int)}(h:X++[a]=A++x::B):(A=X/\x=a/\B=[])\/∃B0,X=A++x::B0/\B=B0++[a]:=by
 rcases List.eq_nil_or_concat B with k|⟨B0,y,k⟩
 · subst k
   have:=List.append_inj' h rfl
   exact .inl ⟨this.1.symm,by simpa using this.2.symm,rfl⟩
 · rw[List.concat_eq_append] at k
   subst k
   have h2:X++[a]=(A++x::B0)++[y]:=by rw[h];simp
   have:=List.append_inj' h2 rfl
   exact .inr ⟨B0,this.1,by rw[show a=y by simpa using this.2]⟩
theorem eD.nexts(hd:eD g s fr)(u0:0<=u)(u1:u<g.1)(hn:¬gI s.next u=((gI (aT g) u).length:Int)):eD g {s with next:=s.next.set u.toNat (gI s.next u+1)} fr:=
 ⟨hd.se.nexts u0 u1 hn,hd.stk,hd.inj,hd.lof,hd.fra,hd.clr,hd.clb⟩
theorem eD.loop(hm:ba g)(hd:eD g s fr)(hh:hf g h)(hl:¬gI s.laid (h/2)=true)(hv:gI s.place (au g h)≠0)(hw:bA g h=au g h)(hse:dm g (d3 (fc s (h/2)) (h/2)) (fr.map Prod.fst)):eD g (d3 (fc s (h/2)) (h/2)) fr:=by
  have e0:=j5 hh
  have e1:=hU hh
  have hl5:=hd.se.l5
  obtain⟨hlay,hne⟩:=hd.se.lay e0 e1 hl
  have hen:(s.edges++[h/2]).Nodup:=hlay.en
  have hel:∀x∈s.edges++[h/2],(0<=x/\x<(g.2.length:Int))/\gI (s.laid.set (h/2).toNat true) x=true:=hlay.el
  rw[kg (s:=fc s (h/2)) (pre:=s.edges) (rest:=[]) (e:=h/2) rfl hen] at hse ⊢
  have hends:∀k,hf g k->k/2=h/2->au g k=au g h/\bA g k=au g h:=λk hk he=>by
    rcases fk hk.1 hh.1 he with q|q
    · rw[q];exact⟨rfl,hw⟩
    · obtain⟨_,_,t3,t4⟩:=du (g:=g) hh
      rw[q,t3,t4];exact⟨hw,rfl⟩
  have hcl:=mL (g:=g) (la:=s.laid.set (h/2).toNat true) (ed:=s.edges++[h/2]) (bl:=s.block) (pre:=s.edges) (P:=[h/2]) (c:=s.count) rfl hen hel hd.se.l6 hd.se.ct
    (λx hx=>hd.clr x ((gj e0 (by omega) hl).1 hx)) (λb b0 b1=>kG e0 (by omega) hl (hd.clb b b0 b1)) (λhin _=>.inl ⟨h/2,by
      have hf1:(gI g.2 (h/2)).1=(gI g.2 (h/2)).2:=by
        have h1:=hw
        unfold bA au at h1
        have h2:h%2=0\/h%2=1:=by omega
        rcases h2 with q|q
        · rw[q] at h1;exact h1.symm
        · rw[q] at h1;exact h1
      exact hf1,λx hx hb=>List.mem_singleton.1 (hin x hx hb)⟩)
  refine⟨hse,hd.stk,hd.inj,λk hk hlk=>?_,λA v S B he=>(hd.fra A v S B he).lay e0 (by omega) (λ_=>j5) (λk hk hke a c _=>?_),hcl.1,hcl.2⟩
  · have hlk:gI (s.laid.set (h/2).toNat true) (k/2)=true:=hlk
    show gI s.place (au g k)≠0
    by_cases q:k/2=h/2
    · rw[(hends k hk q).1];exact hv
    · rw[d6 e0 (by omega) (j5 hk),if_neg q] at hlk
      exact hd.lof k hk hlk
  · obtain⟨p,q⟩:=hends k hk hke
    rw[p] at a;rw[q] at c
    exfalso
    have a:gI s.place v<=gI s.place (au g h):=a
    have c:gI s.place (au g h)<gI s.place v:=c
    omega
theorem eD.back(hm:ba g)(hd:eD g s (A0++[(v,S)]))(hall:∀k,hf g k->gI s.place (au g k)≠0->au g k∉(A0++[(v,S)]).map Prod.fst->gI s.laid (k/2)=true)(hh:hf g h)(hv:au g h=v)(hl:¬gI s.laid (h/2)=true)(hne:bA g h≠v)(hw:gI s.place (bA g h)≠0)
    (hse:dm g {fc s (h/2) with low:=s.low.set v.toNat (min (gI s.low v) (gI s.place (bA g h)))} ((A0++[(v,S++[h/2])]).map Prod.fst)):
    eD g {fc s (h/2) with low:=s.low.set v.toNat (min (gI s.low v) (gI s.place (bA g h)))} (A0++[(v,S++[h/2])]):=by
  have e0:=j5 hh
  have e1:=hU hh
  have hl5:=hd.se.l5
  have hl2:=hd.se.l2
  have hvm:=hd.mem (p:=(v,S)) (by simp)
  have hlast:=hd.fra A0 v S [] rfl
  obtain⟨t1,t2,t3,t4⟩:=du (g:=g) hh
  -- the other end is on the path, ahead
  have hwp:bA g h∈A0.map Prod.fst:=by
    by_cases c:bA g h∈(A0++[(v,S)]).map Prod.fst
    · rw[List.map_append,List.mem_append] at c
      exact c.resolve_right (λk=>hne (by simpa using k))
    · exfalso
      have:=hall _ t1 (by rw[t3];exact hw) (by rw[t3];exact c)
      rw[t2] at this;exact hl this
  have hpw:gI s.place (bA g h)<gI s.place v:=by
    obtain⟨p,hp,e⟩:=List.mem_map.1 hwp
    rw[<-e];exact hlast.asc p hp
  have hlo:∀x,0<=x->gI (s.low.set v.toNat (min (gI s.low v) (gI s.place (bA g h)))) x=if x=v then min (gI s.low v) (gI s.place (bA g h)) else gI s.low x:=λx a=>bM hvm.1.1 (by omega) a
  have hlv:gI (s.low.set v.toNat (min (gI s.low v) (gI s.place (bA g h)))) v=min (gI s.low v) (gI s.place (bA g h)):=by rw[hlo v hvm.1.1,if_pos rfl]
  have hle:∀x,0<=x->gI (s.low.set v.toNat (min (gI s.low v) (gI s.place (bA g h)))) x<=gI s.low x:=λx a=>by
    rw[hlo x a];split
    · rename_i k;rw[k];omega
    · omega
  have hends:∀k,hf g k->k/2=h/2->(au g k=v/\bA g k=bA g h)\/(au g k=bA g h/\bA g k=v):=λk hk he=>by
    rcases fk hk.1 hh.1 he with q|q
    · rw[q];exact .inl ⟨hv,rfl⟩
    · rw[q,t3,t4];exact .inr ⟨rfl,hv⟩
  have hmap:(A0++[(v,S++[h/2])]).map Prod.fst=(A0++[(v,S)]).map Prod.fst:=by simp
  -- the edge belongs to the edge by which v was found
  have hrel:∃A' q Q S',A0=A'++[(q,Q)]/\S=gI s.by_ v/2::S'/\au g (gI s.by_ v)=q/\0<=gI s.by_ v:=by
    rcases hlast.own with⟨k,_⟩|k
    · rw[k] at hwp;exact absurd hwp List.not_mem_nil
    · exact k
  obtain⟨A',q,Q,S',ha1,ha2,ha3,ha4⟩:=hrel
  have hbv:=hd.to (v,S) (by simp) ha4
  have hvA:v∉A0.map Prod.fst:=λk=>by
    obtain⟨p,hp,e⟩:=List.mem_map.1 k
    have:=hlast.asc p hp
    rw[e] at this;omega
  have hqA:q∈A0.map Prod.fst:=by rw[ha1];simp
  have heq:EqB g (h/2) (gI s.by_ v/2):=by
    obtain⟨b1,b2,b3,b4⟩:=du (g:=g) hbv.1
    refine .rel ⟨h,di (gI s.by_ v),hh,b1,rfl,b2,?_,?_,?_,?_⟩
    · rw[b3,hbv.2,hv]
    · rw[hv];exact hne
    · rw[b4,b3,hbv.2,ha3];exact λk=>hvA (by have k:q=v:=k;rw[<-k];exact hqA)
    · rw[b4,ha3,hv]
      exact(hd.wy (A:=A0) (B:=[(v,S)]) rfl _ hwp _ hqA).mono (λz hz k=>hvA (by rw[<-k];exact hz))
  have hclo:∀x,gX g (s.laid.set (h/2).toNat true) (s.edges++[h/2]) x↔gX g s.laid s.edges x:=λx=>gj e0 (by omega) hl
  refine⟨hse,?_,hd.inj,λk hk hlk=>?_,λA x Sx B he=>?_,λx hx=>hd.clr x ((hclo x).1 hx),λb b0 b1=>kG e0 (by omega) hl (hd.clb b b0 b1)⟩
  · show s.edges++[h/2]=_
    rw[hd.stk];simp
  · have hlk:gI (s.laid.set (h/2).toNat true) (k/2)=true:=hlk
    show gI s.place (au g k)≠0
    by_cases c:k/2=h/2
    · rcases hends k hk c with⟨r,_⟩|⟨r,_⟩
      · rw[r];exact hvm.2
      · rw[r];exact hw
    · rw[d6 e0 (by omega) (j5 hk),if_neg c] at hlk
      exact hd.lof k hk hlk
  · rw[hmap]
    rcases ej he with⟨k1,k2,k3⟩|⟨B0,k1,k2⟩
    · -- the last one
      obtain⟨rfl,rfl⟩:x=v/\Sx=S++[h/2]:=by simpa using k2
      subst k1 k3
      refine {hlast with own:=.inr ⟨A',q,Q,S'++[h/2],ha1,by rw[ha2];rfl,ha3,ha4⟩,eqb:=λy hy=>?_,end_:=λy hy=>?_,l1:=λk hk hlk a c d=>?_,l2:=?_,l3:=λhlt=>?_}
      · rcases List.mem_append.1 hy with j|j
        · exact hlast.eqb y j
        · rw[List.mem_singleton.1 j];exact heq
      · rcases List.mem_append.1 hy with j|j
        · exact hlast.end_ y j
        · exact⟨h,hh,(List.mem_singleton.1 j).symm,by rw[hv];exact Int.le_refl _⟩
      · have hlk:gI (s.laid.set (h/2).toNat true) (k/2)=true:=hlk
        have a:gI s.place x<=gI s.place (au g k):=a
        have c:gI s.place (bA g k)<gI s.place x:=c
        refine⟨x,by simp,?_⟩
        show gI (s.low.set x.toNat _) x<=gI s.place (bA g k)
        rw[hlv]
        by_cases j:k/2=h/2
        · rcases hends k hk j with⟨r,r2⟩|⟨r,r2⟩
          · rw[r2];omega
          · rw[r2] at c;omega
        · rw[d6 e0 (by omega) (j5 hk),if_neg j] at hlk
          obtain⟨y,hy,hy2⟩:=hlast.l1 k hk hlk a c d
          have:y=x:=by simpa using hy
          rw[this] at hy2;omega
      · show gI (s.low.set x.toNat _) x<=gI s.place x
        rw[hlv];have:=hlast.l2;omega
      · have hlt:gI (s.low.set x.toNat (min (gI s.low x) (gI s.place (bA g h)))) x<gI s.place x:=hlt
        show∃k,hf g k/\gI (s.laid.set (h/2).toNat true) (k/2)=true/\gI s.place x<=gI s.place (au g k)/\gI s.place (bA g k)=gI (s.low.set x.toNat _) x
        rw[hlv] at hlt ⊢
        by_cases j:gI s.place (bA g h)<=gI s.low x
        · refine⟨h,hh,?_,by rw[hv];exact Int.le_refl _,by omega⟩
          rw[d6 e0 (by omega) e0,if_pos rfl]
        · obtain⟨k,c1,c2,c3,c4⟩:=hlast.l3 (by omega)
          refine⟨k,c1,?_,c3,by omega⟩
          rw[d6 e0 (by omega) (j5 c1)];split
          · rfl
          · exact c2
    · -- one ahead of it
      have hold:=hd.fra A x Sx (B0++[(v,S)]) (by rw[k1];simp)
      have hx:=hd.mem (p:=(x,Sx)) (by rw[k1];simp)
      have hxv:gI s.place x<gI s.place v:=hlast.asc (x,Sx) (by rw[k1];simp)
      have hxne:x≠v:=iw hxv
      have hlx:gI (s.low.set v.toNat (min (gI s.low v) (gI s.place (bA g h)))) x=gI s.low x:=by rw[hlo x hx.1.1,if_neg hxne]
      subst k2
      refine {hold with l1:=λk hk hlk a c d=>?_,l2:=?_,l3:=λhlt=>?_}
      · have hlk:gI (s.laid.set (h/2).toNat true) (k/2)=true:=hlk
        have a:gI s.place x<=gI s.place (au g k):=a
        have c:gI s.place (bA g k)<gI s.place x:=c
        show∃y∈x::(B0++[(v,S++[h/2])]).map Prod.fst,gI (s.low.set v.toNat _) y<=gI s.place (bA g k)
        by_cases j:k/2=h/2
        · rcases hends k hk j with⟨r,r2⟩|⟨r,r2⟩
          · exact⟨v,by simp,by rw[hlv,r2];omega⟩
          · rw[r2] at c;omega
        · rw[d6 e0 (by omega) (j5 hk),if_neg j] at hlk
          obtain⟨y,hy,hy2⟩:=hold.l1 k hk hlk a c d
          refine⟨y,by simpa using hy,?_⟩
          have hy0:0<=y:=by
            have:y∈(A0++[(v,S)]).map Prod.fst:=by
              rw[k1]
              simp only[List.map_append,List.map_cons,List.mem_append,List.mem_cons] at hy ⊢
              rcases hy with q|q|q|q
              · exact .inl (.inr (.inl q))
              · exact .inl (.inr (.inr q))
              · exact .inr (.inl q)
              · exact absurd q List.not_mem_nil
            exact(hd.se.pr y this).1.1
          have:=hle y hy0
          omega
      · show gI (s.low.set v.toNat _) x<=gI s.place x
        rw[hlx];exact hold.l2
      · have hlt:gI (s.low.set v.toNat (min (gI s.low v) (gI s.place (bA g h)))) x<gI s.place x:=hlt
        show∃k,hf g k/\gI (s.laid.set (h/2).toNat true) (k/2)=true/\gI s.place x<=gI s.place (au g k)/\gI s.place (bA g k)=gI (s.low.set v.toNat _) x
        rw[hlx] at hlt ⊢
        obtain⟨k,c1,c2,c3,c4⟩:=hold.l3 hlt
        refine⟨k,c1,?_,c3,c4⟩
        rw[d6 e0 (by omega) (j5 c1)];split
        · rfl
        · exact c2
end TL
/-
  TlCls4: each step of the walk keeps what it relies on: a node found, a node left.
  By an AI agent.
-/
set_option linter.all false
namespace TL
variable{g:bF}{s:Bs}{fr:Fm}{path:List Int}{A B A0:Fm}{S U:List Int}{u v w e b h:Int}
theorem eD.new(hm:ba g)(hd:eD g s (A0++[(v,S)]))(hall:∀k,hf g k->gI s.place (au g k)≠0->au g k∉(A0++[(v,S)]).map Prod.fst->gI s.laid (k/2)=true)(hh:hf g h)(hv:au g h=v)(hl:¬gI s.laid (h/2)=true)(hw:gI s.place (bA g h)=0)
    (hse:dm g (eg {fc s (h/2) with by_:=s.by_.set (bA g h).toNat h} (bA g h)) ((A0++[(v,S)]++[(bA g h,[h/2])]).map Prod.fst)):
    eD g (eg {fc s (h/2) with by_:=s.by_.set (bA g h).toNat h} (bA g h)) (A0++[(v,S)]++[(bA g h,[h/2])]):=by
  have e0:=j5 hh
  have e1:=hU hh
  have hl5:=hd.se.l5
  have hl1:=hd.se.l1
  have hl2:=hd.se.l2
  have hl3:=hd.se.l3
  have hf0:=hd.se.f0
  obtain⟨w0,w1⟩:=fb hm hh
  have hvm:=hd.mem (p:=(v,S)) (by simp)
  have hlast:=hd.fra A0 v S [] rfl
  obtain⟨t1,t2,t3,t4⟩:=du (g:=g) hh
  generalize hwe:bA g h=w at*
  have hpl:∀x,0<=x->gI (s.place.set w.toNat (s.found+1)) x=if x=w then s.found+1 else gI s.place x:=λx a=>bM w0 (by omega) a
  have hlo:∀x,0<=x->gI (s.low.set w.toNat (s.found+1)) x=if x=w then s.found+1 else gI s.low x:=λx a=>bM w0 (by omega) a
  have hby:∀x,0<=x->gI (s.by_.set w.toNat h) x=if x=w then h else gI s.by_ x:=λx a=>bM w0 (by omega) a
  have hla:∀x,0<=x->gI (s.laid.set (h/2).toNat true) x=if x=h/2 then true else gI s.laid x:=λx a=>d6 e0 (by omega) a
  have hfd:∀x,0<=x->gI s.place x≠0->gI (s.place.set w.toNat (s.found+1)) x=gI s.place x:=λx a c=>by
    rw[hpl x a,if_neg (λk=>c (by rw[k];exact hw))]
  have hub:∀x,0<=x->x<g.1->gI s.place x<=s.found:=λx a c=>(hd.se.pl x a c).2
  have hge:∀x,0<=x->x<g.1->gI s.place x<=gI (s.place.set w.toNat (s.found+1)) x:=λx a c=>by
    rw[hpl x a];have:=hub x a c;split<;>omega
  have hends:∀k,hf g k->k/2=h/2->(au g k=v/\bA g k=w)\/(au g k=w/\bA g k=v):=λk hk he=>by
    rcases fk hk.1 hh.1 he with q|q
    · rw[q];exact .inl ⟨hv,hwe⟩
    · rw[q,t3,t4];exact .inr ⟨rfl,hv⟩
  have hlaf:∀k,hf g k->gI (s.laid.set (h/2).toNat true) (k/2)=true->k/2≠h/2->gI s.laid (k/2)=true:=λk hk hlk j=>by
    rw[hla _ (j5 hk),if_neg j] at hlk;exact hlk
  have hlam:∀k,hf g k->gI s.laid (k/2)=true->gI (s.laid.set (h/2).toNat true) (k/2)=true:=λk hk hlk=>by
    rw[hla _ (j5 hk)];split
    · rfl
    · exact hlk
  have hvf:=hfd v hvm.1.1 hvm.2
  -- a done node's other ends are found
  have hdone:∀k,hf g k->gI s.place (au g k)≠0->au g k∉(A0++[(v,S)]).map Prod.fst->gI s.place (bA g k)≠0:=λk hk a c=>hd.lot hk (hall k hk a c)
  have hwpath:w∉(A0++[(v,S)]).map Prod.fst:=λk=>(hd.se.pr w k).2 hw
  -- the stack's edges are laid
  have hstk:∀p∈A0++[(v,S)],∀e∈p.2,∀k,hf g k->k/2=e->gI s.place (au g k)≠0:=λp hp e he k hk hke=>hd.lof k hk (by rw[hke];exact(hd.el p hp e he).2)
  refine⟨hse,?_,λx y x0 x1 y0 y1 hx hxy=>?_,λk hk hlk=>?_,λA x Sx B he=>?_,λx hx=>hd.clr x ((gj e0 (by omega) hl).1 hx),λb b0 b1=>kG e0 (by omega) hl (hd.clb b b0 b1)⟩
  · show s.edges++[h/2]=_
    rw[hd.stk];simp
  · have hx:gI (s.place.set w.toNat (s.found+1)) x≠0:=hx
    have hxy:gI (s.place.set w.toNat (s.found+1)) x=gI (s.place.set w.toNat (s.found+1)) y:=hxy
    rw[hpl x x0,hpl y y0] at hxy
    rw[hpl x x0] at hx
    have h1:=hub x x0 x1
    have h2:=hub y y0 y1
    by_cases c1:x=w
    · by_cases c2:y=w
      · rw[c1,c2]
      · rw[if_pos c1,if_neg c2] at hxy;omega
    · by_cases c2:y=w
      · rw[if_neg c1,if_pos c2] at hxy;omega
      · rw[if_neg c1,if_neg c2] at hxy
        rw[if_neg c1] at hx
        exact hd.inj x y x0 x1 y0 y1 hx hxy
  · have hlk:gI (s.laid.set (h/2).toNat true) (k/2)=true:=hlk
    show gI (s.place.set w.toNat (s.found+1)) (au g k)≠0
    obtain⟨f0,f1⟩:=cP hm hk
    by_cases c:k/2=h/2
    · rcases hends k hk c with⟨r,_⟩|⟨r,_⟩
      · rw[r,hvf];exact hvm.2
      · rw[r,hpl w w0,if_pos rfl];omega
    · have:=hd.lof k hk (hlaf k hk hlk c)
      rw[hfd _ f0 this];exact this
  · show mC g (s.place.set w.toNat (s.found+1)) (s.low.set w.toNat (s.found+1)) (s.by_.set w.toNat h) (s.laid.set (h/2).toNat true) _ A x Sx B
    rcases ej he with⟨k1,k2,k3⟩|⟨B0,k1,k2⟩
    · obtain⟨rfl,rfl⟩:x=w/\Sx=[h/2]:=by simpa using k2
      subst k1 k3
      have hxp:gI (s.place.set x.toNat (s.found+1)) x=s.found+1:=by rw[hpl x w0,if_pos rfl]
      have hxb:gI (s.by_.set x.toNat h) x=h:=by rw[hby x w0,if_pos rfl]
      refine⟨.inr ⟨A0,v,S,[],rfl,by rw[hxb],by rw[hxb];exact hv,by rw[hxb];exact hh.1⟩,λp hp=>?_,λy hy=>?_,λy hy=>?_,λp hp y hy k hk hke=>?_,λk hk a c d=>?_,λy y0 y1 hy=>?_,λk hk hlk a c d=>?_,?_,λhlt=>?_⟩
      · have:=hd.mem hp
        rw[hxp,hfd _ this.1.1 this.2];have:=hub _ this.1.1 this.1.2;omega
      · rw[List.mem_singleton.1 hy,hxb];exact .refl _
      · refine⟨di h,t1,by rw[t2];exact(List.mem_singleton.1 hy).symm,?_⟩
        rw[t3];exact Int.le_refl _
      · have h1:=hstk p hp y hy k hk hke
        obtain⟨f0,f1⟩:=cP hm hk
        rw[hxp,hfd _ f0 h1];have:=hub _ f0 f1;omega
      · obtain⟨f0,f1⟩:=cP hm hk
        obtain⟨q0,q1⟩:=fb hm hk
        have hne:au g k≠x:=λj=>c (by rw[j];simp)
        rw[hpl _ f0,if_neg hne] at a
        have h1:=hdone k hk a (λj=>c (by rw[List.map_append];exact List.mem_append_left _ j))
        rw[hxp,hfd _ q0 h1];have:=hub _ q0 q1;omega
      · rw[hxp,hpl y y0] at hy
        have:y=x:=by
          by_cases c:y=x
          · exact c
          · rw[if_neg c] at hy;have:=hub y y0 y1;omega
        subst this
        exact .refl ⟨⟨w0,w1⟩,Int.le_refl _⟩
      · obtain⟨f0,f1⟩:=cP hm hk
        rw[hxp,hpl _ f0] at a
        have hfx:au g k=x:=by
          by_cases j:au g k=x
          · exact j
          · rw[if_neg j] at a;have:=hub _ f0 f1;omega
        exfalso
        rw[hxb] at d
        exact hd.lof k hk (hlaf k hk hlk d) (by rw[hfx];exact hw)
      · rw[hxp,hlo x w0,if_pos rfl];exact Int.le_refl _
      · rw[hxp,hlo x w0,if_pos rfl] at hlt;omega
    · have hold:=hd.fra A x Sx B0 k1
      have hx:=hd.mem (p:=(x,Sx)) (by rw[k1];simp)
      have hxne:x≠w:=λk=>hx.2 (by rw[k];exact hw)
      have hxp:gI (s.place.set w.toNat (s.found+1)) x=gI s.place x:=hfd x hx.1.1 hx.2
      have hxl:gI (s.low.set w.toNat (s.found+1)) x=gI s.low x:=by rw[hlo x hx.1.1,if_neg hxne]
      have hxb:gI (s.by_.set w.toNat h) x=gI s.by_ x:=by rw[hby x hx.1.1,if_neg hxne]
      have hxv:gI s.place x<=gI s.place v:=by
        rcases ej k1 with⟨_,j,_⟩|⟨B1,j,_⟩
        · have:x=v:=by have:=congrArg Prod.fst j;exact this
          rw[this];exact Int.le_refl _
        · have:=hlast.asc (x,Sx) (by rw[j];simp)
          exact Int.le_of_lt this
      have hinA:∀p∈A,p∈A0++[(v,S)]:=λp hp=>by rw[k1];exact List.mem_append_left _ hp
      subst k2
      refine⟨?_,λp hp=>?_,λy hy=>?_,λy hy=>?_,λp hp y hy k hk hke=>?_,λk hk a c d=>?_,λy y0 y1 hy=>?_,λk hk hlk a c d=>?_,?_,λhlt=>?_⟩
      · rw[hxb];exact hold.own
      · have:=hd.mem (hinA p hp)
        rw[hxp,hfd _ this.1.1 this.2];exact hold.asc p hp
      · rw[hxb];exact hold.eqb y hy
      · obtain⟨k,c1,c2,c3⟩:=hold.end_ y hy
        obtain⟨f0,f1⟩:=cP hm c1
        exact⟨k,c1,c2,by rw[hxp];exact Int.le_trans c3 (hge _ f0 f1)⟩
      · have h1:=hstk p (hinA p hp) y hy k hk hke
        rw[hxp,hfd _ (cP hm hk).1 h1];exact hold.low p hp y hy k hk hke
      · obtain⟨f0,f1⟩:=cP hm hk
        have hne:au g k≠w:=λj=>c (by rw[j];simp)
        rw[hpl _ f0,if_neg hne] at a
        have hnp:au g k∉(A0++[(v,S)]).map Prod.fst:=λj=>c (by rw[List.map_append];exact List.mem_append_left _ j)
        have h1:=hdone k hk a hnp
        rw[hxp,hfd _ f0 a] at d
        rw[hxp,hfd _ (fb hm hk).1 h1]
        exact hold.cross k hk a hnp d
      · rw[hxp]
        by_cases c:y=w
        · subst c
          have h1:=(hold.conn v hvm.1.1 hvm.1.2 hxv).mono (B:=λz=>(0<=z/\z<g.1)/\gI s.place x<=gI (s.place.set y.toNat (s.found+1)) z) (λz hz=>⟨hz.1,Int.le_trans hz.2 (hge z hz.1.1 hz.1.2)⟩)
          have h2:(0<=y/\y<g.1)/\gI s.place x<=gI (s.place.set y.toNat (s.found+1)) y:=⟨⟨w0,w1⟩,by rw[hpl y w0,if_pos rfl];have:=hub x hx.1.1 hx.1.2;omega⟩
          have h3:=Wy.one (g:=g) (A:=λz=>(0<=z/\z<g.1)/\gI s.place x<=gI (s.place.set y.toNat (s.found+1)) z) hh (by rw[hv];exact h1.right) (by rw[hwe];exact h2)
          rw[hv,hwe] at h3
          exact h1.trans h3
        · rw[hxp,hpl y y0,if_neg c] at hy
          exact(hold.conn y y0 y1 hy).mono (λz hz=>⟨hz.1,Int.le_trans hz.2 (hge z hz.1.1 hz.1.2)⟩)
      · obtain⟨f0,f1⟩:=cP hm hk
        obtain⟨q0,q1⟩:=fb hm hk
        by_cases j:k/2=h/2
        · exfalso
          rcases hends k hk j with⟨r,r2⟩|⟨r,r2⟩
          · rw[r2,hxp,hpl w w0,if_pos rfl] at c;have:=hub x hx.1.1 hx.1.2;omega
          · rw[r2,hxp,hvf] at c;omega
        · have hlk':=hlaf k hk hlk j
          have h1:=hd.lof k hk hlk'
          have h2:=hd.lot hk hlk'
          rw[hxp,hfd _ f0 h1] at a
          rw[hxp,hfd _ q0 h2] at c
          rw[hxb] at d
          obtain⟨y,hy,hy2⟩:=hold.l1 k hk hlk' a c d
          have hyp:y∈(A0++[(v,S)]).map Prod.fst:=by
            rw[k1];simp only[List.map_append,List.map_cons,List.mem_append];exact .inr hy
          have hym:=hd.se.pr y hyp
          refine⟨y,?_,?_⟩
          · simp only[List.map_append,List.mem_cons,List.mem_append] at hy ⊢
            rcases hy with r|r
            · exact .inl r
            · exact .inr (.inl r)
          · rw[hlo y hym.1.1,if_neg (λr=>hym.2 (by rw[r];exact hw)),hfd _ q0 h2];exact hy2
      · rw[hxl,hxp];exact hold.l2
      · rw[hxl,hxp] at hlt
        obtain⟨k,c1,c2,c3,c4⟩:=hold.l3 hlt
        have h2:=hd.lot c1 c2
        exact⟨k,c1,hlam k c1 c2,by rw[hxp,hfd _ (cP hm c1).1 (hd.lof k c1 c2)];exact c3,by rw[hxl,hfd _ (fb hm c1).1 h2];exact c4⟩
end TL
/-
  TlCls5: each step of the walk keeps what it relies on: a walk begun, a node left.
  By an AI agent.
-/
set_option linter.all false
namespace TL
variable{g:bF}{s:Bs}{fr:Fm}{path:List Int}{A B A0:Fm}{S U:List Int}{u v w e b h:Int}
theorem eD.begin_(hm:ba g)(hd:eD g s [])(hu:iV g s [])(v0:0<=v)(v1:v<g.1)(hv:gI s.place v=0)(hse:dm g (eg s v) [v]):eD g (eg s v) [(v,[])]:=by
  have hl1:=hd.se.l1
  have hl2:=hd.se.l2
  have hf0:=hd.se.f0
  have hpl:∀x,0<=x->gI (s.place.set v.toNat (s.found+1)) x=if x=v then s.found+1 else gI s.place x:=λx a=>bM v0 (by omega) a
  have hlo:∀x,0<=x->gI (s.low.set v.toNat (s.found+1)) x=if x=v then s.found+1 else gI s.low x:=λx a=>bM v0 (by omega) a
  have hub:∀x,0<=x->x<g.1->gI s.place x<=s.found:=λx a c=>(hd.se.pl x a c).2
  have hfd:∀x,0<=x->gI s.place x≠0->gI (s.place.set v.toNat (s.found+1)) x=gI s.place x:=λx a c=>by
    rw[hpl x a,if_neg (λk=>c (by rw[k];exact hv))]
  have hxp:gI (s.place.set v.toNat (s.found+1)) v=s.found+1:=by rw[hpl v v0,if_pos rfl]
  have hed:s.edges=[]:=hd.stk
  refine⟨hse,hd.stk,λx y x0 x1 y0 y1 hx hxy=>?_,λk hk hlk=>?_,λA x Sx B he=>?_,hd.clr,hd.clb⟩
  · have hx:gI (s.place.set v.toNat (s.found+1)) x≠0:=hx
    have hxy:gI (s.place.set v.toNat (s.found+1)) x=gI (s.place.set v.toNat (s.found+1)) y:=hxy
    rw[hpl x x0,hpl y y0] at hxy
    rw[hpl x x0] at hx
    have h1:=hub x x0 x1
    have h2:=hub y y0 y1
    by_cases c1:x=v
    · by_cases c2:y=v
      · rw[c1,c2]
      · rw[if_pos c1,if_neg c2] at hxy;omega
    · by_cases c2:y=v
      · rw[if_neg c1,if_pos c2] at hxy;omega
      · rw[if_neg c1,if_neg c2] at hxy
        rw[if_neg c1] at hx
        exact hd.inj x y x0 x1 y0 y1 hx hxy
  · show gI (s.place.set v.toNat (s.found+1)) (au g k)≠0
    have:=hd.lof k hk hlk
    rw[hfd _ (cP hm hk).1 this];exact this
  · show mC g (s.place.set v.toNat (s.found+1)) (s.low.set v.toNat (s.found+1)) s.by_ s.laid _ A x Sx B
    rcases ej (X:=[]) he with⟨k1,k2,k3⟩|⟨B0,k1,k2⟩
    · obtain⟨rfl,rfl⟩:x=v/\Sx=[]:=by simpa using k2
      subst k1 k3
      have hbx:gI s.by_ x= -1:=hse.p0 x rfl
      refine⟨.inl ⟨rfl,rfl,hbx⟩,λp hp=>absurd hp List.not_mem_nil,λy hy=>absurd hy List.not_mem_nil,λy hy=>absurd hy List.not_mem_nil,λp hp=>absurd hp List.not_mem_nil,λk hk a c d=>?_,λy y0 y1 hy=>?_,λk hk hlk a c d=>?_,?_,λhlt=>?_⟩
      · obtain⟨f0,f1⟩:=cP hm hk
        obtain⟨q0,q1⟩:=fb hm hk
        have hne:au g k≠x:=λj=>c (by rw[j];simp)
        rw[hpl _ f0,if_neg hne] at a
        have h1:=hd.lot hk (hu.all hm hk a (by simp))
        rw[hxp,hfd _ q0 h1];have:=hub _ q0 q1;omega
      · rw[hxp,hpl y y0] at hy
        have:y=x:=by
          by_cases c:y=x
          · exact c
          · rw[if_neg c] at hy;have:=hub y y0 y1;omega
        subst this
        exact .refl ⟨⟨v0,v1⟩,Int.le_refl _⟩
      · obtain⟨f0,f1⟩:=cP hm hk
        rw[hxp,hpl _ f0] at a
        have hfx:au g k=x:=by
          by_cases j:au g k=x
          · exact j
          · rw[if_neg j] at a;have:=hub _ f0 f1;omega
        exact absurd (by rw[hfx];exact hv) (hd.lof k hk hlk)
      · rw[hxp,hlo x v0,if_pos rfl];exact Int.le_refl _
      · rw[hxp,hlo x v0,if_pos rfl] at hlt;omega
    · exact absurd k1.symm (by simp)
theorem eD.off0(hd:eD g s [(v,[])])(hse:dm g s []):eD g s []:=
  ⟨hse,hd.stk,hd.inj,hd.lof,λA x Sx B he=>by simp at he,hd.clr,hd.clb⟩
theorem mC.off(hm:ba g)(hd:eD g s (A0++[(u,U),(v,S)])){A1:Fm}{x:Int}{Sx Sy:List Int}{B1 B2:Fm}(hold:mC g s.place s.low s.by_ s.laid ((A0++[(u,U),(v,S)]).map Prod.fst) A1 x Sx (B1++[(v,S)]))
    (hin:(x,Sx)∈A0++[(u,U)])(hin2:∀y∈(x::B1.map Prod.fst),y∈(A0++[(u,U)]).map Prod.fst)(hu:u∈x::B1.map Prod.fst)(hB:B2.map Prod.fst=B1.map Prod.fst)(heqb:∀e∈Sy,EqB g e (gI s.by_ x/2))(hend:∀e∈Sy,∃h,hf g h/\h/2=e/\gI s.place x<=gI s.place (au g h))
    (hown:(A1=[]/\Sy=[]/\gI s.by_ x= -1)\/(∃A' u U S',A1=A'++[(u,U)]/\Sy=gI s.by_ x/2::S'/\au g (gI s.by_ x)=u/\0<=gI s.by_ x)):
    mC g s.place (s.low.set u.toNat (min (gI s.low u) (gI s.low v))) s.by_ s.laid ((A0++[(u,U)]).map Prod.fst) A1 x Sy B2:=by
  have hl2:=hd.se.l2
  have hvf:=hd.fra (A0++[(u,U)]) v S [] (by simp)
  have hum:=hd.mem (p:=(u,U)) (by simp)
  have hvm:=hd.mem (p:=(v,S)) (by simp)
  have hlo:∀x,0<=x->gI (s.low.set u.toNat (min (gI s.low u) (gI s.low v))) x=if x=u then min (gI s.low u) (gI s.low v) else gI s.low x:=λx a=>bM hum.1.1 (by omega) a
  have hxm:=hd.mem (p:=(x,Sx)) (by
    have:=List.mem_append.1 hin
    rcases this with k|k
    · exact List.mem_append_left _ k
    · rw[List.mem_singleton.1 k];simp)
  have hxv:gI s.place x<gI s.place v:=hvf.asc (x,Sx) hin
  refine {hold with own:=hown,eqb:=heqb,end_:=hend,cross:=λk hk a c d=>?_,l1:=λk hk hlk a c d=>?_,l2:=?_,l3:=λhlt=>?_}
  · by_cases j:au g k=v
    · rw[j] at d;omega
    · refine hold.cross k hk a (λq=>c ?_) d
      have e1:(A0++[(u,U),(v,S)]).map Prod.fst=(A0++[(u,U)]).map Prod.fst++[v]:=by simp
      rw[e1,List.mem_append] at q
      exact q.resolve_right (λr=>j (by simpa using r))
  · obtain⟨y,hy,hy2⟩:=hold.l1 k hk hlk a c d
    have hlu:gI (s.low.set u.toNat (min (gI s.low u) (gI s.low v))) u=min (gI s.low u) (gI s.low v):=by rw[hlo u hum.1.1,if_pos rfl]
    have hy3:y∈x::B1.map Prod.fst\/y=v:=by
      simp only[List.map_append,List.mem_cons,List.mem_append,List.map_cons,List.map_nil] at hy ⊢
      rcases hy with r|r|r
      · exact .inl (.inl r)
      · exact .inl (.inr r)
      · exact .inr (r.resolve_right List.not_mem_nil)
    rw[hB]
    rcases hy3 with r|r
    · by_cases q:y=u
      · exact⟨u,hu,by rw[hlu,<-q];omega⟩
      · have:=(hd.se.pr y (by
          have:=hin2 y r
          rw[show(A0++[(u,U),(v,S)]).map Prod.fst=(A0++[(u,U)]).map Prod.fst++[v] by simp]
          exact List.mem_append_left _ this)).1.1
        exact⟨y,r,by rw[hlo y this,if_neg q];exact hy2⟩
    · exact⟨u,hu,by rw[hlu,<-r];omega⟩
  · rw[hlo x hxm.1.1]
    have:=hold.l2
    split
    · rename_i k;rw[<-k];omega
    · exact this
  · rw[hlo x hxm.1.1] at hlt ⊢
    by_cases k:x=u
    · rw[if_pos k] at hlt ⊢
      by_cases j:gI s.low u<=gI s.low v
      · rw[show min (gI s.low u) (gI s.low v)=gI s.low x by rw[k];omega] at hlt ⊢
        exact hold.l3 hlt
      · obtain⟨q,c1,c2,c3,c4⟩:=hvf.l3 (by omega)
        exact⟨q,c1,c2,by omega,by omega⟩
    · rw[if_neg k] at hlt ⊢
      exact hold.l3 hlt
end TL
/-
  TlCls6: a node left: its edges go to the one ahead, or are a block.
  By an AI agent.
-/
set_option linter.all false
namespace TL
variable{g:bF}{s:Bs}{fr:Fm}{path:List Int}{A B A0:Fm}{S U:List Int}{u v w e b h:Int}
theorem eD.ahead(hm:ba g)(hd:eD g s (A0++[(u,U),(v,S)])){k:Int}(hk:hf g k)(hlk:gI s.laid (k/2)=true)(h1:gI s.place v<=gI s.place (au g k))(h2:gI s.place (bA g k)<gI s.place v):bA g k=u\/(bA g k∈A0.map Prod.fst/\gI s.place (bA g k)<gI s.place u):=by
  have hvf:=hd.fra (A0++[(u,U)]) v S [] (by simp)
  have huf:=hd.fra A0 u U [(v,S)] rfl
  obtain⟨t1,t2,t3,t4⟩:=du (g:=g) hk
  have hp:bA g k∈(A0++[(u,U),(v,S)]).map Prod.fst:=by
    by_cases c:bA g k∈(A0++[(u,U),(v,S)]).map Prod.fst
    · exact c
    · have:=hvf.cross (di k) t1 (by rw[t3];exact hd.lot hk hlk) (by rw[t3];exact c) (by rw[t3];exact h2)
      rw[t4] at this;omega
  simp only[List.map_append,List.map_cons,List.map_nil,List.mem_append,List.mem_cons] at hp
  rcases hp with c|c|c|c
  · refine .inr ⟨c,?_⟩
    obtain⟨p,hp,e⟩:=List.mem_map.1 c
    rw[<-e];exact huf.asc p hp
  · exact .inl c
  · rw[c] at h2;omega
  · exact absurd c List.not_mem_nil
theorem eD.offA(hm:ba g)(hd:eD g s (A0++[(u,U),(v,S)])){U2:List Int}{A B:Fm}{x:Int}{Sx:List Int}(he:A0++[(u,U2)]=A++(x,Sx)::B)
    (h2:(∀e∈U2,EqB g e (gI s.by_ u/2))/\(∀e∈U2,∃h,hf g h/\h/2=e/\gI s.place u<=gI s.place (au g h))/\((A0=[]/\U2=[]/\gI s.by_ u= -1)\/(∃A' u' U' S',A0=A'++[(u',U')]/\U2=gI s.by_ u/2::S'/\au g (gI s.by_ u)=u'/\0<=gI s.by_ u))):
    mC g s.place (s.low.set u.toNat (min (gI s.low u) (gI s.low v))) s.by_ s.laid ((A0++[(u,U2)]).map Prod.fst) A x Sx B:=by
  have hmap:(A0++[(u,U2)]).map Prod.fst=(A0++[(u,U)]).map Prod.fst:=by simp
  rw[hmap]
  rcases ej he with⟨k1,k2,k3⟩|⟨B0,k1,k2⟩
  · obtain⟨rfl,rfl⟩:x=u/\Sx=U2:=by simpa using k2
    subst k1 k3
    exact mC.off hm hd (B1:=[]) (Sx:=U) (hd.fra A x U [(v,S)] rfl) (by simp) (λy hy=>by
      have:y=x:=by simpa using hy
      rw[this];simp) (by simp) rfl h2.1 h2.2.1 h2.2.2
  · subst k2
    have hold:=hd.fra A x Sx (B0++[(u,U)]++[(v,S)]) (by rw[k1];simp)
    refine mC.off hm hd (B1:=B0++[(u,U)]) hold (by rw[k1];simp) (λy hy=>?_) (by simp) (by simp) hold.eqb hold.end_ hold.own
    rw[k1]
    simp only[List.map_append,List.map_cons,List.map_nil,List.mem_append,List.mem_cons] at hy ⊢
    rcases hy with r|r|r
    · exact .inl (.inr (.inl r))
    · exact .inl (.inr (.inr r))
    · exact .inr r
theorem eD.off1(hm:ba g)(hd:eD g s (A0++[(u,U),(v,S)]))(hc:gI s.low v<gI s.place u)
    (hse:dm g {s with low:=s.low.set u.toNat (min (gI s.low u) (gI s.low v))} ((A0++[(u,U++S)]).map Prod.fst)):
    eD g {s with low:=s.low.set u.toNat (min (gI s.low u) (gI s.low v))} (A0++[(u,U++S)]):=by
  have hvf:=hd.fra (A0++[(u,U)]) v S [] (by simp)
  have huf:=hd.fra A0 u U [(v,S)] rfl
  have hum:=hd.mem (p:=(u,U)) (by simp)
  have huv:gI s.place u<gI s.place v:=hvf.asc (u,U) (by simp)
  -- an edge from behind to one ahead of u
  obtain⟨k,k1,k2,k3,k4⟩:=hvf.l3 (by omega)
  have hka:=(hd.ahead hm k1 k2 k3 (by omega)).resolve_left (λj=>by rw[j] at k4;omega)
  obtain⟨q,Q,A',S',ha1,ha2,ha3,ha4⟩:∃q Q A' S',A0=A'++[(q,Q)]/\U=gI s.by_ u/2::S'/\au g (gI s.by_ u)=q/\0<=gI s.by_ u:=by
    rcases huf.own with⟨j,_⟩|⟨A',q,Q,S',a,b,c,d⟩
    · rw[j] at hka;exact absurd hka.1 List.not_mem_nil
    · exact⟨q,Q,A',S',a,b,c,d⟩
  obtain⟨hb0,hb1⟩:0<=gI s.by_ v/\au g (gI s.by_ v)=u:=by
    rcases hvf.own with⟨j,_⟩|⟨A2,u2,U2,S2,a,_,c,d⟩
    · simp at j
    · have:=(List.append_inj' a rfl).2
      have:u=u2:=by have:=(List.cons.inj this).1;exact congrArg Prod.fst this
      exact⟨d,by rw[c,this]⟩
  have hbv:=hd.to (v,S) (by simp) hb0
  have hbu:=hd.to (u,U) (by simp) ha4
  have huA:u∉A0.map Prod.fst:=λj=>by
    obtain⟨p,hp,e⟩:=List.mem_map.1 j
    have:=huf.asc p hp
    rw[e] at this;omega
  have hqA:q∈A0.map Prod.fst:=by rw[ha1];simp
  have hrel:EqB g (gI s.by_ v/2) (gI s.by_ u/2):=by
    obtain⟨b1,b2,b3,b4⟩:=du (g:=g) hbu.1
    refine .rel ⟨gI s.by_ v,di (gI s.by_ u),hbv.1,b1,rfl,b2,?_,?_,?_,?_⟩
    · rw[hb1,b3,hbu.2]
    · rw[hbv.2,hb1];exact(iw huv).symm
    · rw[b4,b3,hbu.2,ha3];exact λj=>huA (by have j:q=u:=j;rw[<-j];exact hqA)
    · rw[hb1,hbv.2,b4,ha3]
      have w1:=(hvf.conn (au g k) (cP hm k1).1 (cP hm k1).2 k3).mono (B:=λz=>z≠u) (λz hz j=>by rw[j] at hz;omega)
      have w2:=Wy.one (g:=g) (A:=λz=>z≠u) k1 w1.right (λj=>huA (by rw[<-j];exact hka.1))
      have w3:=(hd.wy (A:=A0) (B:=[(u,U),(v,S)]) rfl _ hka.1 _ hqA).mono (B:=λz=>z≠u) (λz hz j=>huA (by rw[<-j];exact hz))
      exact(w1.trans w2).trans w3
  refine⟨hse,?_,hd.inj,hd.lof,λA x Sx B he=>hd.offA hm he ⟨λy hy=>?_,λy hy=>?_,.inr ⟨A',q,Q,S'++S,ha1,by rw[ha2];rfl,ha3,ha4⟩⟩,hd.clr,hd.clb⟩
  · show s.edges=_
    rw[hd.stk];simp
  · rcases List.mem_append.1 hy with j|j
    · exact huf.eqb y j
    · exact(hvf.eqb y j).trans hrel
  · rcases List.mem_append.1 hy with j|j
    · exact huf.end_ y j
    · obtain⟨r,c1,c2,c3⟩:=hvf.end_ y j
      exact⟨r,c1,c2,by omega⟩
theorem eD.off2(hm:ba g)(hd:eD g s (A0++[(u,U),(v,S)]))(hu:iV g s ((A0++[(u,U)]).map Prod.fst))(hc:gI s.place u<=gI s.low v)
    (hse:dm g (d3 {s with low:=s.low.set u.toNat (min (gI s.low u) (gI s.low v))} (gI s.by_ v/2)) ((A0++[(u,U)]).map Prod.fst)):
    eD g (d3 {s with low:=s.low.set u.toNat (min (gI s.low u) (gI s.low v))} (gI s.by_ v/2)) (A0++[(u,U)]):=by
  have hvf:=hd.fra (A0++[(u,U)]) v S [] (by simp)
  have huf:=hd.fra A0 u U [(v,S)] rfl
  have huv:gI s.place u<gI s.place v:=hvf.asc (u,U) (by simp)
  obtain⟨S',hS,hb0,hb1⟩:∃S',S=gI s.by_ v/2::S'/\0<=gI s.by_ v/\au g (gI s.by_ v)=u:=by
    rcases hvf.own with⟨j,_⟩|⟨A2,u2,U2,S2,a,b,c,d⟩
    · simp at j
    · have:=(List.append_inj' a rfl).2
      have:u=u2:=by have:=(List.cons.inj this).1;exact congrArg Prod.fst this
      exact⟨S2,b,d,by rw[c,this]⟩
  have hbv:=hd.to (v,S) (by simp) hb0
  have hpre:s.edges=((A0++[(u,U)]).map Prod.snd).flatten++gI s.by_ v/2::S':=by rw[hd.stk,<-hS];simp
  rw[kg (s:={s with low:=s.low.set u.toNat (min (gI s.low u) (gI s.low v))}) hpre hd.se.en] at hse ⊢
  have hpre':s.edges=((A0++[(u,U)]).map Prod.snd).flatten++S:=by rw[hpre,hS]
  have hvout:v∉(A0++[(u,U)]).map Prod.fst:=λj=>by
    obtain⟨p,hp,e⟩:=List.mem_map.1 j
    have:=hvf.asc p hp
    rw[e] at this;omega
  -- nodes behind v are done
  have hT:∀k,hf g k->gI s.place v<=gI s.place (au g k)->gI s.laid (k/2)=true:=λk hk a=>by
    refine hu.all hm hk (λj=>?_) (λj=>?_)
    · have h9:=(hd.mem (p:=(v,S)) (by simp))
      have h3:0<=gI s.place v:=(hd.se.pl v h9.1.1 h9.1.2).1
      have h4:gI s.place v≠0:=h9.2
      omega
    · obtain⟨p,hp,e⟩:=List.mem_map.1 j
      have:=hvf.asc p hp
      rw[e] at this;omega
  have hcl:=mL (g:=g) (la:=s.laid) (ed:=s.edges) (bl:=s.block) (pre:=((A0++[(u,U)]).map Prod.snd).flatten) (P:=gI s.by_ v/2::S') (c:=s.count) hpre hd.se.en hd.se.el hd.se.l6 hd.se.ct hd.clr hd.clb (λhin hle=>.inr ⟨λz=>(0<=z/\z<g.1)/\gI s.place v<=gI s.place z,u,λk=>by have:=k.2;omega,λk hk ht=>?_,λx hx hb=>?_,λx y hx hy hbx hby=>?_⟩)
  · refine⟨hse,rfl,hd.inj,hd.lof,λA x Sx B he=>hd.offA hm he ⟨huf.eqb,huf.end_,huf.own⟩,hcl.1,hcl.2⟩
  · have hlk:=hT k hk ht.2
    have hclo:gX g s.laid ((A0++[(u,U)]).map Prod.snd).flatten (k/2):=by
      refine⟨⟨j5 hk,hU hk⟩,hlk,λj=>?_⟩
      obtain⟨l,hl,hkl⟩:=List.mem_flatten.1 j
      obtain⟨p,hp,rfl⟩:=List.mem_map.1 hl
      have:=hvf.low p hp _ hkl k hk rfl
      have:=ht.2
      omega
    refine⟨?_,hclo,hle _ hclo⟩
    by_cases c:gI s.place v<=gI s.place (bA g k)
    · exact .inl ⟨fb hm hk,c⟩
    · by_cases d:k/2=gI s.by_ v/2
      · rcases fk hk.1 hbv.1.1 d with r|r
        · rw[r,hbv.2] at c;exact absurd (Int.le_refl _) c
        · obtain⟨_,_,_,t4⟩:=du (g:=g) hbv.1
          rw[r,t4];exact .inr hb1
      · obtain⟨y,hy,hy2⟩:=hvf.l1 k hk hlk ht.2 (by omega) d
        have:y=v:=by simpa using hy
        rw[this] at hy2
        rcases hd.ahead hm hk hlk ht.2 (by omega) with r|⟨_,r⟩
        · exact .inr r
        · omega
  · have:=hin x hx hb
    rw[<-hS] at this
    obtain⟨k,c1,c2,c3⟩:=hvf.end_ x this
    exact⟨k,c1,c2,cP hm c1,c3⟩
  · have h1:=hin x hx hbx
    have h2:=hin y hy hby
    rw[<-hS] at h1 h2
    exact(hvf.eqb x h1).trans (hvf.eqb y h2).symm
end TL
/-
  TlCls7: the walk as a whole.
  By an AI agent.
-/
set_option linter.all false
namespace TL
variable{g:bF}{s:Bs}{fr:Fm}{path:List Int}{A B A0:Fm}{S U:List Int}{u v w e b h:Int}
theorem om(hne:fr≠[]):∃A0 v S,fr=A0++[(v,S)]/\gI (fr.map Prod.fst) (((fr.map Prod.fst).length:Int)-1)=v:=by
 refine⟨fr.dropLast,(fr.getLast hne).1,(fr.getLast hne).2,(List.dropLast_concat_getLast hne).symm,?_⟩
 have h1:fr=fr.dropLast++[fr.getLast hne]:=(List.dropLast_concat_getLast hne).symm
 generalize fr.dropLast=X at h1
 generalize fr.getLast hne=p at h1 ⊢
 subst h1
 have e1:(((X++[p]).map Prod.fst).length:Int)-1=((X.length:Nat):Int):=by simp
 rw[e1]
 simp[gI]
theorem kE:(cU g s v).laid=s.laid:=by
 unfold cU;split
 · rfl
 · simp only;split<;>rfl
theorem gZ:(cU g s v).place=s.place:=by
 unfold cU;split
 · rfl
 · simp only;split<;>rfl
theorem iV.leave(h:iV g s (path++[v]))(hn:gI s.next v=((gI (aT g) v).length:Int)):iV g s path/\iV g (cU g s v) path:=by
 have h1:iV g s path:=⟨h.use,λx x0 x1 hx hxp=>by
   by_cases c:x=v
   · rw[c];exact hn
   · exact h.exh x x0 x1 hx (λk=>(List.mem_append.1 k).elim hxp (λj=>c (List.mem_singleton.1 j)))⟩
 refine⟨h1,⟨λx x0 x1 j j0 j1=>?_,λx x0 x1 hx hxp=>?_⟩⟩
 · rw[kE];rw[fY] at j1;exact h1.use x x0 x1 j j0 j1
 · rw[fY];rw[gZ] at hx;exact h1.exh x x0 x1 hx hxp
theorem iV.take{s':Bs}{path':List Int}(hu:iV g s path)(hse:dm g s path)(u0:0<=u)(u1:u<g.1)(hup:u∈path)(hh:gI (gI (aT g) u) (gI s.next u)=h)(hnx:s'.next=s.next.set u.toNat (gI s.next u+1))(hla:∀e,0<=e->e<(g.2.length:Int)->gI s.laid e=true->gI s'.laid e=true)(hlh:gI s'.laid (h/2)=true)(hin:∀x,0<=x->x<g.1->∀j:Int,0<=j->j<((gI (aT g) x).length:Int)->0<=gI (gI (aT g) x) j/2/\gI (gI (aT g) x) j/2<(g.2.length:Int))
    (hp:∀x∈path,x∈path')(hpl:∀x,0<=x->x<g.1->gI s'.place x≠0->gI s.place x≠0\/x∈path'):iV g s' path':=by
  have hl4:=hse.l4
  have hnn:∀x,0<=x->gI s'.next x=if x=u then gI s.next u+1 else gI s.next x:=λx a=>by rw[hnx];exact bM u0 (by omega) a
  refine⟨λx x0 x1 j j0 j1=>?_,λx x0 x1 hx hxp=>?_⟩
  · rw[hnn x x0] at j1
    have hold:∀x,0<=x->x<g.1->∀j:Int,0<=j->j<gI s.next x->gI s'.laid (gI (gI (aT g) x) j/2)=true:=λx x0 x1 j j0 j1=>by
      have:=hse.nx x x0 x1
      obtain⟨a,c⟩:=hin x x0 x1 j j0 (by omega)
      exact hla _ a c (hu.use x x0 x1 j j0 j1)
    by_cases c:x=u
    · rw[if_pos c] at j1
      by_cases d:j=gI s.next u
      · rw[c,d,hh];exact hlh
      · exact hold x x0 x1 j j0 (by rw[c];omega)
    · rw[if_neg c] at j1
      exact hold x x0 x1 j j0 j1
  · rcases hpl x x0 x1 hx with k|k
    · have hne:x≠u:=λj=>hxp (hp x (by rw[j];exact hup))
      rw[hnn x x0,if_neg hne]
      exact hu.exh x x0 x1 k (λj=>hxp (hp x j))
    · exact absurd k hxp
theorem gg{x j:Int}(x0:0<=x)(x1:x<g.1)(j0:0<=j)(j1:j<((gI (aT g) x).length:Int)):hf g (gI (gI (aT g) x) j)/\au g (gI (gI (aT g) x) j)=x:=by
 have hin:gI (gI (aT g) x) j∈gI (aT g) x:=bO j0 j1
 rw[dM x0 x1] at hin ⊢
 exact eF hin
theorem pN(hm:ba g)(hd:eD g s fr)(hu:iV g s (fr.map Prod.fst))(hne:fr≠[])(hv:v=gI (fr.map Prod.fst) (((fr.map Prod.fst).length:Int)-1)):
   ∃fr',fr'.map Prod.fst=(cK g s (fr.map Prod.fst) v).2/\eD g (cK g s (fr.map Prod.fst) v).1 fr'/\iV g (cK g s (fr.map Prod.fst) v).1 (cK g s (fr.map Prod.fst) v).2:=by
 have hpne:fr.map Prod.fst≠[]:=λk=>hne (List.map_eq_nil_iff.1 k)
 have hse:=hd.se.step hm hpne hv
 obtain⟨A0,v',S,rfl,hv'⟩:=om hne
 have:v'=v:=by rw[hv];exact hv'.symm
 subst this
 clear hv hv'
 have hvm:(0<=v'/\v'<g.1)/\gI s.place v'≠0:=hd.mem (p:=(v',S)) (by simp)
 have hmap:(A0++[(v',S)]).map Prod.fst=A0.map Prod.fst++[v']:=by simp
 have hl2:=hd.se.l2
 have hl5:=hd.se.l5
 have hlast:=hd.fra A0 v' S [] rfl
 by_cases hn:gI s.next v'=((gI (aT g) v').length:Int)
 · -- left
   have hst:cK g s ((A0++[(v',S)]).map Prod.fst) v'=(cU g s v',A0.map Prod.fst):=by
     unfold cK;rw[if_pos hn,hmap,List.dropLast_concat]
   rw[hst] at hse ⊢
   rw[hmap] at hu
   obtain⟨hu1,hu2⟩:=hu.leave hn
   by_cases hb:gI s.by_ v'<0
   · have hlv:cU g s v'=s:=by unfold cU;rw[if_pos hb]
     rcases hlast.own with⟨k1,k2,_⟩|⟨A',q,Q,S',_,_,_,k4⟩
     · subst k1 k2
       rw[hlv] at hse ⊢
       exact⟨[],rfl,hd.off0 hse,by rw[hlv] at hu2;exact hu2⟩
     · omega
   · obtain⟨A',q,Q,S',k1,k2,k3,k4⟩:=hlast.own.resolve_left (λk=>by omega)
     subst k1
     have hq:=hd.mem (p:=(q,Q)) (by simp)
     have hqv:gI s.place q<gI s.place v':=hlast.asc (q,Q) (by simp)
     have hqn:v'≠q:=(iw hqv).symm
     have hlow:gI (s.low.set q.toNat (min (gI s.low q) (gI s.low v'))) v'=gI s.low v':=by
       rw[bM hq.1.1 (by omega) hvm.1.1,if_neg hqn]
     have hd':eD g s (A'++[(q,Q),(v',S)]):=by simpa using hd
     have hm2:(A'++[(q,Q)]).map Prod.fst=A'.map Prod.fst++[q]:=by simp
     by_cases hc:gI s.place q<=gI s.low v'
     · have hlv:cU g s v'=d3 {s with low:=s.low.set q.toNat (min (gI s.low q) (gI s.low v'))} (gI s.by_ v'/2):=by
         unfold cU;rw[if_neg hb];simp only[k3];rw[if_pos (by rw[hlow];exact hc)]
       rw[hlv] at hse hu2 ⊢
       exact⟨A'++[(q,Q)],rfl,hd'.off2 hm hu1 hc hse,hu2⟩
     · have hlv:cU g s v'={s with low:=s.low.set q.toNat (min (gI s.low q) (gI s.low v'))}:=by
         unfold cU;rw[if_neg hb];simp only[k3];rw[if_neg (by rw[hlow];exact hc)]
       rw[hlv] at hse hu2 ⊢
       refine⟨A'++[(q,Q++S)],by simp,hd'.off1 hm (by omega) (by rw[show(A'++[(q,Q++S)]).map Prod.fst=(A'++[(q,Q)]).map Prod.fst by simp];exact hse),hu2⟩
 · -- a half-edge more
   obtain⟨n0,n1⟩:=hd.se.nx v' hvm.1.1 hvm.1.2
   have n1':gI s.next v'<=((gI (aT g) v').length:Int):=n1
   obtain⟨hh,hfv⟩:=gg hvm.1.1 hvm.1.2 n0 (by omega)
   generalize hhe:gI (gI (aT g) v') (gI s.next v')=h at hh hfv
   have hd1:=hd.nexts hvm.1.1 hvm.1.2 hn
   have e0:=j5 hh
   have e1:=hU hh
   have hvp:v'∈(A0++[(v',S)]).map Prod.fst:=by simp
   have hin:∀x,0<=x->x<g.1->∀j:Int,0<=j->j<((gI (aT g) x).length:Int)->0<=gI (gI (aT g) x) j/2/\gI (gI (aT g) x) j/2<(g.2.length:Int):=λx x0 x1 j j0 j1=>⟨j5 (gg x0 x1 j0 j1).1,hU (gg x0 x1 j0 j1).1⟩
   have hlam:∀e,0<=e->e<(g.2.length:Int)->gI s.laid e=true->gI (s.laid.set (h/2).toNat true) e=true:=λe a c d=>by
     rw[d6 e0 (by omega) a];split
     · rfl
     · exact d
   have hlah:gI (s.laid.set (h/2).toNat true) (h/2)=true:=by rw[d6 e0 (by omega) e0,if_pos rfl]
   have hst:cK g s ((A0++[(v',S)]).map Prod.fst) v'=((da g {s with next:=s.next.set v'.toNat (gI s.next v'+1)} v' h).1,if(da g {s with next:=s.next.set v'.toNat (gI s.next v'+1)} v' h).2.2=true then(A0++[(v',S)]).map Prod.fst++[(da g {s with next:=s.next.set v'.toNat (gI s.next v'+1)} v' h).2.1] else(A0++[(v',S)]).map Prod.fst):=by
     unfold cK;rw[if_neg hn,hhe]
   by_cases hl:gI s.laid (h/2)=true
   · have ht:da g {s with next:=s.next.set v'.toNat (gI s.next v'+1)} v' h=({s with next:=s.next.set v'.toNat (gI s.next v'+1)},0,false):=by unfold da;rw[if_pos hl]
     rw[hst,ht]
     exact⟨_,rfl,hd1,hu.take hd.se hvm.1.1 hvm.1.2 hvp hhe rfl (λe _ _ d=>d) hl hin (λx hx=>hx) (λx _ _ k=>.inl k)⟩
   · by_cases hw:bA g h=v'
     · have ht:da g {s with next:=s.next.set v'.toNat (gI s.next v'+1)} v' h=(d3 (fc {s with next:=s.next.set v'.toNat (gI s.next v'+1)} (h/2)) (h/2),0,false):=by unfold da;rw[if_neg hl,if_pos hw]
       rw[hst,ht] at hse ⊢
       exact⟨_,rfl,hd1.loop hm hh hl (by rw[hfv];exact hvm.2) (by rw[hw,hfv]) hse,hu.take hd.se hvm.1.1 hvm.1.2 hvp hhe rfl hlam hlah hin (λx hx=>hx) (λx _ _ k=>.inl k)⟩
     · by_cases hp:gI s.place (bA g h)=0
       · have ht:da g {s with next:=s.next.set v'.toNat (gI s.next v'+1)} v' h=(eg {fc {s with next:=s.next.set v'.toNat (gI s.next v'+1)} (h/2) with by_:=s.by_.set (bA g h).toNat h} (bA g h),bA g h,true):=by unfold da;rw[if_neg hl,if_neg hw,if_pos hp]
         rw[hst,ht] at hse ⊢
         have hse':dm g (eg {fc {s with next:=s.next.set v'.toNat (gI s.next v'+1)} (h/2) with by_:=s.by_.set (bA g h).toNat h} (bA g h)) ((A0++[(v',S)]++[(bA g h,[h/2])]).map Prod.fst):=by
           rw[List.map_append];exact hse
         refine⟨A0++[(v',S)]++[(bA g h,[h/2])],by rw[List.map_append];rfl,?_,?_⟩
         · exact hd1.new hm (λk hk a c=>hu.all hm hk a c) hh hfv hl hp hse'
         · obtain⟨w0,w1⟩:=fb hm hh
           have hl1:=hd.se.l1
           refine hu.take hd.se hvm.1.1 hvm.1.2 hvp hhe rfl hlam hlah hin (λx hx=>List.mem_append_left _ hx) (λx x0 x1 k=>?_)
           by_cases c:x=bA g h
           · exact .inr (by rw[c];simp)
           · have k:gI (s.place.set (bA g h).toNat (s.found+1)) x≠0:=k
             rw[bM w0 (by omega) x0,if_neg c] at k
             exact .inl k
       · have ht:da g {s with next:=s.next.set v'.toNat (gI s.next v'+1)} v' h=({fc {s with next:=s.next.set v'.toNat (gI s.next v'+1)} (h/2) with low:=s.low.set v'.toNat (min (gI s.low v') (gI s.place (bA g h)))},0,false):=by unfold da;rw[if_neg hl,if_neg hw,if_neg hp]
         rw[hst,ht] at hse ⊢
         have hse':dm g {fc {s with next:=s.next.set v'.toNat (gI s.next v'+1)} (h/2) with low:=s.low.set v'.toNat (min (gI s.low v') (gI s.place (bA g h)))} ((A0++[(v',S++[h/2])]).map Prod.fst):=by
           rw[show(A0++[(v',S++[h/2])]).map Prod.fst=(A0++[(v',S)]).map Prod.fst by simp];exact hse
         refine⟨A0++[(v',S++[h/2])],by simp,?_,?_⟩
         · exact hd1.back hm (λk hk a c=>hu.all hm hk a c) hh hfv hl hw hp hse'
         · exact hu.take hd.se hvm.1.1 hvm.1.2 hvp hhe rfl hlam hlah hin (λx hx=>hx) (λx _ _ k=>.inl k)
end TL
