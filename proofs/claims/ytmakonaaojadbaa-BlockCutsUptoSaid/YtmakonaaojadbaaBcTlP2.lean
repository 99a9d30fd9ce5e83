/- Plain texts of this claim, part 2. By an AI agent. -/
import Derived.Test.YtmakonaaojadbaaBcTlP1
import Derived.Carry
import Derived.Deep.Slices
import Derived.Lib.SmallJoins
import Derived.Shelf.SlSortCmp.WholeK
/-
  TlBlk: blocks by a walk depth first with a stack of edges, as the program does it, and what its walk may rely on.
  By an AI agent.
-/
set_option linter.all false
namespace TL
structure Bs where
 place:List Int
 low:List Int
 by_:List Int
 next:List Int
 found:Int
 edges:List Int
 laid:List Bool
 block:List Int
 count:Int
def ln(l:List Int)(x:Int):Nat:=l.length-1-l.reverse.idxOf x
def dq(s:Bs)(first:Int):Bs:=
 {s with block:=(s.edges.drop (ln s.edges first)).foldl (λb e=>b.set e.toNat s.count) s.block,edges:=s.edges.take (ln s.edges first),count:=s.count+1}
def fh(s:Bs)(v:Int):Bs:={s with found:=s.found+1,place:=s.place.set v.toNat (s.found+1),low:=s.low.set v.toNat (s.found+1)}
def gc(s:Bs)(e:Int):Bs:={s with laid:=s.laid.set e.toNat true,edges:=s.edges++[e]}
def dB(g:bw)(s:Bs)(v h:Int):Bs×Int×Bool:=
 if gI s.laid (h/2)=true then(s,0,false)
 else if b9 g h=v then(dq (gc s (h/2)) (h/2),0,false)
 else if gI s.place (b9 g h)=0 then(fh {gc s (h/2) with by_:=s.by_.set (b9 g h).toNat h} (b9 g h),b9 g h,true)
 else({gc s (h/2) with low:=s.low.set v.toNat (min (gI s.low v) (gI s.place (b9 g h)))},0,false)
def di(g:bw)(s:Bs)(v:Int):Bs:=
 if gI s.by_ v<0 then s
 else
   let u:=aq g (gI s.by_ v)
   let s1:Bs:={s with low:=s.low.set u.toNat (min (gI s.low u) (gI s.low v))}
   if gI s1.place u<=gI s1.low v then dq s1 (gI s.by_ v/2) else s1
def d8(g:bw)(s:Bs)(path:List Int)(u:Int):Bs×List Int:=
 if gI s.next u=((gI (ar g) u).length:Int) then(di g s u,path.dropLast)
 else
   let h:=gI (gI (ar g) u) (gI s.next u)
   let t:=dB g {s with next:=s.next.set u.toNat (gI s.next u+1)} u h
   (t.1,if t.2.2=true then path++[t.2.1] else path)
def pa(g:bw):Nat->Bs->List Int->Bs
 |0,s,_=>s
 |n+1,s,path=>if path=[] then s else pa g n (d8 g s path (gI path ((path.length:Int)-1))).1 (d8 g s path (gI path ((path.length:Int)-1))).2
def bA(g:bw)(s:Bs)(path:List Int):Nat:=2*(((bN g.1.toNat).map λv=>((gI (ar g) v).length-(gI s.next v).toNat)).sum)+path.length
def dp(g:bw)(s:Bs)(v:Int):Bs:=pa g (bA g (fh s v) [v]) (fh s v) [v]
def fH(g:bw):Bs:=⟨List.replicate g.1.toNat 0,List.replicate g.1.toNat 0,List.replicate g.1.toNat (-1),List.replicate g.1.toNat 0,0,[],List.replicate g.2.length false,List.replicate g.2.length 0,0⟩
def cO(g:bw)(k:Nat):Bs:=(bN k).foldl (λs v=>if gI s.place v=0 then dp g s v else s) (fH g)
def eD(by_:List Int)(path:List Int):List Int:=path.tail.map λv=>gI by_ v/2
structure dH(g:bw)(s:Bs)(path:List Int):Prop where
  l1:(s.place.length:Int)=g.1
  l2:(s.low.length:Int)=g.1
  l3:(s.by_.length:Int)=g.1
  l4:(s.next.length:Int)=g.1
  l5:(s.laid.length:Int)=g.2.length
  l6:(s.block.length:Int)=g.2.length
  nx:∀v,0<=v->v<g.1->0<=gI s.next v/\gI s.next v<=((gI (ar g) v).length:Int)
  pl:∀v,0<=v->v<g.1->0<=gI s.place v/\gI s.place v<=s.found
  f0:0<=s.found
  fn:s.found+(s.place.count 0:Int)=g.1
  by_:∀v,0<=v->v<g.1->gI s.by_ v= -1\/((0<=gI s.by_ v/\gI s.by_ v<2*(g.2.length:Int))/\b9 g (gI s.by_ v)=v/\gI s.place v≠0)
  en:s.edges.Nodup
  el:∀e∈s.edges,(0<=e/\e<(g.2.length:Int))/\gI s.laid e=true
  ct:0<=s.count
  cl:s.count+(s.edges.length:Int)<=(s.laid.count true:Int)
  pn:path.Nodup
  pr:∀v∈path,(0<=v/\v<g.1)/\gI s.place v≠0
  p0:∀v,path.head? =some v->gI s.by_ v= -1
  pt:∀v∈path.tail,0<=gI s.by_ v
  pe:(eD s.by_ path).Sublist s.edges
variable{g:bw}{s:Bs}{path:List Int}{e v w u hh:Int}
theorem lE{x:Int}{n:Nat}{v:Int}(h0:0<=v)(h1:v<n):gI (List.replicate n x) v=x:=by
 obtain⟨k,rfl⟩:∃k:Nat,v=(k:Int):=⟨v.toNat,by omega⟩
 have:k<n:=by omega
 simp[gI,this]
theorem gV{l:List Int}{i:Nat}(hi:i<l.length){x:Int}(h0:l[i]=0)(hx:x≠0):(l.set i x).count 0+1=l.count 0:=by
 have hp:0<l.count 0:=List.count_pos_iff.2 (h0▸List.getElem_mem hi)
 rw[List.count_set hi,h0]
 simp[hx]
 omega
theorem jE{l:List Bool}{i:Nat}(hi:i<l.length)(h0:l[i]=false):(l.set i true).count true=l.count true+1:=by
 rw[List.count_set hi,h0]
 simp
theorem rj{l:List Bool}{i:Int}(h0:0<=i)(h1:i<l.length):∃h:i.toNat<l.length,gI l i=l[i.toNat]:=⟨by omega,by
 have:i.toNat<l.length:=by omega
 simp[gI,this]⟩
theorem nc{l:List Int}{i:Int}(h0:0<=i)(h1:i<l.length):∃h:i.toNat<l.length,gI l i=l[i.toNat]:=⟨by omega,by
 have:i.toNat<l.length:=by omega
 simp[gI,this]⟩
theorem dH.start(hm:aV g):dH g (fH g) []:=by
 have h0:=hm.1
 have r0:∀{x:Int} {v:Int},0<=v->v<g.1->gI (List.replicate g.1.toNat x) v=x:=λa b=>lE a (by omega)
 refine⟨by simp[fH];omega,by simp[fH];omega,by simp[fH];omega,by simp[fH];omega,by simp[fH],by simp[fH],λv a b=>?_,λv a b=>?_,Int.le_refl _,?_,λv a b=>.inl (r0 a b),List.nodup_nil,λe he=>absurd he List.not_mem_nil,Int.le_refl _,?_,List.nodup_nil,λv hv=>absurd hv List.not_mem_nil,λv hv=>by simp at hv,λv hv=>absurd hv List.not_mem_nil,List.Sublist.refl _⟩
 · show 0<=gI (List.replicate g.1.toNat (0:Int)) v/\_<=_
   rw[show gI (fH g).next v=gI (List.replicate g.1.toNat (0:Int)) v from rfl,r0 a b];omega
 · show 0<=gI (List.replicate g.1.toNat (0:Int)) v/\gI (List.replicate g.1.toNat (0:Int)) v<=0
   rw[r0 a b];omega
 · show(0:Int)+((List.replicate g.1.toNat (0:Int)).count 0:Int)=g.1
   rw[List.count_replicate];simp;omega
 · show(0:Int)+((([]:List Int)).length:Int)<=((List.replicate g.2.length false).count true:Int)
   simp
theorem dH.lay(h:dH g s path)(e0:0<=e)(e1:e<(g.2.length:Int))(hl:¬gI s.laid e=true):dH g (gc s e) path/\e∉s.edges:=by
  have hl5:=h.l5
  obtain⟨hi,hg⟩:=rj (l:=s.laid) e0 (by omega)
  have hne:e∉s.edges:=λk=>hl (h.el e k).2
  have hf:s.laid[e.toNat]=false:=by rw[<-hg];simpa using hl
  have hc:=jE hi hf
  refine⟨⟨h.l1,h.l2,h.l3,h.l4,by show((s.laid.set e.toNat true).length:Int)=_;rw[List.length_set];exact hl5,h.l6,h.nx,h.pl,h.f0,h.fn,h.by_,?_,λx hx=>?_,h.ct,?_,h.pn,h.pr,h.p0,h.pt,h.pe.trans (List.sublist_append_left ..)⟩,hne⟩
  · show(s.edges++[e]).Nodup
    rw[List.nodup_append]
    exact⟨h.en,by simp,λa ha b hb=>by rw[List.mem_singleton.1 hb];exact λk=>hne (by rw[<-k];exact ha)⟩
  · show(0<=x/\x<_)/\gI (s.laid.set e.toNat true) x=true
    rcases List.mem_append.1 hx with k|k
    · obtain⟨a,b⟩:=h.el x k
      refine⟨a,?_⟩
      rw[bT e0 (by omega) a.1]
      split
      · rfl
      · exact b
    · rw[List.mem_singleton.1 k]
      exact⟨⟨e0,e1⟩,by rw[bT e0 (by omega) e0,if_pos rfl]⟩
  · show s.count+((s.edges++[e]).length:Int)<=((s.laid.set e.toNat true).count true:Int)
    rw[hc,List.length_append,List.length_singleton]
    have:=h.cl;omega
theorem n7{A B:List Int}{x:Int}(hB:x∉B):ln (A++x::B) x=A.length:=by
 unfold ln
 rw[List.reverse_append,List.reverse_cons,List.append_assoc,List.idxOf_append]
 rw[if_neg (by simpa using hB)]
 simp
theorem mE{l:List Int}{x:Int}(hn:l.Nodup)(hx:x∈l):∃A B,l=A++x::B/\x∉A/\x∉B/\ln l x=A.length:=by
 obtain⟨A,B,e⟩:=List.append_of_mem hx
 have hn':=hn
 rw[e,List.nodup_append] at hn'
 have h1:x∉B:=(List.nodup_cons.1 hn'.2.1).1
 have h2:x∉A:=λk=>hn'.2.2 x k x (List.mem_cons_self ..) rfl
 exact⟨A,B,e,h2,h1,by rw[e];exact n7 h1⟩
theorem k7(c:Int):∀(l b:List Int),(l.foldl (λb e=>b.set e.toNat c) b).length=b.length
 |[],b=>rfl
 |x::l,b=>by rw[List.foldl_cons,k7 c l,List.length_set]
theorem dH.close(h:dH g s path)(he:e∈s.edges)(hp:(eD s.by_ path).Sublist (s.edges.take (ln s.edges e))):dH g (dq s e) path:=by
  obtain⟨A,B,e1,_,_,e2⟩:=mE h.en he
  have hlt:ln s.edges e<s.edges.length:=by rw[e2,e1];simp
  have hs:(s.edges.take (ln s.edges e)).Sublist s.edges:=List.take_sublist _ _
  refine⟨h.l1,h.l2,h.l3,h.l4,h.l5,?_,h.nx,h.pl,h.f0,h.fn,h.by_,hs.nodup h.en,λx hx=>h.el x (hs.subset hx),by show 0<=s.count+1;have:=h.ct;omega,?_,h.pn,h.pr,h.p0,h.pt,hp⟩
  · show(((s.edges.drop (ln s.edges e)).foldl (λb x=>b.set x.toNat s.count) s.block).length:Int)=_
    rw[k7];exact h.l6
  · show s.count+1+((s.edges.take (ln s.edges e)).length:Int)<=(s.laid.count true:Int)
    rw[List.length_take]
    have:=h.cl;omega
theorem dH.lows(h:dH g s path)(x:Int)(k:Nat):dH g {s with low:=s.low.set k x} path:=
  {h with l2:=by show((s.low.set k x).length:Int)=_;rw[List.length_set];exact h.l2}
theorem dH.nexts(h:dH g s path)(u0:0<=u)(u1:u<g.1)(hn:¬gI s.next u=((gI (ar g) u).length:Int)):dH g {s with next:=s.next.set u.toNat (gI s.next u+1)} path:=
  {h with
    l4:=by show((s.next.set u.toNat _).length:Int)=_;rw[List.length_set];exact h.l4
    nx:=λx a b=>by
      show 0<=gI (s.next.set u.toNat (gI s.next u+1)) x/\gI (s.next.set u.toNat (gI s.next u+1)) x<=_
      rw[bT u0 (by have:=h.l4;omega) a]
      obtain⟨c,d⟩:=h.nx x a b
      split
      · rename_i k
        subst k
        obtain⟨c,d⟩:=h.nx x u0 u1
        omega
      · exact⟨c,d⟩}
theorem lb{b b':List Int}{p:List Int}(h:∀x∈p.tail,gI b x=gI b' x):eD b p=eD b' p:=by
 unfold eD
 exact List.map_congr_left λx hx=>by rw[h x hx]
theorem iX{b:List Int}{p:List Int}(hp:p≠[])(x:Int):eD b (p++[x])=eD b p++[gI b x/2]:=by
 unfold eD
 cases p with
 |nil=>exact absurd rfl hp
 |cons a l=>simp
theorem dH.grow(h:dH g s path)(hp:path≠[])(w0:0<=w)(w1:w<g.1)(hw:gI s.place w=0)(h0:0<=hh)(h1:hh<2*(g.2.length:Int))(ht:b9 g hh=w)(he:(eD s.by_ path++[hh/2]).Sublist s.edges):
    dH g (fh {s with by_:=s.by_.set w.toNat hh} w) (path++[w]):=by
  have l1:=h.l1
  have l2:=h.l2
  have l3:=h.l3
  have f0:=h.f0
  have hwp:w∉path:=λk=>(h.pr w k).2 hw
  have gp:∀x,0<=x->gI (s.place.set w.toNat (s.found+1)) x=if x=w then s.found+1 else gI s.place x:=λx a=>bT w0 (by omega) a
  have gb:∀x,0<=x->gI (s.by_.set w.toNat hh) x=if x=w then hh else gI s.by_ x:=λx a=>bT w0 (by omega) a
  obtain⟨hi,hg⟩:=nc (l:=s.place) w0 (by omega)
  have hc:=gV hi (x:=s.found+1) (by rw[<-hg];exact hw) (by omega)
  refine⟨by show((s.place.set _ _).length:Int)=_;rw[List.length_set];exact l1,by show((s.low.set _ _).length:Int)=_;rw[List.length_set];exact l2,by show((s.by_.set _ _).length:Int)=_;rw[List.length_set];exact l3,h.l4,h.l5,h.l6,h.nx,λx a b=>?_,by show 0<=s.found+1;omega,?_,λx a b=>?_,h.en,h.el,h.ct,h.cl,?_,λx hx=>?_,λx hx=>?_,λx hx=>?_,?_⟩
  · show 0<=gI (s.place.set w.toNat (s.found+1)) x/\gI (s.place.set w.toNat (s.found+1)) x<=s.found+1
    rw[gp x a]
    have:=h.pl x a b
    split<;>omega
  · show s.found+1+((s.place.set w.toNat (s.found+1)).count 0:Int)=g.1
    have:=h.fn;omega
  · show gI (s.by_.set w.toNat hh) x= -1\/(0<=gI (s.by_.set w.toNat hh) x/\gI (s.by_.set w.toNat hh) x<_)/\b9 g (gI (s.by_.set w.toNat hh) x)=x/\gI (s.place.set w.toNat (s.found+1)) x≠0
    rw[gb x a,gp x a]
    by_cases k:x=w
    · rw[if_pos k,if_pos k]
      exact .inr ⟨⟨h0,h1⟩,by rw[ht,k],by omega⟩
    · rw[if_neg k,if_neg k];exact h.by_ x a b
  · rw[List.nodup_append]
    exact⟨h.pn,by simp,λa ha b hb=>by rw[List.mem_singleton.1 hb];exact λk=>hwp (by rw[<-k];exact ha)⟩
  · show(0<=x/\x<g.1)/\gI (s.place.set w.toNat (s.found+1)) x≠0
    rcases List.mem_append.1 hx with k|k
    · obtain⟨a,b⟩:=h.pr x k
      refine⟨a,?_⟩
      rw[gp x a.1];split
      · omega
      · exact b
    · rw[List.mem_singleton.1 k]
      exact⟨⟨w0,w1⟩,by rw[gp w w0,if_pos rfl];omega⟩
  · show gI (s.by_.set w.toNat hh) x= -1
    cases hpe:path with
    |nil=>exact absurd hpe hp
    |cons a l=>
      rw[hpe] at hx
      have hxa:a=x:=by simpa using hx
      have hxp:x∈path:=by rw[hpe,<-hxa];exact List.mem_cons_self ..
      rw[gb x (h.pr x hxp).1.1,if_neg (λk=>hwp (by rw[<-k];exact hxp))]
      exact h.p0 x (by rw[hpe,hxa];rfl)
  · show 0<=gI (s.by_.set w.toNat hh) x
    have hx2:x∈path.tail\/x=w:=by
      cases hpe:path with
      |nil=>exact absurd hpe hp
      |cons a l=>
        rw[hpe] at hx
        simpa using hx
    rcases hx2 with k|k
    · have hxp:x∈path:=List.mem_of_mem_tail k
      rw[gb x (h.pr x hxp).1.1,if_neg (λj=>hwp (by rw[<-j];exact hxp))]
      exact h.pt x k
    · rw[k,gb w w0,if_pos rfl];exact h0
  · show(eD (s.by_.set w.toNat hh) (path++[w])).Sublist s.edges
    rw[iX hp,gb w w0,if_pos rfl,lb (b':=s.by_) (λx hx=>?_)]
    · exact he
    · have hxp:x∈path:=List.mem_of_mem_tail hx
      rw[gb x (h.pr x hxp).1.1,if_neg (λj=>hwp (by rw[<-j];exact hxp))]
theorem dH.first(h:dH g s [])(v0:0<=v)(v1:v<g.1)(hv:gI s.place v=0):dH g (fh s v) [v]:=by
  have l1:=h.l1
  have l2:=h.l2
  have f0:=h.f0
  have gp:∀x,0<=x->gI (s.place.set v.toNat (s.found+1)) x=if x=v then s.found+1 else gI s.place x:=λx a=>bT v0 (by omega) a
  obtain⟨hi,hg⟩:=nc (l:=s.place) v0 (by omega)
  have hc:=gV hi (x:=s.found+1) (by rw[<-hg];exact hv) (by omega)
  refine⟨by show((s.place.set _ _).length:Int)=_;rw[List.length_set];exact l1,by show((s.low.set _ _).length:Int)=_;rw[List.length_set];exact l2,h.l3,h.l4,h.l5,h.l6,h.nx,λx a b=>?_,by show 0<=s.found+1;omega,?_,λx a b=>?_,h.en,h.el,h.ct,h.cl,by simp,λx hx=>?_,λx hx=>?_,λx hx=>absurd hx List.not_mem_nil,List.nil_sublist _⟩
  · show 0<=gI (s.place.set v.toNat (s.found+1)) x/\gI (s.place.set v.toNat (s.found+1)) x<=s.found+1
    rw[gp x a]
    have:=h.pl x a b
    split<;>omega
  · show s.found+1+((s.place.set v.toNat (s.found+1)).count 0:Int)=g.1
    have:=h.fn;omega
  · show gI s.by_ x= -1\/(0<=gI s.by_ x/\gI s.by_ x<_)/\b9 g (gI s.by_ x)=x/\gI (s.place.set v.toNat (s.found+1)) x≠0
    rcases h.by_ x a b with k|⟨k1,k2,k3⟩
    · exact .inl k
    · refine .inr ⟨k1,k2,?_⟩
      rw[gp x a];split
      · omega
      · exact k3
  · rw[List.mem_singleton.1 hx]
    exact⟨⟨v0,v1⟩,by show gI (s.place.set v.toNat (s.found+1)) v≠0;rw[gp v v0,if_pos rfl];omega⟩
  · have:v=x:=by simpa using hx
    rw[<-this]
    rcases h.by_ v v0 v1 with k|⟨_,_,k⟩
    · exact k
    · exact absurd hv k
theorem gR(hp:path≠[]):path=path.dropLast++[gI path ((path.length:Int)-1)]:=by
 have e:gI path ((path.length:Int)-1)=path.getLast hp:=by
   have h:0<path.length:=List.length_pos_iff.2 hp
   have e1:((path.length:Int)-1).toNat=path.length-1:=by omega
   have h2:path.length-1<path.length:=by omega
   unfold gI
   rw[e1,List.getLast_eq_getElem,List.getD_eq_getElem?_getD,List.getElem?_eq_getElem h2]
   rfl
 rw[e];exact(List.dropLast_concat_getLast hp).symm
theorem dH.drop(h:dH g s path):dH g s path.dropLast:=by
  have hs:(path.dropLast).Sublist path:=List.dropLast_sublist _
  have ht:(path.dropLast.tail).Sublist path.tail:=hs.tail
  refine {h with pn:=hs.nodup h.pn,pr:=λv hv=>h.pr v (hs.subset hv),p0:=λv hv=>h.p0 v ?_,pt:=λv hv=>h.pt v (ht.subset hv),pe:=?_}
  · cases hp:path with
    |nil=>rw[hp] at hv;simp at hv
    |cons a l=>
      rw[hp] at hv
      cases l with
      |nil=>simp at hv
      |cons b l=>simpa using hv
  · unfold eD
    exact(ht.map _).trans h.pe
theorem qj{X A B:List Int}{x:Int}(h:(X++[x]).Sublist (A++x::B))(hA:x∉A)(hB:x∉B):X.Sublist A:=by
 obtain⟨l1,l2,e,h1,h2⟩:=List.sublist_append_iff.1 h
 by_cases hl2:l2=[]
 · subst hl2
   rw[List.append_nil] at e
   exact absurd (h1.subset (by rw[<-e];simp)) hA
 · obtain⟨l,y,rfl⟩:∃l y,l2=l++[y]:=⟨l2.dropLast,l2.getLast hl2,(List.dropLast_concat_getLast hl2).symm⟩
   have e2:X++[x]=(l1++l)++[y]:=by rw[e,List.append_assoc]
   obtain⟨e3,e4⟩:=List.append_inj' e2 rfl
   have ey:y=x:=by simpa using e4.symm
   subst ey
   cases l with
   |nil=>rw[e3,List.append_nil];exact h1
   |cons z l=>
     exfalso
     rw[List.cons_append] at h2
     rcases List.sublist_cons_iff.1 h2 with k|⟨r,k1,k2⟩
     · exact hB (k.subset (by simp))
     · have:r=l++[y]:=by
         injection k1 with _ q
         exact q.symm
       rw[this] at k2
       exact hB (k2.subset (by simp))
theorem dH.top(h:dH g s path)(hp:path≠[])(hv:v=gI path ((path.length:Int)-1))(hb:¬gI s.by_ v<0):gI s.by_ v/2∈s.edges/\(eD s.by_ path.dropLast).Sublist (s.edges.take (ln s.edges (gI s.by_ v/2))):=by
  have e0:=gR hp
  rw[<-hv] at e0
  have hd:path.dropLast≠[]:=by
    intro k
    rw[k] at e0
    have:=h.p0 v (by rw[e0];rfl)
    omega
  have pe:=h.pe
  rw[e0,iX hd] at pe
  have hm:gI s.by_ v/2∈s.edges:=pe.subset (by simp)
  obtain⟨A,B,e1,hA,hB,e2⟩:=mE h.en hm
  refine⟨hm,?_⟩
  have:s.edges.take (ln s.edges (gI s.by_ v/2))=A:=by
    rw[e2]
    conv=>lhs;rw[e1]
    simp
  rw[this]
  rw[e1] at pe
  exact qj pe hA hB
theorem dH.leave(hm:aV g)(h:dH g s path)(hp:path≠[])(hv:v=gI path ((path.length:Int)-1)):dH g (di g s v) path.dropLast:=by
 unfold di
 by_cases c:gI s.by_ v<0
 · rw[if_pos c];exact h.drop
 · rw[if_neg c]
   obtain⟨h1,h2⟩:=h.top hp hv c
   simp only
   have hl:=h.lows (min (gI s.low (aq g (gI s.by_ v))) (gI s.low v)) (aq g (gI s.by_ v)).toNat
   split
   · exact hl.drop.close (s:={s with low:=s.low.set (aq g (gI s.by_ v)).toNat (min (gI s.low (aq g (gI s.by_ v))) (gI s.low v))}) h1 h2
   · exact hl.drop
theorem dH.take(hm:aV g)(h:dH g s path)(hp:path≠[])(h0:0<=hh)(h1:hh<2*(g.2.length:Int)):dH g (dB g s v hh).1 (if(dB g s v hh).2.2=true then path++[(dB g s v hh).2.1] else path):=by
 have ht:=dF hm h0 h1
 unfold dB
 by_cases c:gI s.laid (hh/2)=true
 · rw[if_pos c];exact h
 · rw[if_neg c]
   obtain⟨hl,hn⟩:=h.lay (e:=hh/2) (by omega) (by omega) c
   by_cases c2:b9 g hh=v
   · rw[if_pos c2]
     show dH g (dq (gc s (hh/2)) (hh/2)) path
     refine hl.close (by show hh/2∈s.edges++[hh/2];simp) ?_
     have e:ln (s.edges++[hh/2]) (hh/2)=s.edges.length:=n7 (A:=s.edges) (B:=[]) List.not_mem_nil
     show(eD s.by_ path).Sublist ((s.edges++[hh/2]).take (ln (s.edges++[hh/2]) (hh/2)))
     rw[e,List.take_left']
     · exact h.pe
     · rfl
   · rw[if_neg c2]
     by_cases c3:gI s.place (b9 g hh)=0
     · rw[if_pos c3]
       show dH g (fh {gc s (hh/2) with by_:=s.by_.set (b9 g hh).toNat hh} (b9 g hh)) (path++[b9 g hh])
       exact hl.grow hp ht.1 ht.2 c3 h0 h1 rfl (h.pe.append (List.Sublist.refl _))
     · rw[if_neg c3]
       show dH g {gc s (hh/2) with low:=s.low.set v.toNat (min (gI s.low v) (gI s.place (b9 g hh)))} path
       exact hl.lows _ _
theorem dH.step(hm:aV g)(h:dH g s path)(hp:path≠[])(hu:u=gI path ((path.length:Int)-1)):dH g (d8 g s path u).1 (d8 g s path u).2:=by
 have hup:u∈path:=by
   have:=gR hp
   rw[<-hu] at this
   rw[this];simp
 obtain⟨⟨u0,u1⟩,_⟩:=h.pr u hup
 unfold d8
 by_cases c:gI s.next u=((gI (ar g) u).length:Int)
 · rw[if_pos c];exact h.leave hm hp hu
 · rw[if_neg c]
   obtain⟨n0,n1⟩:=h.nx u u0 u1
   have hin:gI (gI (ar g) u) (gI s.next u)∈gI (ar g) u:=bP n0 (by omega)
   rw[dP u0 u1] at hin
   have ho:=(cW hin).1
   rw[<-dP u0 u1] at ho
   exact(h.nexts u0 u1 c).take hm hp ho.1 ho.2
end TL
/-
  TlBlk2: the walk that finds blocks: it ends; all of it.
  By an AI agent.
-/
set_option linter.all false
namespace TL
variable{g:bw}{s:Bs}{path:List Int}{e v w u hh:Int}
theorem me{f f':Int->Nat}{u:Int}:∀{l:List Int},l.Nodup->u∈l->(∀x∈l,x≠u->f x=f' x)->f u=f' u+1->(l.map f).sum=(l.map f').sum+1
 |[],_,hu,_,_=>absurd hu List.not_mem_nil
 |a::l,hn,hu,hx,he=>by
   have hn':=List.nodup_cons.1 hn
   simp only[List.map_cons,List.sum_cons]
   by_cases c:a=u
   · subst c
     have:l.map f=l.map f':=List.map_congr_left λx hxl=>hx x (List.mem_cons_of_mem _ hxl) (λk=>hn'.1 (by rw[<-k];exact hxl))
     rw[this,he];omega
   · have h2:=me hn'.2 ((List.mem_cons.1 hu).resolve_left (λk=>c k.symm)) (λx hxl=>hx x (List.mem_cons_of_mem _ hxl)) he
     rw[h2,hx a (List.mem_cons_self ..) c];omega
theorem ol(h:dH g s path)(u0:0<=u)(u1:u<g.1)(hn:¬gI s.next u=((gI (ar g) u).length:Int))(p:List Int):bA g s p=bA g {s with next:=s.next.set u.toNat (gI s.next u+1)} p+2:=by
 have e1:bA g {s with next:=s.next.set u.toNat (gI s.next u+1)} p=2*(((bN g.1.toNat).map λv=>((gI (ar g) v).length-(gI (s.next.set u.toNat (gI s.next u+1)) v).toNat)).sum)+p.length:=rfl
 rw[e1]
 unfold bA
 have hl:=h.l4
 obtain⟨n0,n1⟩:=h.nx u u0 u1
 have:=me (f:=λv=>(gI (ar g) v).length-(gI s.next v).toNat) (f':=λv=>(gI (ar g) v).length-(gI (s.next.set u.toNat (gI s.next u+1)) v).toNat) (u:=u) (g5 g.1.toNat) (ec.2 ⟨u0,by omega⟩) (λx hx hxu=>by
   show _=(gI (ar g) x).length-(gI (s.next.set u.toNat (gI s.next u+1)) x).toNat
   rw[bT u0 (by omega) (ec.1 hx).1,if_neg hxu]) (by
   show(gI (ar g) u).length-(gI s.next u).toNat=(gI (ar g) u).length-(gI (s.next.set u.toNat (gI s.next u+1)) u).toNat+1
   rw[bT u0 (by omega) u0,if_pos rfl]
   omega)
 rw[this];omega
theorem i4:(di g s v).next=s.next:=by
 unfold di
 split
 · rfl
 · simp only;split<;>rfl
theorem om:(dB g s v hh).1.next=s.next:=by
 unfold dB
 split
 · rfl
 · split
   · rfl
   · split<;>rfl
theorem jL{s':Bs}(h:s'.next=s.next)(p:List Int):bA g s' p=bA g s p:=by unfold bA;rw[h]
theorem iT(h:dH g s path)(hp:path≠[])(hu:u=gI path ((path.length:Int)-1)):bA g (d8 g s path u).1 (d8 g s path u).2<bA g s path:=by
 have hup:u∈path:=by
   have:=gR hp
   rw[<-hu] at this
   rw[this];simp
 obtain⟨⟨u0,u1⟩,_⟩:=h.pr u hup
 have hl:0<path.length:=List.length_pos_iff.2 hp
 unfold d8
 by_cases c:gI s.next u=((gI (ar g) u).length:Int)
 · rw[if_pos c]
   show bA g (di g s u) path.dropLast<_
   rw[jL i4]
   unfold bA
   rw[List.length_dropLast];omega
 · rw[if_neg c]
   simp only
   rw[jL om]
   have h2:=ol h u0 u1 c path
   have h3:∀p:List Int,p.length<=path.length+1->bA g {s with next:=s.next.set u.toNat (gI s.next u+1)} p<=bA g {s with next:=s.next.set u.toNat (gI s.next u+1)} path+1:=λp hp=>by unfold bA;omega
   have h4:=h3 (if(dB g {s with next:=s.next.set u.toNat (gI s.next u+1)} u (gI (gI (ar g) u) (gI s.next u))).2.2=true then path++[(dB g {s with next:=s.next.set u.toNat (gI s.next u+1)} u (gI (gI (ar g) u) (gI s.next u))).2.1] else path) (by split<;>simp)
   omega
structure ep(g:bw)(R s:Bs)(path:List Int):Prop where
  i:dH g s path
  res:∃f,bA g s path<=f/\pa g f s path=R
theorem ep.start(h:dH g s [])(v0:0<=v)(v1:v<g.1)(hv:gI s.place v=0):ep g (dp g s v) (fh s v) [v]:=⟨h.first v0 v1 hv,_,Nat.le_refl _,rfl⟩
theorem ep.step(hm:aV g){R:Bs}(h:ep g R s path)(hp:path≠[])(hu:u=gI path ((path.length:Int)-1)):ep g R (d8 g s path u).1 (d8 g s path u).2/\bA g (d8 g s path u).1 (d8 g s path u).2<bA g s path:=by
 have hl:=iT h.i hp hu
 refine⟨⟨h.i.step hm hp hu,?_⟩,hl⟩
 obtain⟨f,f1,f2⟩:=h.res
 cases f with
 |zero=>omega
 |succ f=>
   refine⟨f,by omega,?_⟩
   unfold pa at f2
   rw[if_neg hp,<-hu] at f2
   exact f2
theorem ep.done{R:Bs}(h:ep g R s []):s=R:=by
 obtain⟨f,_,e⟩:=h.res
 rw[<-e]
 cases f with
 |zero=>rfl
 |succ f=>unfold pa;rw[if_pos rfl]
theorem sH(hm:aV g):∀(f:Nat) (s:Bs) (path:List Int),dH g s path->bA g s path<=f->dH g (pa g f s path) []
 |0,s,path,h,hf=>by
   have:path=[]:=List.length_eq_zero_iff.1 (by unfold bA at hf;omega)
   subst this
   exact h
 |f+1,s,path,h,hf=>by
   unfold pa
   by_cases c:path=[]
   · rw[if_pos c];rw[c] at h;exact h
   · rw[if_neg c]
     have:=iT h c rfl
     exact sH hm f _ _ (h.step hm c rfl) (by omega)
theorem sq(hm:aV g)(h:dH g s [])(v0:0<=v)(v1:v<g.1)(hv:gI s.place v=0):dH g (dp g s v) []:=sH hm _ _ _ (h.first v0 v1 hv) (Nat.le_refl _)
theorem gJ(g:bw)(k:Nat):cO g (k+1)=if gI (cO g k).place (k:Int)=0 then dp g (cO g k) (k:Int) else cO g k:=by
 unfold cO
 rw[ck,List.foldl_append];rfl
theorem pu(hm:aV g):∀k:Nat,(k:Int)<=g.1->dH g (cO g k) []
 |0,_=>dH.start hm
 |k+1,h=>by
   have ih:=pu hm k (by omega)
   rw[gJ]
   split
   · exact sq hm ih (by omega) (by omega) ‹_›
   · exact ih
end TL
/-
  TlWayH: From with a heap: what holds while it runs.
  By an AI agent.
-/
set_option linter.all false
namespace TL
-- down
-- up
-- all of it
theorem rr{α:Type}[Inhabited α]{n:Nat}{x:α}{v:Int}(h0:0<=v)(h1:v<n):gI (List.replicate n x) v=x:=by
 obtain⟨k,rfl⟩:∃k:Nat,v=(k:Int):=⟨v.toNat,by omega⟩
 have:k<n:=by omega
 simp[gI,this]
end TL
/-
  TlBlk3: blocks by the numbers of their least edges, cut nodes, bridges: what package block tells; a bridge is alone in its block.
  By an AI agent.
-/
set_option linter.all false
namespace TL
variable{g:bw}{l:List Int}{k:Nat}{b e:Int}
def aB(l:List Int):Nat->List Int×List Int
  |0=>([],[])
  |k+1=>
    let sn:=if gI l (k:Int)∈(aB l k).1 then(aB l k).1 else(aB l k).1++[gI l (k:Int)]
    (sn,(aB l k).2++[((sn.idxOf (gI l (k:Int)):Nat):Int)])
theorem gP(l:List Int):∀k,(aB l k).2.length=k/\(aB l k).1.length<=k
 |0=>⟨rfl,Nat.le_refl _⟩
 |k+1=>by
   obtain⟨a,b⟩:=gP l k
   unfold aB
   refine⟨by simp[a],?_⟩
   simp only
   split
   · omega
   · rw[List.length_append,List.length_singleton];omega
theorem pm(l:List Int)(k:Nat):(aB l k).1.length<=(aB l (k+1)).1.length:=by
 conv=>rhs;unfold aB
 simp only
 split
 · exact Nat.le_refl _
 · rw[List.length_append];omega
theorem l7(l:List Int):∀k,∀x∈(aB l k).2,0<=x/\x<((aB l k).1.length:Int)
 |0,x,hx=>absurd hx List.not_mem_nil
 |k+1,x,hx=>by
   have hg:=pm l k
   have hx2:x∈(aB l k).2++[(((if gI l (k:Int)∈(aB l k).1 then(aB l k).1 else(aB l k).1++[gI l (k:Int)]).idxOf (gI l (k:Int)):Nat):Int)]:=hx
   rcases List.mem_append.1 hx2 with c|c
   · have:=l7 l k x c;omega
   · rw[List.mem_singleton.1 c]
     have hm:gI l (k:Int)∈(if gI l (k:Int)∈(aB l k).1 then(aB l k).1 else(aB l k).1++[gI l (k:Int)]):=by
       split
       · assumption
       · simp
     have:=List.idxOf_lt_length_of_mem hm
     refine⟨by omega,?_⟩
     show((_:Nat):Int)<(((if gI l (k:Int)∈(aB l k).1 then(aB l k).1 else(aB l k).1++[gI l (k:Int)]).length:Nat):Int)
     omega
def q5(of:List Int)(g:bw)(s:List Int×List Bool)(h:Int):List Int×List Bool:=
  (s.1.set (aq g h).toNat (gI of (h/2)+1),s.2.set (aq g h).toNat (gI s.2 (aq g h)||(decide (0<gI s.1 (aq g h))&& !decide (gI s.1 (aq g h)=gI of (h/2)+1))))
def eB(of:List Int)(g:bw)(k:Nat):List Int×List Bool:=(bN k).foldl (q5 of g) (List.replicate g.1.toNat 0,List.replicate g.1.toNat false)
def dl(g:bw):List Int:=(aB (cO g g.1.toNat).block g.2.length).2
def bJ(g:bw):Int:=((aB (cO g g.1.toNat).block g.2.length).1.length:Int)
def bR(g:bw):List Int:=(bN g.1.toNat).filter λv=>gI (eB (dl g) g (2*g.2.length)).2 v
def eC(of:List Int)(n:Nat)(k:Nat):List Int:=(of.take k).foldl (λl b=>l.set b.toNat (gI l b+1)) (List.replicate n 0)
def cR(g:bw)(k:Nat):List Int:=(bN k).filter λe=>decide (gI (eC (dl g) (bJ g).toNat g.2.length) (gI (dl g) e)=1)&& !decide ((gI g.2 e).1=(gI g.2 e).2)
def b7(g:bw):(List Int×List Int×Int)×Int:=if aV g then((dl g,bR g,bJ g),0) else(([],[],0),1)
def bM(g:bw):List Int×Int:=if aV g then(cR g g.2.length,0) else([],1)
theorem iy(g:bw):(dl g).length=g.2.length:=(gP _ _).1
theorem eV(g:bw){i:Int}(h0:0<=i)(h1:i<(g.2.length:Int)):0<=gI (dl g) i/\gI (dl g) i<bJ g:=by
 have hl:=iy g
 exact l7 _ _ _ (bP (xs:=dl g) h0 (by omega))
theorem qr(of:List Int)(n k:Nat):(eC of n k).length=n:=by
 unfold eC
 have key:∀(l p:List Int),(l.foldl (λl b=>l.set b.toNat (gI l b+1)) p).length=p.length:=by
   intro l
   induction l with
   |nil=>intro p;rfl
   |cons a l ih=>intro p;rw[List.foldl_cons,ih,List.length_set]
 rw[key];simp
theorem ky{of:List Int}{n k:Nat}(hk:(k:Int)<of.length):eC of n (k+1)=(eC of n k).set (gI of (k:Int)).toNat (gI (eC of n k) (gI of (k:Int))+1):=by
 have hk':k<of.length:=by omega
 unfold eC
 rw[List.take_succ_eq_append_getElem hk',List.foldl_append]
 have e:gI of (k:Int)=of[k]:=by simp[gI,hk']
 rw[e];rfl
theorem mh(hk:decide (gI (eC (dl g) (bJ g).toNat g.2.length) (gI (dl g) (k:Int))=1)=true)(hn:¬(gI g.2 (k:Int)).1=(gI g.2 (k:Int)).2):cR g (k+1)=cR g k++[(k:Int)]:=by
 unfold cR
 rw[ck,List.filter_append]
 simp only[List.filter_cons,List.filter_nil,hk,decide_eq_false hn,Bool.not_false,Bool.and_self,if_true]
theorem n3(h:¬gI (eC (dl g) (bJ g).toNat g.2.length) (gI (dl g) (k:Int))=1\/(gI g.2 (k:Int)).1=(gI g.2 (k:Int)).2):cR g (k+1)=cR g k:=by
 unfold cR
 rw[ck,List.filter_append]
 have e:(decide (gI (eC (dl g) (bJ g).toNat g.2.length) (gI (dl g) (k:Int))=1)&& !decide ((gI g.2 (k:Int)).1=(gI g.2 (k:Int)).2))=false:=by
   rcases h with h|h
   · rw[decide_eq_false h];rfl
   · rw[decide_eq_true h];simp
 simp only[List.filter_cons,List.filter_nil,e,Bool.false_eq_true,if_false,List.append_nil]
def fm(l:List Int)(n k:Nat):List Bool:=(l.take k).foldl (λb e=>b.set e.toNat true) (List.replicate n false)
theorem lJ(l:List Int)(n k:Nat):(fm l n k).length=n:=by
 unfold fm
 have key:∀(l:List Int) (p:List Bool),(l.foldl (λb e=>b.set e.toNat true) p).length=p.length:=by
   intro l
   induction l with
   |nil=>intro p;rfl
   |cons a l ih=>intro p;rw[List.foldl_cons,ih,List.length_set]
 rw[key];simp
theorem kx{n:Nat}(hk:(k:Int)<l.length):fm l n (k+1)=(fm l n k).set (gI l (k:Int)).toNat true:=by
 have hk':k<l.length:=by omega
 unfold fm
 rw[List.take_succ_eq_append_getElem hk',List.foldl_append]
 have e:gI l (k:Int)=l[k]:=by simp[gI,hk']
 rw[e];rfl
theorem mZ{l:List Int}{k:Nat}(h:(k:Int)<l.length):l.take (k+1)=l.take k++[gI l (k:Int)]:=by
 have hk:k<l.length:=by omega
 rw[List.take_succ_eq_append_getElem hk]
 simp[gI,hk]
theorem nU{n:Nat}(hl:∀x∈l,0<=x/\x<(n:Int)){e:Int}(h0:0<=e)(h1:e<(n:Int)):∀k:Nat,(k:Int)<=l.length->(gI (fm l n k) e=true↔e∈l.take k)
 |0,_=>by
   have:fm l n 0=List.replicate n false:=rfl
   rw[this,rr h0 (by omega)];simp
 |k+1,hk=>by
   have ih:=nU hl h0 h1 k (by omega)
   obtain⟨a,b⟩:=hl _ (bP (xs:=l) (i:=(k:Int)) (by omega) (by omega))
   have hml:=lJ l n k
   rw[kx (by omega),bT a (by omega) h0,mZ (by omega),List.mem_append,List.mem_singleton]
   by_cases c:e=gI l (k:Int)
   · rw[if_pos c];simp[c]
   · rw[if_neg c,ih];simp[c]
end TL
namespace TL
structure nZ(l:List Int)(mp:(Int->Int)×List Int)(out:List Int)(k:Nat):Prop where
  dom:mp.2=(aB l k).1
  val:∀b∈mp.2,mp.1 b=((mp.2.idxOf b:Nat):Int)
  eq:out=(aB l k).2++List.replicate (l.length-k) 0
  lo:(out.length:Int)=l.length
variable{l:List Int}{mp:(Int->Int)×List Int}{out:List Int}{k:Nat}
theorem nZ.start:nZ l (λ_=>0,[]) (List.replicate (Int.toNat (l.length:Int)) 0) 0:=
 ⟨rfl,λb hb=>absurd hb List.not_mem_nil,by simp[aB],by simp⟩
theorem oe{x:Int}(h:out=(aB l k).2++List.replicate (l.length-k) 0)(hk:(k:Int)<l.length):out.set (Int.toNat (k:Int)) x=((aB l k).2++[x])++List.replicate (l.length-(k+1)) 0:=by
 have hl:=(gP l k).1
 rw[h,Int.toNat_natCast,List.set_append_right _ _ (by omega),hl,Nat.sub_self]
 rw[show l.length-k=(l.length-(k+1))+1 by omega,List.replicate_succ]
 simp
theorem nZ.old(h:nZ l mp out k)(hk:(k:Int)<l.length)(hm:gI l (k:Int)∈mp.2):nZ l mp (out.set (Int.toNat (k:Int)) (mp.1 (gI l (k:Int)))) (k+1):=by
 have hd:=h.dom
 have e:aB l (k+1)=((aB l k).1,(aB l k).2++[(((aB l k).1.idxOf (gI l (k:Int)):Nat):Int)]):=by
   conv=>lhs;unfold aB
   simp only[if_pos (show gI l (k:Int)∈(aB l k).1 by rw[<-hd];exact hm)]
 refine⟨by rw[e];exact hd,h.val,?_,by rw[List.length_set];exact h.lo⟩
 rw[oe h.eq hk,e,h.val _ hm,hd]
theorem nZ.new(h:nZ l mp out k)(hk:(k:Int)<l.length)(hm:¬gI l (k:Int)∈mp.2){mp':(Int->Int)×List Int}{x:Int}(em:mp'=((λq=>if q=gI l (k:Int) then(mp.2.length:Int) else mp.1 q),if gI l (k:Int)∈mp.2 then mp.2 else mp.2++[gI l (k:Int)]))(ex:x=mp'.1 (gI l (k:Int))):
   nZ l mp' (out.set (Int.toNat (k:Int)) x) (k+1):=by
 subst em
 have hd:=h.dom
 rw[if_neg hm]
 have e:aB l (k+1)=((aB l k).1++[gI l (k:Int)],(aB l k).2++[((((aB l k).1++[gI l (k:Int)]).idxOf (gI l (k:Int)):Nat):Int)]):=by
   conv=>lhs;unfold aB
   simp only[if_neg (show¬gI l (k:Int)∈(aB l k).1 by rw[<-hd];exact hm)]
 have ei:(mp.2++[gI l (k:Int)]).idxOf (gI l (k:Int))=mp.2.length:=by
   rw[List.idxOf_append,if_neg hm];simp
 refine⟨by rw[e,<-hd],λb hb=>?_,?_,by rw[List.length_set];exact h.lo⟩
 · show(if b=gI l (k:Int) then(mp.2.length:Int) else mp.1 b)=(((mp.2++[gI l (k:Int)]).idxOf b:Nat):Int)
   by_cases c:b=gI l (k:Int)
   · rw[if_pos c,c,ei]
   · have hb2:b∈mp.2:=(List.mem_append.1 hb).resolve_right (λz=>c (List.mem_singleton.1 z))
     rw[if_neg c,List.idxOf_append,if_pos hb2];exact h.val b hb2
 · rw[oe h.eq hk,e,ex]
   show _=_
   rw[<-hd,ei]
   simp
theorem nZ.done(h:nZ l mp out k)(hk:k=l.length):out=(aB l l.length).2/\(mp.2.length:Int)=((aB l l.length).1.length:Int):=by
 subst hk
 have:=h.eq
 rw[Nat.sub_self,List.replicate_zero,List.append_nil] at this
 exact⟨this,by rw[h.dom]⟩
end TL
/-
  TlWayT: the way that leads to a node, from how the nodes were reached (package path's To), as the document has it.
  By an AI agent.
-/
set_option linter.all false
namespace TL
def pZ(fs:FS)(g:bw):Prop:=aV g/\(fs.1.length:Int)=g.1/\(fs.2.length:Int)=g.1
instance (fs:FS)(g:bw):Decidable (pZ fs g):=by unfold pZ;infer_instance
variable{fs:FS}{g:bw}{t v:Int}{l:List Int}{n:Nat}
variable{by_:List Int}
end TL
/-
  TlDij: what the document's From comes to: each length is that of the way found; no half-edge of a reached node leads nearer.
  By an AI agent.
-/
set_option linter.all false
namespace TL
abbrev hf(g:bw)(h:Int):Prop:=0<=h/\h<2*(g.2.length:Int)
abbrev nd(g:bw)(v:Int):Prop:=0<=v/\v<g.1
variable{g:bw}{ws:List Nat}{s p:Int}{far:List Nat}{by_:List Int}{se:List Bool}{rk:Int->Nat}{n:Nat}{done:List Int}
end TL
/-
  TlOpen: arguments opened: what a law's reader says of a slice is what a walk wants of it.
  By an AI agent.
-/
namespace TL
open Go Go.Proofs Go.ChangeShapes Go.WideShapes Go.Joins Go.Deep
structure mK{H:Type}(f:DataW H->Nat):Prop where
 slice:∀l s:List (DataW H),l.length<=f (.slice l s)
 elem:∀l s:List (DataW H),∀d∈l,f d<=f (.slice l s)
 part:∀l:List (DataW H),∀d∈l,f d<=f (.agg l)
def qQ(α:Type)[Rp α](P:Program)(t:TypeId):Prop:=
  ∀{H:Type} (enc:TypeId×Value->H) (w:World) (fuel:Nat) (cs:List Value) (x:DataW H×List MemPlace),DataW.trod enc P w 0 (λ_=>true) true fuel t cs=some x->∃y:α,Rp.rep c0 any w cs y
theorem nA{P:Program}{t:TypeId}(ht:P.underlying t=some (.int .i64)):qQ Int P t:=by
 intro H enc w fuel cs x h
 obtain⟨n,rfl,_,_⟩:=DataW.trod_int ht h
 exact⟨n,rfl⟩
theorem lY{H:Type}{enc:TypeId×Value->H}{P:Program}{w:World}{base:Nat}{spare:Nat->Bool}{held:Bool}{t e:TypeId}{fuel:Nat}{cs:List Value}{x:DataW H×List MemPlace}(ht:P.underlying t=some (.array 2 e))(hce:P.cellsOf e=1)(hct:P.cellsOf t=2)
   (h:DataW.trod enc P w base spare held fuel t cs=some x):
   ∃v0 v1 y0 y1 n,cs=[v0,v1]/\x=(.agg [y0.1,y1.1],y0.2++y1.2)/\DataW.trod enc P w base spare held n e [v0]=some y0/\DataW.trod enc P w base spare held n e [v1]=some y1:=by
 cases fuel with
 |zero=>simp[DataW.trod] at h
 |succ n=>
   unfold DataW.trod at h
   rw[ht] at h
   have r2:List.range 2=[0,1]:=rfl
   simp only[hct] at h
   by_cases hl:cs.length=2
   · rw[if_pos hl] at h
     match cs,hl with
     |[v0,v1],_=>
       simp[r2,hce] at h
       cases h0:DataW.trod enc P w base spare held n e [v0] with
       |none=>simp[h0] at h
       |some y0=>
         cases h1:DataW.trod enc P w base spare held n e [v1] with
         |none=>simp[h0,h1] at h
         |some y1=>
           simp[h0,h1] at h
           exact⟨v0,v1,y0,y1,n,rfl,h.symm,h0,h1⟩
   · rw[if_neg hl] at h;cases h
theorem qS{P:Program}{t e:TypeId}(ht:P.underlying t=some (.array 2 e))(he:P.underlying e=some (.int .i64))(hce:P.cellsOf e=1)(hct:P.cellsOf t=2):qQ (Int×Int) P t:=by
 intro H enc w fuel cs x h
 obtain⟨v0,v1,y0,y1,n,rfl,_,h0,h1⟩:=lY ht hce hct h
 obtain⟨a,ha⟩:=nA he enc w n [v0] y0 h0
 obtain⟨b,hb⟩:=nA he enc w n [v1] y1 h1
 exact⟨(a,b),[v0],[v1],rfl,ha,hb⟩
theorem oR{α:Type}[Rp α][Inhabited α]{P:Program}{t e:TypeId}(ht:P.underlying t=some (.slice e))(hc:P.cellsOf e=Rp.sz α)(hz:0<Rp.sz α)(he:qQ α P e)
    {H:Type}{enc:TypeId×Value->H}{w:World}{f:DataW H->Nat}(hf:mK f){fuel:Nat}{v:Value}{x:DataW H×List MemPlace}
    (hs:∀a len cap,v= .slice (some a) len cap->a.spot=none)(h:DataW.trod enc P w 0 (λ_=>true) true fuel t [v]=some x)(hb:f x.1<=1048576):∃xs:List α,Ro w v xs:=by
  rcases Deep.open_slice ht h with⟨h0,_⟩|⟨a,len,cap,m,n,D,Pl,h0,_,hlc,_,hm,rfl,hx⟩
  · obtain rfl:v= .slice none 0 0:=by simpa using h0
    exact⟨[],.inl ⟨⟨_,rfl⟩,rfl⟩⟩
  · obtain rfl:v= .slice (some a) len cap:=by simpa using h0
    have hsp:=hs a len cap rfl
    obtain⟨b,off,spot⟩:=a
    obtain rfl:spot=none:=hsp
    simp only[if_true] at hm
    subst hm
    obtain⟨Y,hY⟩:=Deep.choose_lt (α:=α) (n:=len) (p:=λi y=>∃cs,(∀j,j<Rp.sz α->w.cell? ⟨b,off+i*Rp.sz α+j,none⟩=cs[j]?)/\Rp.rep c0 any w cs y) (λi hi=>by
      obtain⟨cs',h1,h2⟩:=hx i (by omega)
      obtain⟨y,hy⟩:=he enc w n cs' _ h2
      refine⟨y,cs',λj hj=>?_,hy⟩
      obtain⟨_,hl,hcell⟩:=World.cells?_some h1
      have:=hcell j (by omega)
      rw[Deep.add_add,hc] at this
      rw[<-this]
      unfold Addr.add
      by_cases hij:i*Rp.sz α+j=0
      · rw[if_pos hij,Nat.add_assoc,hij];rfl
      · rw[if_neg hij,Nat.add_assoc])
    have hlen:((List.range len).map Y).length=len:=by simp
    have hbound:=Nat.le_trans (hf.slice _ _) hb
    refine⟨(List.range len).map Y,.inr ⟨b,off,m,by rw[hlen],⟨by omega,by simp at hbound;omega⟩,λi y hi=>?_⟩⟩
    have hil:i<len:=by
      have:=(List.getElem?_eq_some_iff.1 hi).1
      omega
    obtain rfl:Y i=y:=by simpa[hil] using hi
    obtain⟨cs,h1,h2⟩:=hY i hil
    refine⟨?_,trivial,cs,h1,h2⟩
    have h3:=h1 0 hz
    have h4:=Rp.len h2
    have h5:0<cs.length:=by omega
    rw[List.getElem?_eq_getElem h5] at h3
    by_cases hbl:b<w.heap.size
    · exact hbl
    · have:w.heap[b]? =none:=Array.getElem?_eq_none (by omega)
      simp[World.cell?,this] at h3
theorem kU{P:Program}{w:World}{base:Nat}{t e:TypeId}{v:Value}(ht:P.underlying t=some (.slice e))(h:Cell.okWide P w .any base t v):∀a len cap,v= .slice (some a) len cap->a.spot=none:=by
 rintro a len cap rfl
 simp only[Cell.okWide,Cell.ok,ht] at h
 exact h.2.2.2.1
theorem r5{α:Type}[Rp α][Inhabited α]{P:Program}{t t0 t1 e:TypeId}{f0 f1:Field}(hs:P.underlying t=some (.struct #[f0,f1]))(hone:oneCellFields P #[f0,f1]=true)(hC:P.cellsOf t=2)(hts:P.cellTypes P.depth t=some [t0,t1])
    (h0:f0.type=t0)(h1:f1.type=t1)(hi:P.underlying t0=some (.int .i64))(ht:P.underlying t1=some (.slice e))(hc:P.cellsOf e=Rp.sz α)(hz:0<Rp.sz α)(he:qQ α P e)
    {H:Type}{enc:TypeId×Value->H}{w:World}{f:DataW H->Nat}(hf:mK f){base:Nat}{v:Value}{d:DataW H}{p:List MemPlace}
    (hval:Value.okWide P w .any base t v)(h:DataW.Trod enc P w 0 (λ_=>true) true t v d p)(hb:f d<=1048576):∃(n:Int) (u:Value) (xs:List α),v= .agg #[.int .i64 n,u]/\Ro w u xs:=by
  obtain⟨v0,v1,y0,y1,n,rfl,rfl,rfl,r0,r1⟩:=open_agg2 hs hone hC hval h
  subst h0 h1
  obtain⟨k,hk,_,_⟩:=DataW.trod_int hi r0
  obtain rfl:v0= .int .i64 k:=by simpa using hk
  have hcell:Cell.okWide P w .any base f1.type v1:=by
    simp only[Value.okWide,hs] at hval
    obtain⟨cs,hcs,_,ts,h3,_,h4⟩:=hval
    rw[hts] at h3
    obtain rfl:=Option.some.inj h3
    obtain rfl: #[Value.int .i64 k,v1]=cs:=by simpa using hcs
    obtain⟨u,hu,hk⟩:=h4 1 v1 rfl
    simp at hu
    subst hu
    exact hk
  obtain⟨xs,hx⟩:=oR ht hc hz he hf (kU ht hcell) (x:=y1) r1 (Nat.le_trans (hf.part _ _ (by simp)) hb)
  exact⟨k,v1,xs,rfl,hx⟩
end TL
/-
  TlCyc: lists gone round: what stands behind what; rotations turned, and moved.
  By an AI agent.
-/
set_option linter.all false
namespace TL
def tO(l:List Int)(h:Int):Int:=gI l ((((l.idxOf h:Nat):Int)+1)%(l.length:Int))
section
variable{g:bw}{r:gU}{to:List Int}
end
end TL
/-
  TlJudge4: directions around a point; a plot turned by a quarter; the example's rotation.
  By an AI agent.
-/
set_option linter.all false
namespace TL
section
variable{u v w:Pt}
end
section
variable{p:k9}{o:Pt}{l:List Int}
end
section
variable{u v:Pt}{i k:Int}
def sU(u:Pt):Prop:=0<=u.1/\0<u.2
instance (u:Pt):Decidable (sU u):=by unfold sU;infer_instance
end
section
variable{o:Pt}{ps:List Pt}
end
end TL
/-
  TlJTr: plots moved as a whole: their flaws.
  By an AI agent.
-/
set_option linter.all false
namespace TL
section
variable{T:Pt->Pt}{D:Pt->Prop}{g:bw}{p:k9}{l a b but:List Pt}{q:Pt}{i k:Nat}
end
section
variable{g:bw}{p:k9}
end
def sN(p:k9):Nat->Int
 |0=>(p.1.length:Int)
 |k+1=>sN p k+((gI p.2 (k:Int)).length:Int)+1
def qi(g:bw)(p:k9):Prop:=sN p p.2.length<=400/\(¬aV g\/g.1<=30/\(g.2.length:Int)<=40)
instance (g:bw)(p:k9):Decidable (qi g p):=by unfold qi;infer_instance
end TL
namespace TL
section
variable{g:bw}{p:k9}{l r:List Pt}{L:List (List Pt)}{k e:Nat}
end
end TL
namespace TL
section
variable{α:Type}[Inhabited α][DecidableEq α]{a b:List α}{k:Nat}
end
section
variable{g:bw}{p:k9}{n:Int}{e:Nat}
end
end TL
/-
  TlWord: words and bytes in memory (a list of uint64, a list of uint8), and how a statement's argument of them is opened.
  By an AI agent.
-/
set_option linter.all false
namespace TL
open Go Go.Proofs Go.ChangeShapes Go.WideShapes Go.Joins Go.Deep
structure Wd where
  n:Nat
  lt:n<18446744073709551616
instance:Inhabited Wd:=⟨⟨0,by decide⟩⟩
instance:Rp Wd where
 sz:=1
 rep _ _ _ cs x:=cs=[.int .u64 (x.n:Int)]
 len h:=by subst h;rfl
 one h:=by subst h;simp[Value.oneCell']
 tr _ _ h:=h
instance:Fl Wd where
 cells x:=[.int .u64 (x.n:Int)]
 rep_iff:=Iff.rfl
structure Bt where
  n:Nat
  lt:n<256
instance:Inhabited Bt:=⟨⟨0,by decide⟩⟩
instance:Rp Bt where
 sz:=1
 rep _ _ _ cs x:=cs=[.int .u8 (x.n:Int)]
 len h:=by subst h;rfl
 one h:=by subst h;simp[Value.oneCell']
 tr _ _ h:=h
instance:Fl Bt where
 cells x:=[.int .u8 (x.n:Int)]
 rep_iff:=Iff.rfl
end TL
namespace TL
open Go Go.Proofs Go.ChangeShapes Go.WideShapes Go.Joins Go.Deep
end TL
namespace TL
open Go
end TL
/-
  TlDij3: lengths of small whole weights: one way and another compared.
  By an AI agent.
-/
set_option linter.all false
namespace TL
variable{g g1 g2:bw}{ws w1 w2:List Nat}{s s1 s2:Int}{far f1 f2:List Nat}{by_ b1 b2:List Int}{rk r1 r2:Int->Nat}{C:Nat}
def dz(h:Int):Int:=if h%2=0 then h+1 else h-1
theorem cH{h:Int}(hh:hf g h):hf g (dz h)/\dz h/2=h/2/\aq g (dz h)=b9 g h/\b9 g (dz h)=aq g h:=by
 have h0:=hh.1
 have h1:=hh.2
 have e1:dz h/2=h/2:=by unfold dz;split<;>omega
 have e2:dz h%2=1-h%2:=by unfold dz;split<;>omega
 refine⟨⟨by unfold dz;split<;>omega,by unfold dz;split<;>omega⟩,e1,?_,?_⟩
 · unfold aq b9;rw[e1,e2]
 · unfold aq b9;rw[e1,e2,show 1-(1-h%2)=h%2 by omega]
end TL
namespace TL
end TL
/-
  TlBlk4: the walk that finds blocks, one way of a step at a time; the loop that looks for an edge on the stack.
  By an AI agent.
-/
set_option linter.all false
namespace TL
variable{g:bw}{R:Bs}{pl lo by_ nx:List Int}{fo:Int}{ed:List Int}{la:List Bool}{bl:List Int}{co:Int}{path:List Int}{u hh:Int}
theorem ep.via{s s':Bs}{path path':List Int}(hm:aV g)(h:ep g R s path)(hp:0<(path.length:Int))(hu:u=gI path ((path.length:Int)-1))(e:d8 g s path u=(s',path')):ep g R s' path'/\bA g s' path'<bA g s path:=by
 have:=h.step hm (λk=>by rw[k] at hp;simp at hp) hu
 rw[e] at this;exact this
abbrev bs(pl lo by_ nx:List Int)(fo:Int)(ed:List Int)(la:List Bool)(bl:List Int)(co:Int):Bs:=⟨pl,lo,by_,nx,fo,ed,la,bl,co⟩
theorem ep.skip(hm:aV g)(h:ep g R (bs pl lo by_ nx fo ed la bl co) path)(hp:0<(path.length:Int))(hu:u=gI path ((path.length:Int)-1))(hn:¬gI nx u=((gI (ar g) u).length:Int))(eh:gI (gI (ar g) u) (gI nx u)=hh)(hl:gI la (hh/2)=true):
    ep g R (bs pl lo by_ (nx.set u.toNat (gI nx u+1)) fo ed la bl co) path/\bA g (bs pl lo by_ (nx.set u.toNat (gI nx u+1)) fo ed la bl co) path<bA g (bs pl lo by_ nx fo ed la bl co) path:=by
  refine h.via hm hp hu ?_
  unfold d8
  rw[if_neg hn]
  simp only[eh]
  unfold dB
  rw[if_pos hl];rfl
theorem ep.loop(hm:aV g)(h:ep g R (bs pl lo by_ nx fo ed la bl co) path)(hp:0<(path.length:Int))(hu:u=gI path ((path.length:Int)-1))(hn:¬gI nx u=((gI (ar g) u).length:Int))(eh:gI (gI (ar g) u) (gI nx u)=hh)(hl:¬gI la (hh/2)=true)(hw:b9 g hh=u):
    ep g R (dq (bs pl lo by_ (nx.set u.toNat (gI nx u+1)) fo (ed++[hh/2]) (la.set (hh/2).toNat true) bl co) (hh/2)) path/\bA g (dq (bs pl lo by_ (nx.set u.toNat (gI nx u+1)) fo (ed++[hh/2]) (la.set (hh/2).toNat true) bl co) (hh/2)) path<bA g (bs pl lo by_ nx fo ed la bl co) path:=by
  refine h.via hm hp hu ?_
  unfold d8
  rw[if_neg hn]
  simp only[eh]
  unfold dB
  rw[if_neg hl,if_pos hw];rfl
theorem ep.new(hm:aV g)(h:ep g R (bs pl lo by_ nx fo ed la bl co) path)(hp:0<(path.length:Int))(hu:u=gI path ((path.length:Int)-1))(hn:¬gI nx u=((gI (ar g) u).length:Int))(eh:gI (gI (ar g) u) (gI nx u)=hh)(hl:¬gI la (hh/2)=true){w:Int}(ew:b9 g hh=w)(hw:¬w=u)(hz:gI pl w=0):
    ep g R (bs (pl.set w.toNat (fo+1)) (lo.set w.toNat (fo+1)) (by_.set w.toNat hh) (nx.set u.toNat (gI nx u+1)) (fo+1) (ed++[hh/2]) (la.set (hh/2).toNat true) bl co) (path++[w])/\bA g (bs (pl.set w.toNat (fo+1)) (lo.set w.toNat (fo+1)) (by_.set w.toNat hh) (nx.set u.toNat (gI nx u+1)) (fo+1) (ed++[hh/2]) (la.set (hh/2).toNat true) bl co) (path++[w])<bA g (bs pl lo by_ nx fo ed la bl co) path:=by
  subst ew
  refine h.via hm hp hu ?_
  unfold d8
  rw[if_neg hn]
  simp only[eh]
  unfold dB
  rw[if_neg hl,if_neg hw,if_pos hz];rfl
theorem ep.back(hm:aV g)(h:ep g R (bs pl lo by_ nx fo ed la bl co) path)(hp:0<(path.length:Int))(hu:u=gI path ((path.length:Int)-1))(hn:¬gI nx u=((gI (ar g) u).length:Int))(eh:gI (gI (ar g) u) (gI nx u)=hh)(hl:¬gI la (hh/2)=true){w:Int}(ew:b9 g hh=w)(hw:¬w=u)(hz:¬gI pl w=0):
    ep g R (bs pl (lo.set u.toNat (min (gI lo u) (gI pl w))) by_ (nx.set u.toNat (gI nx u+1)) fo (ed++[hh/2]) (la.set (hh/2).toNat true) bl co) path/\bA g (bs pl (lo.set u.toNat (min (gI lo u) (gI pl w))) by_ (nx.set u.toNat (gI nx u+1)) fo (ed++[hh/2]) (la.set (hh/2).toNat true) bl co) path<bA g (bs pl lo by_ nx fo ed la bl co) path:=by
  subst ew
  refine h.via hm hp hu ?_
  unfold d8
  rw[if_neg hn]
  simp only[eh]
  unfold dB
  rw[if_neg hl,if_neg hw,if_neg hz];rfl
theorem ep.off0(hm:aV g)(h:ep g R (bs pl lo by_ nx fo ed la bl co) path)(hp:0<(path.length:Int))(hu:u=gI path ((path.length:Int)-1))(hn:gI nx u=((gI (ar g) u).length:Int))(hb:gI by_ u<0):
    ep g R (bs pl lo by_ nx fo ed la bl co) path.dropLast/\bA g (bs pl lo by_ nx fo ed la bl co) path.dropLast<bA g (bs pl lo by_ nx fo ed la bl co) path:=by
  refine h.via hm hp hu ?_
  unfold d8
  rw[if_pos hn]
  unfold di
  rw[if_pos hb]
theorem ep.off1(hm:aV g)(h:ep g R (bs pl lo by_ nx fo ed la bl co) path)(hp:0<(path.length:Int))(hu:u=gI path ((path.length:Int)-1))(hn:gI nx u=((gI (ar g) u).length:Int))(hb:¬gI by_ u<0){q:Int}(eq:aq g (gI by_ u)=q){lo':List Int}(el:lo'=lo.set q.toNat (min (gI lo q) (gI lo u)))(hc:¬gI pl q<=gI lo' u):
    ep g R (bs pl lo' by_ nx fo ed la bl co) path.dropLast/\bA g (bs pl lo' by_ nx fo ed la bl co) path.dropLast<bA g (bs pl lo by_ nx fo ed la bl co) path:=by
  subst eq el
  refine h.via hm hp hu ?_
  unfold d8
  rw[if_pos hn]
  unfold di
  rw[if_neg hb]
  simp only
  rw[if_neg hc]
theorem ep.off2(hm:aV g)(h:ep g R (bs pl lo by_ nx fo ed la bl co) path)(hp:0<(path.length:Int))(hu:u=gI path ((path.length:Int)-1))(hn:gI nx u=((gI (ar g) u).length:Int))(hb:¬gI by_ u<0){q:Int}(eq:aq g (gI by_ u)=q){lo':List Int}(el:lo'=lo.set q.toNat (min (gI lo q) (gI lo u)))(hc:gI pl q<=gI lo' u):
    ep g R (dq (bs pl lo' by_ nx fo ed la bl co) (gI by_ u/2)) path.dropLast/\bA g (dq (bs pl lo' by_ nx fo ed la bl co) (gI by_ u/2)) path.dropLast<bA g (bs pl lo by_ nx fo ed la bl co) path:=by
  subst eq el
  refine h.via hm hp hu ?_
  unfold d8
  rw[if_pos hn]
  unfold di
  rw[if_neg hb]
  simp only
  rw[if_pos hc]
theorem ep.loop1(hm:aV g)(h:ep g R (bs pl lo by_ nx fo ed la bl co) path)(hp:0<(path.length:Int))(hu:u=gI path ((path.length:Int)-1))(hn:¬gI nx u=((gI (ar g) u).length:Int))(eh:gI (gI (ar g) u) (gI nx u)=hh)(hl:¬gI la (hh/2)=true)(hw:b9 g hh=u){s':Bs}(hc:dq (bs pl lo by_ (nx.set u.toNat (gI nx u+1)) fo (ed++[hh/2]) (la.set (hh/2).toNat true) bl co) (hh/2)=s'):
   ep g R s' path/\bA g s' path<bA g (bs pl lo by_ nx fo ed la bl co) path:=by
 subst hc;exact h.loop hm hp hu hn eh hl hw
theorem ep.off3(hm:aV g)(h:ep g R (bs pl lo by_ nx fo ed la bl co) path)(hp:0<(path.length:Int))(hu:u=gI path ((path.length:Int)-1))(hn:gI nx u=((gI (ar g) u).length:Int))(hb:¬gI by_ u<0){q:Int}(eq:aq g (gI by_ u)=q){lo':List Int}(el:lo'=lo.set q.toNat (min (gI lo q) (gI lo u)))(hc:gI pl q<=gI lo' u){s':Bs}(hcl:dq (bs pl lo' by_ nx fo ed la bl co) (gI by_ u/2)=s'):
   ep g R s' path.dropLast/\bA g s' path.dropLast<bA g (bs pl lo by_ nx fo ed la bl co) path:=by
 subst hcl;exact h.off2 hm hp hu hn hb eq el hc
structure kj(ed:List Int)(x at_:Int):Prop where
  mem:x∈ed
  nd:ed.Nodup
  lo:0<=at_
  hi:at_<ed.length
  no:∀j:Int,at_<j->j<ed.length->gI ed j≠x
theorem kj.start{x:Int}(hn:ed.Nodup)(hx:x∈ed):kj ed x ((ed.length:Int)-1):=by
 have:0<ed.length:=List.length_pos_of_mem hx
 exact⟨hx,hn,by omega,by omega,λj a b=>by omega⟩
theorem kj.next{x at_:Int}(h:kj ed x at_)(hne:¬gI ed at_=x):kj ed x (at_-1)/\1<=at_:=by
 have h1:=h.lo
 have h2:=h.hi
 have hp:1<=at_:=by
   by_cases c:1<=at_
   · exact c
   · exfalso
     obtain⟨i,hi,e⟩:=List.mem_iff_getElem.1 h.mem
     have e2:gI ed (i:Int)=x:=by rw[<-e];simp[gI,hi]
     by_cases k:(i:Int)=at_
     · rw[k] at e2;exact hne e2
     · exact h.no i (by omega) (by omega) e2
 refine⟨⟨h.mem,h.nd,by omega,by omega,λj a b=>?_⟩,hp⟩
 by_cases k:j=at_
 · rw[k];exact hne
 · exact h.no j (by omega) b
theorem kj.done{x at_:Int}(h:kj ed x at_)(he:gI ed at_=x):at_=(ln ed x:Int):=by
 obtain⟨A,B,e1,hA,hB,e2⟩:=mE h.nd h.mem
 have h1:=h.lo
 have h2:=h.hi
 rw[e2]
 have hl:ed.length=A.length+1+B.length:=by rw[e1];simp;omega
 have hA2:gI ed (A.length:Int)=x:=by rw[e1];simp[gI]
 rcases Int.lt_trichotomy at_ A.length with c|c|c
 · exact absurd hA2 (h.no _ c (by omega))
 · exact c
 · exfalso
   obtain⟨k,rfl⟩:∃k:Nat,at_=k:=⟨at_.toNat,by omega⟩
   have hk:k<ed.length:=by omega
   have e3:gI ed (k:Int)=ed[k]:=by simp[gI,hk]
   have:ed[k]∈B:=by
     have hk2:k-(A.length+1)<B.length:=by omega
     have e4:ed[k]=B[k-(A.length+1)]:=by
       have:ed[k]? =B[k-(A.length+1)]? :=by
         rw[e1,List.getElem?_append_right (by omega),List.getElem?_cons,if_neg (by omega)]
         congr 1
       rw[List.getElem?_eq_getElem hk,List.getElem?_eq_getElem hk2] at this
       exact Option.some.inj this
     rw[e4];exact List.getElem_mem hk2
   rw[e3] at he
   rw[he] at this
   exact hB this
end TL
namespace TL
open Go
theorem qe(n:Nat):n^^^1=if n%2=0 then n+1 else n-1:=by
 have h1:(n^^^1)%2=(n+1)%2:=by
   have:= @Nat.xor_mod_two_eq_one n 1
   by_cases c:(n^^^1)%2=1
   · have:=this.1 c;omega
   · have h3:¬¬(n%2=1↔1%2=1):=λk=>c (this.2 k)
     have h4:=Decidable.not_not.1 h3
     have:n%2=1:=h4.2 rfl
     omega
 have h2:(n^^^1)/2=n/2:=by rw[Nat.xor_div_two];simp
 split<;>omega
theorem gL{m:Int}(t:TypeId)(h0:0<=m)(h1:m<4611686018427387904):binOp .xor t (.int .i64 m) (.int .i64 1)=pure (.int .i64 (dz m)):=by
 obtain⟨n,rfl⟩:=Int.eq_ofNat_of_zero_le h0
 have hn:n<4611686018427387904:=by omega
 have e:(BitVec.ofInt 64 (n:Int)^^^BitVec.ofInt 64 1).toNat=n^^^1:=by
   rw[BitVec.toNat_xor]
   have e1:(BitVec.ofInt 64 (n:Int)).toNat=n:=by
     rw[BitVec.toNat_ofInt];omega
   have e2:(BitVec.ofInt 64 (1:Int)).toNat=1:=by decide
   rw[e1,e2]
 have h3:(((n^^^1:Nat)):Int)=dz (n:Int):=by
   rw[qe];unfold dz
   split<;>split<;>omega
 show(pure (Value.int .i64 (IntKind.i64.wrap ((BitVec.ofInt 64 (n:Int)^^^BitVec.ofInt 64 1).toNat:Int))):Sem Value)=_
 rw[e,h3,i6]
 unfold dz;unfold qJ;split<;>omega
end TL
namespace TL
variable{g:bw}{s:Bs}{path:List Int}
theorem kz(h:dH g s path):0<=s.found/\s.found<=g.1/\0<=s.count/\s.count+(s.edges.length:Int)<=(g.2.length:Int):=by
  have h1:=h.fn
  have h2:=h.cl
  have h3:s.laid.count true<=s.laid.length:=List.count_le_length
  have h4:=h.l5
  exact⟨h.f0,by omega,h.ct,by omega⟩
theorem nK{l:List Int}{n q:Nat}(h:l=List.replicate q (-1)++List.replicate (n-q) 0)(hq:q<=n):l.length=n:=by
 rw[h];simp;omega
theorem lV{l:List Int}{n q:Nat}(h:l=List.replicate q (-1)++List.replicate (n-q) 0)(hq:q<n):l.set (Int.toNat (q:Int)) (-1)=List.replicate (q+1) (-1)++List.replicate (n-(q+1)) 0:=by
 rw[h,Int.toNat_natCast,List.set_append_right _ _ (by simp)]
 simp only[List.length_replicate,Nat.sub_self]
 rw[show n-q=(n-(q+1))+1 by omega,List.replicate_succ,List.set_cons_zero,List.replicate_succ',List.append_assoc]
 rfl
def mw(L bl:List Int)(co:Int)(k:Nat):List Int:=(L.take k).foldl (λb x=>b.set x.toNat co) bl
theorem nk{L bl:List Int}{co:Int}:bl=mw L bl co 0:=rfl
theorem js{L bl b:List Int}{co:Int}{k:Nat}(h:b=mw L bl co k):b.length=bl.length:=by rw[h];unfold mw;exact k7 _ _ _
theorem im{L bl b:List Int}{co:Int}{k:Nat}(h:b=mw L bl co k)(hk:(k:Int)<L.length):b.set (gI L (k:Int)).toNat co=mw L bl co (k+1):=by
 have hk':k<L.length:=by omega
 unfold mw at*
 rw[List.take_succ_eq_append_getElem hk',List.foldl_append,<-h]
 have e:gI L (k:Int)=L[k]:=by simp[gI,hk']
 rw[e];rfl
theorem eJ{pl lo by_ nx:List Int}{fo:Int}{ed:List Int}{la:List Bool}{bl:List Int}{co x at_:Int}{bk:List Int}{k:Nat}(ha:kj ed x at_)(he:gI ed at_=x)(hb:bk=mw (List.drop (Int.toNat at_) (List.take (Int.toNat (ed.length:Int)) ed)) bl co k)
   (hk:¬(k:Int)<((List.drop (Int.toNat at_) (List.take (Int.toNat (ed.length:Int)) ed)).length:Int))(hk2:(k:Int)<=((List.drop (Int.toNat at_) (List.take (Int.toNat (ed.length:Int)) ed)).length:Int)):
   dq (bs pl lo by_ nx fo ed la bl co) x=bs pl lo by_ nx fo (ed.take (Int.toNat at_)) la bk (co+1):=by
 have e:=ha.done he
 have el:List.drop (Int.toNat at_) (List.take (Int.toNat (ed.length:Int)) ed)=ed.drop (ln ed x):=by
   rw[e,Int.toNat_natCast,Int.toNat_natCast,List.take_length]
 rw[el] at hb hk hk2
 have hk3:k=(ed.drop (ln ed x)).length:=by omega
 unfold dq
 rw[hb]
 unfold mw
 rw[hk3,List.take_length,e,Int.toNat_natCast]
theorem da{path:List Int}:List.take (Int.toNat ((path.length:Int)-1)) path=path.dropLast:=by
 rw[List.dropLast_eq_take];congr 1;omega
theorem nw{s s':Bs}{v:Nat}(h:s=cO g v)(hp:gI s.place (v:Int)=0)(hR:s'=dp g s (v:Int)):s'=cO g (v+1):=by
 rw[gJ,<-h,if_pos hp];exact hR
theorem pE{s:Bs}{v:Nat}(h:s=cO g v)(hp:¬gI s.place (v:Int)=0):s=cO g (v+1):=by
 rw[gJ,<-h,if_neg hp]
end TL
namespace TL
variable{g:bw}{of o:List Int}{c:List Bool}{k:Nat}
structure fL(of:List Int)(g:bw)(o:List Int)(c:List Bool)(k:Nat):Prop where
  eq:(o,c)=eB of g k
  lo:(o.length:Int)=g.1
  lc:(c.length:Int)=g.1
theorem nm{pl lo by_ nx:List Int}{fo:Int}{ed:List Int}{la:List Bool}{bl:List Int}{co:Int}{path:List Int}{O:List (List Int)}{u:Int}(h:dH g (bs pl lo by_ nx fo ed la bl co) path)(hO:O=ar g)(hp:0<(path.length:Int))(hu:gI path ((path.length:Int)-1)=u):
    ((0<=u/\u<g.1)/\(0<=gI nx u/\gI nx u<=((gI O u).length:Int)))/\(gI by_ u= -1\/(0<=gI by_ u/\gI by_ u<2*(g.2.length:Int))):=by
  have hm:=h.pr _ (bP (xs:=path) (i:=(path.length:Int)-1) (by omega) (by omega))
  rw[hu] at hm
  rw[hO]
  refine⟨⟨hm.1,h.nx _ hm.1.1 hm.1.2⟩,?_⟩
  rcases h.by_ _ hm.1.1 hm.1.2 with k|k
  · exact .inl k
  · exact .inr k.1
theorem nz{pl lo by_ nx:List Int}{fo:Int}{ed:List Int}{la:List Bool}{bl:List Int}{co:Int}{path:List Int}{O:List (List Int)}{u:Int}(hm:aV g)(h:dH g (bs pl lo by_ nx fo ed la bl co) path)(hO:O=ar g)(u0:0<=u)(u1:u<g.1)(hn:¬gI nx u=((gI O u).length:Int)):
   (0<=gI (gI O u) (gI nx u)/\gI (gI O u) (gI nx u)<2*(g.2.length:Int))/\(0<=b9 g (gI (gI O u) (gI nx u))/\b9 g (gI (gI O u) (gI nx u))<g.1):=by
 obtain⟨n0,n1⟩:=h.nx u u0 u1
 rw[hO] at hn ⊢
 have hin:gI (gI (ar g) u) (gI nx u)∈gI (ar g) u:=bP n0 (by
   have n1':gI nx u<=((gI (ar g) u).length:Int):=n1
   omega)
 rw[dP u0 u1] at hin
 have ho:=(cW hin).1
 rw[<-dP u0 u1] at ho
 exact⟨ho,dF hm ho.1 ho.2⟩
theorem fL.start(h0:0<=g.1):fL of g (List.replicate (Int.toNat g.1) 0) (List.replicate (Int.toNat g.1) false) 0:=⟨rfl,by simp;omega,by simp;omega⟩
theorem fL.next(h:fL of g o c k){v e b:Int}{bb:Bool}(hv:aq g (k:Int)=v)(he:(k:Int)/2=e)(hb:b=gI of e+1)(hbb:bb=(gI c v||(decide (0<gI o v)&& !decide (gI o v=gI of e+1)))):fL of g (o.set (Int.toNat v) b) (c.set (Int.toNat v) bb) (k+1):=by
 subst hv he hb hbb
 refine⟨?_,by rw[List.length_set];exact h.lo,by rw[List.length_set];exact h.lc⟩
 unfold eB
 rw[ck,List.foldl_append]
 show _=q5 of g (eB of g k) (k:Int)
 rw[<-h.eq];rfl
theorem fL.two(h:fL of g o c (2*k)){v v2 b b2:Int}{bb bb2:Bool}(hv:(gI g.2 (k:Int)).1=v)(hv2:(gI g.2 (k:Int)).2=v2)(hb:b=gI of (k:Int)+1)(hbb:bb=(gI c v||(decide (0<gI o v)&& !decide (gI o v=gI of (k:Int)+1))))(hb2:b2=gI of (k:Int)+1)(hbb2:bb2=(gI (c.set (Int.toNat v) bb) v2||(decide (0<gI (o.set (Int.toNat v) b) v2)&& !decide (gI (o.set (Int.toNat v) b) v2=gI of (k:Int)+1)))):
   fL of g ((o.set (Int.toNat v) b).set (Int.toNat v2) b2) ((c.set (Int.toNat v) bb).set (Int.toNat v2) bb2) (2*(k+1)):=by
 have e1:((2*k:Nat):Int)/2=(k:Int):=by omega
 have e2:((2*k+1:Nat):Int)/2=(k:Int):=by omega
 have f1:aq g ((2*k:Nat):Int)=v:=by
   rw[<-hv];unfold aq;rw[e1,show((2*k:Nat):Int)%2=0 by omega];rfl
 have f2:aq g ((2*k+1:Nat):Int)=v2:=by
   rw[<-hv2];unfold aq;rw[e2,show((2*k+1:Nat):Int)%2=1 by omega];rfl
 exact(h.next f1 e1 hb hbb).next f2 e2 hb2 hbb2
theorem iR{x y:Bool}(h:x=true):true=(x||y):=by rw[h];rfl
theorem iI{x:Bool}{y:Int}{q:Prop}[Decidable q](h:¬x=true)(hp:¬0<y):false=(x||(decide (0<y)&& !decide q)):=by
 rw[decide_eq_false hp];simpa using h
theorem iU{x:Bool}{y:Int}{q:Prop}[Decidable q](h:¬x=true)(hp:0<y):(!decide q)=(x||(decide (0<y)&& !decide q)):=by
 have:x=false:=by simpa using h
 rw[this,decide_eq_true hp];simp
theorem lR{a:List Int}{l:List Bool}{k:Nat}(h:a=(bN k).filter λv=>gI l v):(a.length:Int)<=(k:Int):=by
 have h1:=List.length_filter_le (λv=>gI l v) (bN k)
 have h2:(bN k).length=k:=by simp[bN]
 rw[h];omega
theorem pX{a:List Int}{l:List Bool}{k:Nat}(h:a=(bN k).filter λv=>gI l v)(hk:gI l (k:Int)=true):a++[(k:Int)]=(bN (k+1)).filter λv=>gI l v:=by
 rw[h,ck,List.filter_append];simp[hk]
theorem r7{a:List Int}{l:List Bool}{k:Nat}(h:a=(bN k).filter λv=>gI l v)(hk:¬gI l (k:Int)=true):a=(bN (k+1)).filter λv=>gI l v:=by
 rw[h,ck,List.filter_append];simp[hk]
end TL
namespace TL
variable{g:bw}
theorem oa{pl lo by_ nx:List Int}{fo:Int}{ed:List Int}{la:List Bool}{bl:List Int}{co:Int}{path:List Int}(h0:0<=g.1)(h:dH g (bs pl lo by_ nx fo ed la bl co) path):(path.length:Int)<=g.1:=by
 have:=mQ g.1.toNat path h.pn (λx hx=>by have:=(h.pr x hx).1;omega)
 omega
theorem rN{b:List Int}{q:Nat}(hb:b=List.replicate q (-1)++List.replicate (Int.toNat g.1-q) 0)(hq:(q:Int)=g.1):
   bs (List.replicate (Int.toNat g.1) 0) (List.replicate (Int.toNat g.1) 0) b (List.replicate (Int.toNat g.1) 0) 0 [] (List.replicate (Int.toNat (g.2.length:Int)) false) (List.replicate (Int.toNat (g.2.length:Int)) 0) 0=cO g 0:=by
 have e:q=Int.toNat g.1:=by omega
 subst e
 rw[hb,Nat.sub_self,List.replicate_zero,List.append_nil,Int.toNat_natCast];rfl
theorem gr(g:bw):0<=bJ g/\bJ g<=(g.2.length:Int):=by
 have:=(gP (cO g g.1.toNat).block g.2.length).2
 unfold bJ;omega
theorem pV{b:List Int}(hb:b=(cO g (Int.toNat g.1)).block)(hl:(b.length:Int)=g.2.length):aB b b.length=(aB (cO g g.1.toNat).block g.2.length):=by
 have:b.length=g.2.length:=by omega
 rw[this,hb]
theorem ep.fin{R s:Bs}{path:List Int}(h:ep g R s path)(hp:¬0<(path.length:Int)):s=R:=by
 have e:path=[]:=List.eq_nil_of_length_eq_zero (by omega)
 subst e
 exact h.done
def aa(g:bw):List Int×List Int×Int:=(dl g,bR g,bJ g)
theorem mO{b cu oo:List Int}{cc:List Bool}{j k:Nat}(hnam:aB b b.length=aB (cO g g.1.toNat).block g.2.length)(hcu:cu=(bN j).filter λv=>gI cc v)(hj:(j:Int)=(cc.length:Int))(hci:fL (dl g) g oo cc (2*k))(hk:(k:Int)=(g.2.length:Int)):
   ((aB b b.length).2,cu,((aB b b.length).1.length:Int))=aa g:=by
 have e1:k=g.2.length:=by omega
 have e2:j=g.1.toNat:=by have:=hci.lc;omega
 have e3:cc=(eB (dl g) g (2*g.2.length)).2:=by rw[<-e1,<-hci.eq]
 rw[hnam,hcu,e2,e3];rfl
end TL
/-
  TlBlk5: bridges, and whether a net is biconnected, as the program does it.
  By an AI agent.
-/
set_option linter.all false
namespace TL
variable{g:bw}{of:List Int}{n k:Nat}
theorem r9(l:List Int)(i:Nat)(x b:Int):gI (l.set i x) b=if b.toNat=i/\i<l.length then x else gI l b:=by
 unfold gI
 rw[List.getD_eq_getElem?_getD,List.getD_eq_getElem?_getD,List.getElem?_set]
 by_cases h1:i=b.toNat
 · rw[if_pos h1]
   by_cases h2:i<l.length
   · rw[if_pos h2,if_pos ⟨h1.symm,h2⟩];rfl
   · rw[if_neg h2,if_neg (λh=>h2 h.2),List.getElem?_eq_none (by omega)]
 · rw[if_neg h1,if_neg (λh=>h1 h.1.symm)]
theorem nJ(of:List Int)(n:Nat):∀k:Nat,(k:Int)<=of.length->∀b:Int,0<=gI (eC of n k) b/\gI (eC of n k) b<=k
 |0,_,b=>by
   have:gI (eC of n 0) b=0:=by
     show gI (List.replicate n (0:Int)) b=0
     by_cases c:b.toNat<n
     · simp[gI,c]
     · simp[gI,c]
   omega
 |k+1,hk,b=>by
   have ih:=nJ of n k (by omega)
   rw[ky (by omega),r9]
   have h1:=ih (gI of (k:Int))
   have h2:=ih b
   split<;>omega
theorem lQ{l:List Int}(h:l=cR g k):(l.length:Int)<=k:=by
 have h1:=List.length_filter_le (λe=>decide (gI (eC (dl g) (bJ g).toNat g.2.length) (gI (dl g) e)=1)&& !decide ((gI g.2 e).1=(gI g.2 e).2)) (bN k)
 have h2:(bN k).length=k:=by simp[bN]
 rw[h]
 show(((bN k).filter _).length:Int)<=k
 omega
theorem pU{l size:List Int}{j:Nat}(hs:size=eC (aa g).1 (Int.toNat (aa g).2.2) k)(hk:(k:Int)=g.2.length)(hl:l=cR g j)(q:gI size (gI (aa g).1 (j:Int))=1)(p:¬(gI g.2 (j:Int)).1=(gI g.2 (j:Int)).2):l++[(j:Int)]=cR g (j+1):=by
 have e:k=g.2.length:=by omega
 subst e
 rw[mh (decide_eq_true (by rw[hs] at q;exact q)) p,hl]
theorem nT{l size:List Int}{j:Nat}(hs:size=eC (aa g).1 (Int.toNat (aa g).2.2) k)(hk:(k:Int)=g.2.length)(hl:l=cR g j)(q:¬gI size (gI (aa g).1 (j:Int))=1\/(gI g.2 (j:Int)).1=(gI g.2 (j:Int)).2):l=cR g (j+1):=by
 have e:k=g.2.length:=by omega
 subst e
 rw[n3 (q.imp_left λh=>by rw[hs] at h;exact h),hl]
def mS(g:bw)(k:Nat):List Bool:=(g.2.take k).foldl (λb e=>(b.set e.1.toNat true).set e.2.toNat true) (List.replicate g.1.toNat false)
structure kd(g:bw)(at_:List Bool)(k:Nat):Prop where
 eq:at_=mS g k
 lo:(at_.length:Int)=g.1
 no:∀j:Int,0<=j->j<k->¬(gI g.2 j).1=(gI g.2 j).2
theorem kd.start(h0:0<=g.1):kd g (List.replicate (Int.toNat g.1) false) 0:=⟨rfl,by simp;omega,λj a b=>by omega⟩
theorem kd.next{at_:List Bool}(h:kd g at_ k)(hk:(k:Int)<g.2.length)(hn:¬(gI g.2 (k:Int)).1=(gI g.2 (k:Int)).2):kd g ((at_.set (Int.toNat (gI g.2 (k:Int)).1) true).set (Int.toNat (gI g.2 (k:Int)).2) true) (k+1):=by
 have hk':k<g.2.length:=by omega
 refine⟨?_,by simp only[List.length_set];exact h.lo,λj a b=>?_⟩
 · unfold mS
   rw[List.take_succ_eq_append_getElem hk',List.foldl_append]
   have e:gI g.2 (k:Int)=g.2[k]:=by simp[gI,hk']
   rw[e,h.eq];rfl
 · by_cases c:j=(k:Int)
   · rw[c];exact hn
   · exact h.no j a (by omega)
def cJ(g:bw):Bool:=decide (2<=g.1/\(∀e∈g.2,¬e.1=e.2)/\¬false∈mS g g.2.length/\bJ g=1)
theorem lX(h:g.1<2):false=cJ g:=by
 unfold cJ;rw[decide_eq_false];rintro⟨a,_⟩;omega
theorem mC(hk:(k:Int)<g.2.length)(h:(gI g.2 (k:Int)).1=(gI g.2 (k:Int)).2):false=cJ g:=by
 unfold cJ;rw[decide_eq_false];rintro⟨_,a,_⟩
 exact a _ (bP (xs:=g.2) (i:=(k:Int)) (by omega) hk) h
theorem ou{at_:List Bool}(h:kd g at_ k)(hk:k=g.2.length)(hf:false∈at_):false=cJ g:=by
 subst hk
 unfold cJ;rw[decide_eq_false];rintro⟨_,_,a,_⟩
 rw[h.eq] at hf;exact a hf
theorem qn{at_:List Bool}(h:kd g at_ k)(hk:k=g.2.length)(h2:¬g.1<2)(hf:¬false∈at_):decide ((aa g).2.2=1)=cJ g:=by
 subst hk
 unfold cJ
 rw[decide_eq_decide]
 refine⟨λhc=>⟨by omega,λe he=>?_,by rw[<-h.eq];exact hf,hc⟩,λhc=>hc.2.2.2⟩
 obtain⟨i,hi,rfl⟩:=List.mem_iff_getElem.1 he
 have:=h.no (i:Int) (by omega) (by omega)
 have e:gI g.2 (i:Int)=g.2[i]:=by simp[gI,hi]
 rwa[e] at this
def cM(g:bw):Bool×Int:=if aV g then(cJ g,0) else(false,1)
def h8(s:List Bool)(v:Bool):Int:=if v∈s then(s.idxOf v:Int) else-1
theorem q9{s:List Bool}{v:Bool}{i:Nat}(h:∀j:Nat,j<i->¬v=gI s (j:Int))(hi:(i:Int)<s.length)(he:v=gI s (i:Int)):(i:Int)=h8 s v:=by
 have hlt:i<s.length:=by omega
 have e:gI s (i:Int)=s[i]:=by simp[gI,hlt]
 have hm:v∈s:=by rw[he];exact bP (by omega) hi
 unfold h8
 rw[if_pos hm]
 have hlt2:=List.idxOf_lt_length_iff.2 hm
 have h1:¬s.idxOf v<i:=λhlt'=>h _ hlt' (by simp[gI,hlt2])
 have h2:¬i<s.idxOf v:=λhlt'=>by
   have:=List.not_of_lt_findIdx (xs:=s) (p:=(· ==v)) (i:=i) hlt'
   simp at this
   exact this (by rw[<-e,<-he])
 omega
theorem r3{s:List Bool}{v:Bool}{i:Nat}(h:∀j:Nat,j<i->¬v=gI s (j:Int))(hi:¬(i:Int)<s.length): -1=h8 s v:=by
 unfold h8
 rw[if_neg]
 intro hm
 obtain⟨j,hj,e⟩:=List.mem_iff_getElem.1 hm
 apply h j (by omega)
 rw[<-e];simp[gI,hj]
theorem oT{l:List Bool}{x:Bool}:decide (0<=h8 l x)=decide (x∈l):=by
 unfold h8
 by_cases h:x∈l
 · rw[if_pos h,decide_eq_true h,decide_eq_true (by omega)]
 · rw[if_neg h,decide_eq_false h];rfl
end TL
/-
  TlBlk6: ears, as the program makes them.
  By an AI agent.
-/
set_option linter.all false
namespace TL
variable{g:bw}{pl by_:List Int}{R ears:List (List Int)}{rest:List (Int×Int)}{u:List Bool}{w v h:Int}{ear:List Int}
def pC(g:bw)(by_:List Int):Nat->List Bool->Int->List Int->Option (List Bool×List Int)
 |0,u,w,ear=>if gI u w=true then some (u,ear) else none
 |n+1,u,w,ear=>if gI u w=true then some (u,ear) else if gI by_ w<0 then none else pC g by_ n (u.set w.toNat true) (b9 g (dz (gI by_ w))) (ear++[dz (gI by_ w)])
def gA(g:bw)(pl by_:List Int):List (Int×Int)->List Bool->List (List Int)->Option (List (List Int))
 |[],_,ears=>some ears
 |(v,h)::r,u,ears=>
   if gI by_ (b9 g h)=h\/gI pl (b9 g h)<gI pl v then gA g pl by_ r u ears
   else match pC g by_ g.1.toNat (u.set v.toNat true) (b9 g h) [h] with
     |none=>none
     |some p=>gA g pl by_ r p.1 (ears++[p.2])
def eH(O:List (List Int))(l:List Int):List (Int×Int):=l.flatMap λv=>(gI O v).map λh=>(v,h)
def jQ(pl:List Int)(n k:Nat):List Int:=(bN k).foldl (λo v=>o.set (gI pl v-1).toNat v) (List.replicate n 0)
def fK(g:bw):Option (List (List Int)):=gA g (cO g g.1.toNat).place (cO g g.1.toNat).by_ (eH (ar g) (jQ (cO g g.1.toNat).place g.1.toNat g.1.toNat)) (List.replicate g.1.toNat false) []
def pQ(g:bw):Prop:=aV g->cJ g=true->2<=g.2.length->(∀v∈bN g.1.toNat,1<=gI (cO g g.1.toNat).place v/\gI (cO g g.1.toNat).place v<=g.1)/\(eH (ar g) (jQ (cO g g.1.toNat).place g.1.toNat g.1.toNat)).length<=100000/\(fK g).isSome=true
def dJ(g:bw):List (List Int)×Int:=if aV g then if cJ g=true then if 2<=g.2.length then((fK g).getD [],0) else([],9) else([],7) else([],1)
structure kR(pl:List Int)(n:Int)(o:List Int)(k:Nat):Prop where
 eq:o=jQ pl (Int.toNat n) k
 lo:(o.length:Int)=n
 rg:∀x∈o,0<=x/\x<n
theorem kR.start{n:Int}(h0:0<n):kR pl n (List.replicate (Int.toNat n) 0) 0:=⟨rfl,by simp;omega,λx hx=>by rw[(List.mem_replicate.1 hx).2];omega⟩
theorem kR.next{n:Int}{o:List Int}{k:Nat}(h:kR pl n o k)(hk:(k:Int)<n):kR pl n (o.set (Int.toNat (gI pl (k:Int)-1)) (k:Int)) (k+1):=by
 refine⟨?_,by rw[List.length_set];exact h.lo,λx hx=>?_⟩
 · unfold jQ
   rw[ck,List.foldl_append,h.eq];rfl
 · rcases List.mem_or_eq_of_mem_set hx with c|c
   · exact h.rg x c
   · rw[c];omega
structure ju(g:bw)(pl by_:List Int)(R:List (List Int))(rest:List (Int×Int))(u:List Bool)(ears:List (List Int)):Prop where
 len:(u.length:Int)=g.1
 run:gA g pl by_ rest u ears=some R
 few:(ears.length:Int)+rest.length<=100000
structure qE(g:bw)(pl by_:List Int)(R:List (List Int))(rest:List (Int×Int))(ears:List (List Int))(u:List Bool)(w:Int)(ear:List Int):Prop where
 len:(u.length:Int)=g.1
 w0:0<=w
 w1:w<g.1
 run:∃f u2 e2,pC g by_ f u w ear=some (u2,e2)/\gA g pl by_ rest u2 (ears++[e2])=some R
 few:(ears.length:Int)+1+rest.length<=100000
 sh:(ear.length:Int)+(u.count false:Int)<=g.1+1
theorem ju.skip(hi:ju g pl by_ R ((v,h)::rest) u ears)(hw:b9 g h=w)(hc:gI by_ w=h\/gI pl w<gI pl v):ju g pl by_ R rest u ears:=by
 subst hw
 have h1:=hi.run
 have h2:=hi.few
 rw[List.length_cons] at h2
 unfold gA at h1
 rw[if_pos hc] at h1
 exact⟨hi.len,h1,by omega⟩
theorem ju.up(hi:ju g pl by_ R ((v,h)::rest) u ears)(hw:b9 g h=w)(hc:¬(gI by_ w=h\/gI pl w<gI pl v))(w0:0<=w)(w1:w<g.1):qE g pl by_ R rest ears (u.set (Int.toNat v) true) w [h]:=by
 subst hw
 have h1:=hi.run
 have h2:=hi.few
 rw[List.length_cons] at h2
 unfold gA at h1
 rw[if_neg hc] at h1
 have hl:=hi.len
 refine⟨by rw[List.length_set];exact hi.len,w0,w1,?_,by omega,?_⟩
 · cases e:pC g by_ g.1.toNat (u.set v.toNat true) (b9 g h) [h] with
   |none=>rw[e] at h1;cases h1
   |some p=>rw[e] at h1;exact⟨_,p.1,p.2,e,h1⟩
 · have:(u.set (Int.toNat v) true).count false<=(u.set (Int.toNat v) true).length:=List.count_le_length
   rw[List.length_set] at this
   simp only[List.length_cons,List.length_nil];omega
theorem qE.byp(hi:qE g pl by_ R rest ears u w ear)(hu:¬gI u w=true):0<=gI by_ w:=by
 obtain⟨f,u2,e2,h1,_⟩:=hi.run
 cases f with
 |zero=>unfold pC at h1;rw[if_neg hu] at h1;cases h1
 |succ f=>
   unfold pC at h1
   rw[if_neg hu] at h1
   by_cases c:gI by_ w<0
   · rw[if_pos c] at h1;cases h1
   · omega
theorem ji{u:List Bool}{w:Int}(w0:0<=w)(w1:w<u.length)(hu:¬gI u w=true):(u.set (Int.toNat w) true).count false+1=u.count false:=by
 have hlt:w.toNat<u.length:=by omega
 have e:u[w.toNat]=false:=by
   have:gI u w=u[w.toNat]:=by simp[gI,hlt]
   rw[this] at hu;simpa using hu
 have hp:0<u.count false:=List.count_pos_iff.2 (e▸List.getElem_mem hlt)
 rw[List.count_set hlt,e]
 simp;omega
theorem qE.next(hi:qE g pl by_ R rest ears u w ear)(hu:¬gI u w=true){x y:Int}(hx:dz (gI by_ w)=x)(hy:b9 g x=y)(y0:0<=y)(y1:y<g.1):qE g pl by_ R rest ears (u.set (Int.toNat w) true) y (ear++[x])/\(u.set (Int.toNat w) true).count false<u.count false:=by
 subst hx hy
 have hl:=hi.len
 have w0:=hi.w0
 have w1:=hi.w1
 have hb:=hi.byp hu
 have hc:=ji w0 (by omega) hu
 have hs:=hi.sh
 refine⟨⟨by rw[List.length_set];exact hl,y0,y1,?_,hi.few,by rw[List.length_append,List.length_singleton];omega⟩,by omega⟩
 obtain⟨f,u2,e2,h1,h2⟩:=hi.run
 cases f with
 |zero=>unfold pC at h1;rw[if_neg hu] at h1;cases h1
 |succ f=>
   unfold pC at h1
   rw[if_neg hu,if_neg (by omega)] at h1
   exact⟨f,u2,e2,h1,h2⟩
theorem qE.done(hi:qE g pl by_ R rest ears u w ear)(hu:gI u w=true):ju g pl by_ R rest u (ears++[ear]):=by
 obtain⟨f,u2,e2,h1,h2⟩:=hi.run
 have e:pC g by_ f u w ear=some (u,ear):=by
   cases f with
   |zero=>unfold pC;rw[if_pos hu]
   |succ f=>unfold pC;rw[if_pos hu]
 rw[e] at h1
 obtain⟨rfl,rfl⟩:u=u2/\ear=e2:=by simpa using h1
 exact⟨hi.len,h2,by have:=hi.few;rw[List.length_append,List.length_singleton];omega⟩
def eL(O:List (List Int))(o:List Int)(k i:Nat):List (Int×Int):=((gI O (gI o (k:Int))).drop i).map (λh=>(gI o (k:Int),h))++eH O (o.drop (k+1))
theorem ju.row{O:List (List Int)}{o:List Int}{k:Nat}(hi:ju g pl by_ R (eH O (o.drop k)) u ears)(hk:(k:Int)<o.length):ju g pl by_ R (eL O o k 0) u ears:=by
 have hk':k<o.length:=by omega
 have e:eH O (o.drop k)=eL O o k 0:=by
   rw[List.drop_eq_getElem_cons hk']
   have e2:gI o (k:Int)=o[k]:=by simp[gI,hk']
   unfold eL eH
   rw[List.flatMap_cons,e2];rfl
 rwa[e] at hi
theorem ju.one{O:List (List Int)}{o:List Int}{k i:Nat}(hi:ju g pl by_ R (eL O o k i) u ears)(hk:(i:Int)<((gI O (gI o (k:Int))).length:Int)):ju g pl by_ R ((gI o (k:Int),gI (gI O (gI o (k:Int))) (i:Int))::eL O o k (i+1)) u ears:=by
 have hk':i<(gI O (gI o (k:Int))).length:=by omega
 have e:eL O o k i=(gI o (k:Int),gI (gI O (gI o (k:Int))) (i:Int))::eL O o k (i+1):=by
   unfold eL
   rw[List.drop_eq_getElem_cons hk']
   have e3:∀(L:List Int) (hL:i<L.length),gI L (i:Int)=L[i]:=λL hL=>by simp[gI,hL]
   have e2:=e3 (gI O (gI o (k:Int))) hk'
   rw[List.map_cons,e2];rfl
 rwa[e] at hi
theorem ju.rowdone{O:List (List Int)}{o:List Int}{k i:Nat}(hi:ju g pl by_ R (eL O o k i) u ears)(hk:¬(i:Int)<((gI O (gI o (k:Int))).length:Int)):ju g pl by_ R (eH O (o.drop (k+1))) u ears:=by
 have e:eL O o k i=eH O (o.drop (k+1)):=by
   unfold eL
   rw[List.drop_eq_nil_of_le (by omega)];rfl
 rwa[e] at hi
theorem ju.done{O:List (List Int)}{o:List Int}{k:Nat}(hi:ju g pl by_ R (eH O (o.drop k)) u ears)(hk:¬(k:Int)<(o.length:Int)):ears=R:=by
 have h1:=hi.run
 rw[List.drop_eq_nil_of_le (by omega)] at h1
 unfold eH gA at h1
 simpa using h1
theorem pp{o:List Int}(hm:aV g)(hok:pQ g)(hb:cJ g=true)(h2:2<=g.2.length)(hp:pl=(cO g g.1.toNat).place)(hy:by_=(cO g g.1.toNat).by_){O:List (List Int)}(hO:O=ar g){k:Nat}(ho:kR pl g.1 o k)(hk:(k:Int)=g.1):ju g pl by_ ((fK g).getD []) (eH O (o.drop 0)) (List.replicate (Int.toNat g.1) false) []:=by
 obtain⟨_,h3,h4⟩:=hok hm hb h2
 have e:k=g.1.toNat:=by omega
 subst hO
 have eo:o=jQ (cO g g.1.toNat).place g.1.toNat g.1.toNat:=by rw[ho.eq,e,hp]
 have hm0:=hm.1
 refine⟨by simp;omega,?_,?_⟩
 · rw[List.drop_zero,eo,hp,hy]
   show fK g=_
   cases h5:fK g with
   |none=>rw[h5] at h4;cases h4
   |some r=>rfl
 · rw[List.drop_zero,eo]
   simp only[List.length_nil];omega
theorem oM(h:cJ g=true):2<=g.1:=(of_decide_eq_true h).1
theorem px{O:List (List Int)}{i:Int}(hO:O=ar g)(v0:0<=v)(v1:v<g.1)(i0:0<=i)(i1:i<((gI O v).length:Int)):0<=gI (gI O v) i/\gI (gI O v) i<2*(g.2.length:Int):=by
 subst hO
 have hin:gI (gI (ar g) v) i∈gI (ar g) v:=bP i0 i1
 rw[dP v0 v1] at hin
 have ho:=(cW hin).1
 rw[<-dP v0 v1] at ho
 exact ho
end TL
/-
  TlArr2: a variable that holds two numbers, as a list; lengths of small numbers in bits.
  By an AI agent.
-/
set_option linter.all false
namespace TL
open Go
section
variable{P:Program}{f:Fr}{w:World}{dst:Option Tmp}{ty:TypeId}{pos:String}{after:Array Edge}{g:Option (Nat×Bool)}{t e:TypeId}{x y:Operand}
theorem jC{b:Nat}(ht:P.underlying t=some (.array 2 e))(hs:(P.info? e).map (·.size)=some 1)(hx:ev f x= .pointer (some ⟨b,0,none⟩)):
   (execOp (ev f) ⟨dst,.slice t x none none none,ty,pos,after,g⟩).run P w= .ok (.value (.slice (some ⟨b,0,none⟩) 2 2)) w:=by
 cases hq:P.info? e with
 |none=>simp[hq] at hs
 |some q=>
   have hsub:execOp (ev f) ⟨dst,.slice t x none none none,ty,pos,after,g⟩=(do pure (.value (<-Instr.sliceAt t (.pointer (some ⟨b,0,none⟩)) none none none))):=by
     simp[execOp,hx]
   rw[hsub]
   have ha:(⟨b,0,none⟩:Addr).add 0=⟨b,0,none⟩:=rfl
   simp[Instr.sliceAt,Instr.sureAddr,Instr.sliceBounds,aP ht,cC hq,ha]
end
theorem rW{γ:aG}{S:cw->Prop}{w:World}{b:Nat}{x y:Int}(h:Bx γ S w b [.int .i64 x,.int .i64 y]):Sl (α:=Int) γ S w (.slice (some ⟨b,0,none⟩) 2 2) [x,y]:=by
 obtain⟨h1,e,h2⟩:=h
 refine .inr ⟨b,0,2,rfl,⟨by simp,by simp⟩,λi z hi=>⟨cK h2,h1,[.int .i64 z],λj hj=>?_,rfl⟩⟩
 have hj0:j=0:=by have:j<1:=hj;omega
 subst hj0
 have hl:=(List.getElem?_eq_some_iff.1 hi).1
 have hi2:i=0\/i=1:=by simp at hl;omega
 have hs:Rp.sz Int=1:=rfl
 rcases hi2 with rfl|rfl
 · simp at hi
   simp[World.cell?,h2,hs,hi]
 · simp at hi
   simp[World.cell?,h2,hs,hi]
def sG(i:Int):Int:=gI [0,1,2,2,3,3,3,3,4,4,4,4,4] i
end TL
/-
  TlBlk7: the tree of blocks, as the program makes it, with the library's sort of few elements.
  By an AI agent.
-/
set_option linter.all false
namespace TL
def dO:List Int->List Int->Int
  |[],[]=>0
  |[],_::_=> -1
  |_::_,[]=>1
  |a::l,b::m=>if eA a b=0 then dO l m else eA a b
section
variable{s t:List Int}{k:Nat}
theorem fW{l:List Int}(h:(k:Int)<l.length):l.drop k=gI l (k:Int)::l.drop (k+1):=by
 have h':k<l.length:=by omega
 rw[List.drop_eq_getElem_cons h']
 have e:gI l (k:Int)=l[k]:=by simp[gI,h']
 rw[e]
theorem qb(hi:dO (s.drop k) (t.drop k)=dO s t)(h1:(k:Int)<s.length)(h2:(k:Int)<t.length)(h:eA (gI s (k:Int)) (gI t (k:Int))=0):dO (s.drop (k+1)) (t.drop (k+1))=dO s t:=by
 rw[<-hi,fW h1,fW h2]
 show _=if eA _ _=0 then _ else _
 rw[if_pos h]
theorem sB(hi:dO (s.drop k) (t.drop k)=dO s t)(h1:(k:Int)<s.length)(h2:(k:Int)<t.length)(h:¬eA (gI s (k:Int)) (gI t (k:Int))=0):eA (gI s (k:Int)) (gI t (k:Int))=dO s t:=by
 rw[<-hi,fW h1,fW h2]
 show _=if eA _ _=0 then _ else _
 rw[if_neg h]
theorem qo(hi:dO (s.drop k) (t.drop k)=dO s t)(h1:(k:Int)<s.length)(h2:(t.length:Int)<=k):1=dO s t:=by
 have e:t.drop k=[]:=List.drop_eq_nil_of_le (by omega)
 rw[<-hi,fW h1,e];rfl
theorem pS(hi:dO (s.drop k) (t.drop k)=dO s t)(h1:¬(k:Int)<s.length)(hk:(k:Int)<=s.length)(h2:(s.length:Int)<t.length): -1=dO s t:=by
 rw[<-hi,List.drop_eq_nil_of_le (by omega),fW (by omega)];rfl
theorem pR(hi:dO (s.drop k) (t.drop k)=dO s t)(h1:¬(k:Int)<s.length)(hk:(k:Int)<=s.length)(h2:¬(s.length:Int)<t.length):0=dO s t:=by
 rw[<-hi,List.drop_eq_nil_of_le (by omega),List.drop_eq_nil_of_le (by omega)];rfl
end
def lL(x y:Int×Int):Int:=dO [x.1,x.2] [y.1,y.2]
section
variable{x0 xs:List (Int×Int)}{i j:Int}
end
section
variable{g:bw}
def gg(g:bw)(k:Nat):Int->Int:=(bN k).foldl (λF j=>λq=>if q=gI (aa g).2.1 j then(aa g).2.2+j else F q) (λ_=>0)
theorem ot{F:Int->Int}{k:Nat}(h:F=gg g k):(λq=>if q=gI (aa g).2.1 (k:Int) then(aa g).2.2+(k:Int) else F q)=gg g (k+1):=by
 unfold gg
 rw[ck,List.foldl_append,h];rfl
def oy(g:bw)(F:Int->Int)(s:List (Int×Int)×(Int×Int->Int))(h:Int):List (Int×Int)×(Int×Int->Int):=
 (if 0<F (aq g h)/\s.2 (gI (aa g).1 (h/2),F (aq g h))=0 then s.1++[(gI (aa g).1 (h/2),F (aq g h))] else s.1,λq=>if q=(gI (aa g).1 (h/2),F (aq g h)) then s.2 (gI (aa g).1 (h/2),F (aq g h))+1 else s.2 q)
def fy(g:bw)(F:Int->Int)(n:Nat):List (Int×Int)×(Int×Int->Int):=(bN n).foldl (oy g F) ([],λ_=>0)
def ie(g:bw):List (Int×Int):=(fy g (gg g (aa g).2.1.length) (2*g.2.length)).1
structure fN(g:bw)(F:Int->Int)(ed:List (Int×Int))(sn:Int×Int->Int)(n:Nat):Prop where
 eq:(ed,sn)=fy g F n
 le:(ed.length:Int)<=n
 s0:∀q,0<=sn q/\sn q<=n
theorem fN.start{F:Int->Int}:fN g F [] (λ_=>0) 0:=⟨rfl,by simp,λq=>⟨by omega,by omega⟩⟩
theorem fN.next{F:Int->Int}{ed ed':List (Int×Int)}{sn sn':Int×Int->Int}{n:Nat}(h:fN g F ed sn n){v e:Int}{K:Int×Int}(hv:aq g (n:Int)=v)(he:(n:Int)/2=e)(hK:K=(gI (aa g).1 e,F v))(hs:sn'=λq=>if q=K then sn K+1 else sn q)(hd:ed'=if 0<F v/\sn K=0 then ed++[K] else ed):fN g F ed' sn' (n+1):=by
 subst hv he hK hs hd
 have h1:=h.le
 refine⟨?_,?_,λq=>?_⟩
 · unfold fy
   rw[ck,List.foldl_append]
   show _=oy g F (fy g F n) (n:Int)
   rw[<-h.eq];rfl
 · split
   · rw[List.length_append,List.length_singleton];omega
   · omega
 · have h2:=h.s0 q
   have h3:=h.s0 (gI (aa g).1 ((n:Int)/2),F (aq g (n:Int)))
   by_cases c:q=(gI (aa g).1 ((n:Int)/2),F (aq g (n:Int)))
   · simp only[if_pos c];omega
   · simp only[if_neg c];omega
theorem fN.two{F:Int->Int}{ed ed1 ed2:List (Int×Int)}{sn sn1 sn2:Int×Int->Int}{k:Nat}(h:fN g F ed sn (2*k)){v v2:Int}{K K2:Int×Int}(hv:(gI g.2 (k:Int)).1=v)(hv2:(gI g.2 (k:Int)).2=v2)(hK:K=(gI (aa g).1 (k:Int),F v))(hK2:K2=(gI (aa g).1 (k:Int),F v2))
   (hs:sn1=λq=>if q=K then sn K+1 else sn q)(hs2:sn2=λq=>if q=K2 then sn1 K2+1 else sn1 q)(hd:ed1=if 0<F v/\sn K=0 then ed++[K] else ed)(hd2:ed2=if 0<F v2/\sn1 K2=0 then ed1++[K2] else ed1):fN g F ed2 sn2 (2*(k+1)):=by
 have e1:((2*k:Nat):Int)/2=(k:Int):=by omega
 have e2:((2*k+1:Nat):Int)/2=(k:Int):=by omega
 have f1:aq g ((2*k:Nat):Int)=v:=by
   rw[<-hv];unfold aq;rw[e1,show((2*k:Nat):Int)%2=0 by omega];rfl
 have f2:aq g ((2*k+1:Nat):Int)=v2:=by
   rw[<-hv2];unfold aq;rw[e2,show((2*k+1:Nat):Int)%2=1 by omega];rfl
 exact(h.next f1 e1 hK hs hd).next f2 e2 hK2 hs2 hd2
theorem ku{a b:Int}{x y:List (Int×Int)}(h:0<a)(h2:b=0):y=if 0<a/\b=0 then y else x:=(if_pos ⟨h,h2⟩).symm
theorem iG{a b:Int}{x y:List (Int×Int)}(h:¬0<a):x=if 0<a/\b=0 then y else x:=(if_neg λk=>h k.1).symm
theorem iE{a b:Int}{x y:List (Int×Int)}(h:¬b=0):x=if 0<a/\b=0 then y else x:=(if_neg λk=>h k.2).symm
theorem pL{F:Int->Int}{ed:List (Int×Int)}{sn:Int×Int->Int}{e k:Nat}(h:fN g F ed sn (2*e))(hF:F=gg g k)(hk:(k:Int)=((aa g).2.1.length:Int))(he:(e:Int)=(g.2.length:Int)):ed=ie g:=by
 have e1:k=(aa g).2.1.length:=by omega
 have e2:e=g.2.length:=by omega
 have h1:=h.eq
 rw[hF,e1,e2] at h1
 unfold ie
 rw[<-h1]
theorem kg(h0:0<=g.1):((aa g).2.1.length:Int)<=g.1:=by
 have:=lR (a:=bR g) (l:=(eB (dl g) g (2*g.2.length)).2) (k:=g.1.toNat) rfl
 show((bR g).length:Int)<=g.1
 omega
end
end TL
/-
  TlBlk8: what the statements on blocks ask of samples.
  By an AI agent.
-/
set_option linter.all false
namespace TL
def aW:bw:=(4,[(0,1),(1,2),(2,0),(2,3),(3,3)])
theorem rE:pQ (2,[(0,1),(0,1)]):=by
 intro _ _ _
 refine⟨?_,?_,?_⟩<;>decide+kernel
theorem jD{g:bw}(hm:aV g):(b7 g).1=aa g:=by unfold b7;rw[if_pos hm];rfl
theorem pH{g:bw}(h:cP g=true)(h2:g.1<=40):decide ((g.2.length:Int)<=60)=decide (¬aV g\/(g.1<=40/\g.2.length<=60)):=by
 have hm:aV g:=of_decide_eq_true h
 rw[decide_eq_decide]
 exact⟨λa=>.inr ⟨h2,by omega⟩,λa=>by have:=(a.resolve_left (λk=>k hm)).2;omega⟩
theorem pD{g:bw}(h:cP g=true)(h2:¬g.1<=40):false=decide (¬aV g\/(g.1<=40/\g.2.length<=60)):=by
 have hm:aV g:=of_decide_eq_true h
 rw[decide_eq_false]
 exact λa=>h2 (a.resolve_left (λk=>k hm)).1
theorem qy{g:bw}(h:¬cP g=true):true=decide (¬aV g\/(g.1<=40/\g.2.length<=60)):=by
 rw[decide_eq_true]
 exact .inl λk=>h (decide_eq_true k)
section
variable{g:bw}{br:List Bool}{many:List Int}{j k:Nat}{e:Int}
end
end TL
/-
  TlNil: a list that is none, compared.
  By an AI agent.
-/
set_option linter.all false
namespace TL
open Go
section
variable{P:Program}{w:World}{t t':TypeId}{f:Fr}{x y:Operand}{dst:Option Tmp}{ty:TypeId}{pos:String}{after:Array Edge}{g:Option (Nat×Bool)}
end
theorem eU{α:Type}[Rp α]{γ:aG}{J S:cw->Prop}{w:World}{v:Value}{xs:List α}{hi:Nat}(h:Ow γ J S w v xs)(h2:hi<=xs.length):Ow γ J S w (c9 v (Rp.sz α) 0 hi) (xs.take hi):=by
  rcases h with⟨rfl,rfl⟩|⟨b,cap,c,e,rfl,hc,hm,hJ,hb,hcs,hx⟩
  · simp only[List.length_nil] at h2
    have:hi=0:=by omega
    subst this
    exact .inl ⟨rfl,rfl⟩
  · have hl:(xs.take hi).length=hi:=by simp;omega
    refine .inr ⟨b,cap,c,e,?_,⟨by omega,by omega⟩,hm,hJ,hb,hcs,λi x hi'=>hx i x ?_⟩
    · rw[oQ]
      simp only[hl]
    · rw[List.getElem?_take] at hi'
      split at hi'
      · exact hi'
      · cases hi'
end TL
/-
  TlBfs: a walk breadth first tells the numbers of edges: it is as ways of weights 1.
  By an AI agent.
-/
set_option linter.all false
namespace TL
variable{g:bw}{s v c hh:Int}{st:Bf}{dh:Int->Prop}
theorem e8{x:Int}(hx:hf g x):x∈cG g (aq g x):=by
 unfold cG gj
 exact List.mem_filter.2 ⟨List.mem_map.2 ⟨x.toNat,List.mem_range.2 (by have:=hx.1;have:=hx.2;omega),Int.toNat_of_nonneg hx.1⟩,decide_eq_true rfl⟩
end TL
/-
  TlOrb: going round by a permutation; two places changed; what that does to the numbers of rounds.
  By an AI agent.
-/
set_option linter.all false
namespace TL
def Jn(R:Int->Int->Prop)(a b x y:Int):Prop:=R x y\/(R x a/\R b y)\/(R x b/\R a y)
theorem Jn.eqv{D:Int->Prop}{R:Int->Int->Prop}(h:pY D R){a b:Int}(ha:D a)(hb:D b):pY D (Jn R a b):=by
 refine⟨λx hx=>.inl (h.rfl x hx),λx y hx hy hxy=>?_,λx y z hx hy hz h1 h2=>?_⟩
 · rcases hxy with e|⟨e1,e2⟩|⟨e1,e2⟩
   · exact .inl (h.symm _ _ hx hy e)
   · exact .inr (.inr ⟨h.symm _ _ hb hy e2,h.symm _ _ hx ha e1⟩)
   · exact .inr (.inl ⟨h.symm _ _ ha hy e2,h.symm _ _ hx hb e1⟩)
 · rcases h1 with e|⟨e1,e2⟩|⟨e1,e2⟩
   · rcases h2 with f|⟨f1,f2⟩|⟨f1,f2⟩
     · exact .inl (h.trans _ _ _ hx hy hz e f)
     · exact .inr (.inl ⟨h.trans _ _ _ hx hy ha e f1,f2⟩)
     · exact .inr (.inr ⟨h.trans _ _ _ hx hy hb e f1,f2⟩)
   · rcases h2 with f|⟨f1,f2⟩|⟨f1,f2⟩
     · exact .inr (.inl ⟨e1,h.trans _ _ _ hb hy hz e2 f⟩)
     · exact .inr (.inl ⟨e1,f2⟩)
     · exact .inl (h.trans _ _ _ hx ha hz e1 f2)
   · rcases h2 with f|⟨f1,f2⟩|⟨f1,f2⟩
     · exact .inr (.inr ⟨e1,h.trans _ _ _ ha hy hz e2 f⟩)
     · exact .inl (h.trans _ _ _ hx hb hz e1 f2)
     · exact .inr (.inr ⟨e1,f2⟩)
theorem jS.join{D:Int->Prop}{R:Int->Int->Prop}(he:pY D R){a b:Int}(ha:D a)(hb:D b)(hab:¬R a b){k:Nat}(h:jS D R k):∃k',jS D (Jn R a b) k'/\k'+1=k:=by
 obtain⟨l,h,rfl⟩:=h
 obtain⟨z,hz,hbz⟩:=h.all b hb
 have hzd:=h.dom z hz
 refine⟨(l.erase z).length,⟨l.erase z,⟨h.nd.erase z,λx hx=>h.dom x (List.mem_of_mem_erase hx),λx hx=>?_,λx hx y hy hxy=>?_⟩,rfl⟩,?_⟩
 · obtain⟨y,hy,hxy⟩:=h.all x hx
   by_cases e:y=z
   · subst e
     obtain⟨w,hw,haw⟩:=h.all a ha
     refine⟨w,(List.mem_erase_of_ne λe=>hab ?_).2 hw,.inr (.inr ⟨he.trans _ _ _ hx hzd hb hxy (he.symm _ _ hb hzd hbz),haw⟩)⟩
     subst e
     exact he.trans _ _ _ ha hzd hb haw (he.symm _ _ hb hzd hbz)
   · exact⟨y,(List.mem_erase_of_ne e).2 hy,.inl hxy⟩
 · have hx':=h.nd.mem_erase_iff.1 hx
   have hy':=h.nd.mem_erase_iff.1 hy
   have hxd:=h.dom x hx'.2
   have hyd:=h.dom y hy'.2
   rcases hxy with e|⟨_,e⟩|⟨e,_⟩
   · exact h.one x hx'.2 y hy'.2 e
   · exact absurd (h.one y hy'.2 z hz (he.trans _ _ _ hyd hb hzd (he.symm _ _ hb hyd e) hbz)) hy'.1
   · exact absurd (h.one x hx'.2 z hz (he.trans _ _ _ hxd hb hzd e hbz)) hx'.1
 · have h1:=List.length_erase_of_mem hz
   have h2:=List.length_pos_of_mem hz
   omega
def In(n x:Int):Prop:=0<=x/\x<n
theorem jS.ex{n:Int}{R:Int->Int->Prop}(he:pY (In n) R):∃k,jS (In n) R k:=by
 have key:∀m:Nat,(m:Int)<=n->∃l:List Int,l.Nodup/\(∀x∈l,0<=x/\x<m)/\(∀x:Int,0<=x->x<m->∃y∈l,R x y)/\∀x∈l,∀y∈l,R x y->x=y:=by
   intro m
   induction m with
   |zero=>exact λ_=>⟨[],by simp,by simp,λx h0 h1=>by omega,by simp⟩
   |succ m ih=>
     intro hm
     obtain⟨l,h1,h2,h3,h4⟩:=ih (by omega)
     have hmd:In n (m:Int):=⟨by omega,by omega⟩
     by_cases c:∃y∈l,R (m:Int) y
     · refine⟨l,h1,λx hx=>by have:=h2 x hx;omega,λx h0 hx=>?_,h4⟩
       by_cases e:x=(m:Int)
       · subst e;exact c
       · exact h3 x h0 (by omega)
     · refine⟨(m:Int)::l,List.nodup_cons.2 ⟨λhm=>by have:=h2 _ hm;omega,h1⟩,λx hx=>?_,λx h0 hx=>?_,λx hx y hy hxy=>?_⟩
       · rcases List.mem_cons.1 hx with rfl|hx
         · omega
         · have:=h2 x hx;omega
       · by_cases e:x=(m:Int)
         · subst e;exact⟨(m:Int),by simp,he.rfl _ hmd⟩
         · obtain⟨y,hy,hxy⟩:=h3 x h0 (by omega)
           exact⟨y,by simp[hy],hxy⟩
       · have hlt:∀z∈l,In n z:=λz hz=>by have:=h2 z hz;exact⟨by omega,by omega⟩
         rcases List.mem_cons.1 hx with rfl|hx
         · rcases List.mem_cons.1 hy with rfl|hy
           · rfl
           · exact absurd ⟨y,hy,hxy⟩ c
         · rcases List.mem_cons.1 hy with rfl|hy
           · exact absurd ⟨x,hx,he.symm _ _ (hlt x hx) hmd hxy⟩ c
           · exact h4 x hx y hy hxy
 by_cases hn:0<=n
 · obtain⟨l,h1,h2,h3,h4⟩:=key n.toNat (by omega)
   exact⟨l.length,l,⟨h1,λx hx=>by have:=h2 x hx;exact⟨by omega,by omega⟩,λx hx=>h3 x hx.1 (by have:=hx.2;omega),h4⟩,rfl⟩
 · exact⟨0,[],⟨by simp,by simp,λx hx=>by have:=hx.1;have:=hx.2;omega,by simp⟩,rfl⟩
def tr(a b x:Int):Int:=if x=a then b else if x=b then a else x
end TL
/-
  TlEul: Euler's count of a rotation.
  By an AI agent.
-/
set_option linter.all false
namespace TL
def cy(r:gU)(x:Int):Int:=match r.find? (λl=>decide (x∈l)) with
  |some l=>tO l x
  |none=>x
end TL
/-
  TlLess: edges taken away never raise the genus.
  By an AI agent.
-/
set_option linter.all false
namespace TL
theorem jS.ext{D D':Int->Prop}{R R':Int->Int->Prop}{k:Nat}(f:Int->Int)(E:List Int)(h:jS D' R' k)(he:pY D R)(hd:∀x,D' x->D (f x))(hr:∀x y,D' x->D' y->(R' x y↔R (f x) (f y)))(hEn:E.Nodup)(hE:∀e∈E,D e)(h1:∀e∈E,∀x,D' x->¬R (f x) e)(h2:∀a∈E,∀b∈E,R a b->a=b)(hs:∀z,D z->(∃x,D' x/\R z (f x))\/∃e∈E,R z e):jS D R (k+E.length):=by
  obtain⟨l,hl,rfl⟩:=h
  refine⟨l.map f++E,⟨List.nodup_append.2 ⟨gh hl.nd (λx hx y hy e=>hl.one x hx y hy ((hr x y (hl.dom x hx) (hl.dom y hy)).2 (by rw[e];exact he.rfl _ (hd y (hl.dom y hy))))),hEn,λa ha b hb e=>?_⟩,λx hx=>?_,λz hz=>?_,λa ha b hb hab=>?_⟩,by simp⟩
  · obtain⟨x,hx,rfl⟩:=List.mem_map.1 ha
    exact h1 b hb x (hl.dom x hx) (by rw[e];exact he.rfl b (hE b hb))
  · rcases List.mem_append.1 hx with h|h
    · obtain⟨y,hy,rfl⟩:=List.mem_map.1 h;exact hd y (hl.dom y hy)
    · exact hE x h
  · rcases hs z hz with⟨x,hx,hzx⟩|⟨e,he',hze⟩
    · obtain⟨y,hy,hxy⟩:=hl.all x hx
      exact⟨f y,by simp;exact .inl ⟨y,hy,rfl⟩,he.trans _ _ _ hz (hd x hx) (hd y (hl.dom y hy)) hzx ((hr x y hx (hl.dom y hy)).1 hxy)⟩
    · exact⟨e,by simp[he'],hze⟩
  · rcases List.mem_append.1 ha with h|h
    · obtain⟨x,hx,rfl⟩:=List.mem_map.1 h
      have hxd:=hl.dom x hx
      rcases List.mem_append.1 hb with h'|h'
      · obtain⟨y,hy,rfl⟩:=List.mem_map.1 h'
        rw[hl.one x hx y hy ((hr x y hxd (hl.dom y hy)).2 hab)]
      · exact absurd hab (h1 b h' x hxd)
    · rcases List.mem_append.1 hb with h'|h'
      · obtain⟨y,hy,rfl⟩:=List.mem_map.1 h'
        exact absurd (he.symm _ _ (hE a h) (hd y (hl.dom y hy)) hab) (h1 a h y (hl.dom y hy))
      · exact h2 a h b h' hab
section
variable{m K:Nat}{f s s':Int->Int}{E:List Int}
end
end TL
/-
  TlLess2: a rotation's part: its half-edges among the whole's, and its genus.
  By an AI agent.
-/
set_option linter.all false
namespace TL
section
variable{g:bw}{r:gU}{keep:List Int}
def gone(m:Nat)(keep:List Int):List Int:=(bN (2*m)).filter λh=>decide (h/2∉keep)
end
end TL
/-
  TlDual: faces as nodes: the dual, corners' faces, edges laid, taken and split, ways over faces, as plain functions.
  By an AI agent.
-/
set_option linter.all false
namespace TL
def rV(g:bw)(r:gU)(c:Int×Int):Prop:=(0<=c.1/\c.1<g.1)/\if((gI r c.1).length:Int)=0 then c.2= -1 else c.2∈gI r c.1
instance (g:bw)(r:gU)(c:Int×Int):Decidable (rV g r c):=by unfold rV;infer_instance
end TL
namespace TL
end TL
namespace TL
end TL
namespace TL
section
variable{g:bw}{r:gU}{a b:Int×Int}
end
end TL
/-
  TlTake2: labels of components; components, faces and the genus of a net with one edge less.
  By an AI agent.
-/
set_option linter.all false
namespace TL
theorem nB{g h:bw}{a b:Int}(hn:h.1=g.1)(ha:dA h a)(hb:dA h b)(he:∀e,e∈g.2↔e∈h.2\/e=(a,b)){u v:Int}(hu:dA h u)(hv:dA h v):Cn g u v↔Jn (Cn h) a b u v:=by
 have hd:dA g=dA h:=by unfold dA;rw[hn]
 have hle:=Cn.eqv h
 have hg:=Cn.eqv g
 rw[hd] at hg
 have hup:∀{u v:Int},Cn h u v->Cn g u v:=λ {u v} hc R hR h2=>hc R (by rw[<-hd];exact hR) λe hh=>h2 e ((he e).2 (.inl hh))
 have hab:Cn g a b:=Cn.edge ((he (a,b)).2 (.inr rfl))
 constructor
 · intro hc
   refine hc (Jn (Cn h) a b) (by rw[hd];exact Jn.eqv hle ha hb) (λe h2=>?_)
   rcases(he e).1 h2 with h3|h3
   · exact .inl (Cn.edge h3)
   · subst h3;exact .inr (.inl ⟨hle.rfl _ ha,hle.rfl _ hb⟩)
 · rintro(e|⟨e1,e2⟩|⟨e1,e2⟩)
   · exact hup e
   · exact hg.trans _ _ _ hu ha hv (hup e1) (hg.trans _ _ _ ha hb hv hab (hup e2))
   · exact hg.trans _ _ _ hu hb hv (hup e1) (hg.trans _ _ _ hb ha hv (hg.symm _ _ ha hb hab) (hup e2))
theorem mA{g h:bw}{a b:Int}(hm:aV g)(hm':aV h)(hn:h.1=g.1)(ha:dA h a)(hb:dA h b)(he:∀e,e∈g.2↔e∈h.2\/e=(a,b)):
   (Cn h a b/\(eT g).2.1=(eT h).2.1)\/(¬Cn h a b/\(eT g).2.1+1=(eT h).2.1):=by
 obtain⟨k,e1,h1⟩:=fQ hm
 obtain⟨k',e2,h2⟩:=fQ hm'
 have hd:dA g=dA h:=by unfold dA;rw[hn]
 have hle:=Cn.eqv h
 have hge:=Cn.eqv g
 rw[hd] at h1 hge
 by_cases c:Cn h a b
 · left
   have h3:jS (dA h) (Cn g) k':=h2.iff λx y hx hy=>by
     rw[nB hn ha hb he hx hy]
     constructor
     · exact λe=>.inl e
     · rintro(e|⟨f1,f2⟩|⟨f1,f2⟩)
       · exact e
       · exact hle.trans _ _ _ hx ha hy f1 (hle.trans _ _ _ ha hb hy c f2)
       · exact hle.trans _ _ _ hx hb hy f1 (hle.trans _ _ _ hb ha hy (hle.symm _ _ ha hb c) f2)
   have:=h1.eq hge h3
   exact⟨c,by omega⟩
 · right
   obtain⟨k2,h3,e3⟩:=h2.join hle ha hb c
   have h4:jS (dA h) (Cn g) k2:=h3.iff λx y hx hy=>(nB hn ha hb he hx hy).symm
   have:=h1.eq hge h4
   exact⟨c,by omega⟩
section
variable{g:bw}{r:gU}
end
end TL
/-
  TlKru: edges of the least weight that join all that is joined (package path's Least): Kruskal's way by labels, and a forest of parents that agrees with the labels.
  By an AI agent.
-/
set_option linter.all false
namespace TL
def sZ(ws:List Nat)(i:Int):Pl:=(zf (gI ws i),i)
def tJ(ws:List Nat)(i k:Int):Prop:=td (sZ ws i) (sZ ws k)
instance (ws:List Nat)(i k:Int):Decidable (tJ ws i k):=by unfold tJ;infer_instance
-- by labels
variable{n:Int}{of0 of c:List Int}{rho:Int->Nat}{v v0:Int}
end TL
namespace TL
variable{g:bw}{ws:List Nat}{of l:List Int}{k:Nat}
end TL
namespace TL
end TL
namespace TL
end TL
/-
  TlOnes: ways of weights 1, 0 and of none: as a walk breadth first goes.
  By an AI agent.
-/
set_option linter.all false
namespace TL
variable{g g1 g2:bw}{ws w1 w2:List Nat}{s v:Int}{f1 f2 far:List Nat}{b1 b2 by_:List Int}{r1 r2 rk:Int->Nat}{C:Nat}
end TL
namespace TL
variable{g:bw}{s:Int}
end TL
namespace TL
open Go
theorem lf{P:Program}{f:Fr}{w:World}{dst:Option Tmp}{ty:TypeId}{pos:String}{after:Array Edge}{g:Option (Nat×Bool)}{t t':TypeId}{x y:Operand}{op:BinOp}{k:IntKind}{m n r:Int}(hx:ev f x= .int k m)(hy:ev f y= .int k n)(h:binOp op t (.int k m) (.int k n)=pure (.int k r)):(execOp (ev f) ⟨dst,.binOp op t x y t',ty,pos,after,g⟩).run P w= .ok (.value (.int k r)) w:=
 cF op x y hx hy (by rw[h];rfl)
end TL
namespace TL
variable{g:bw}{s v:Int}{on ze so:List Nat}{op:List Int}{i:Nat}
end TL
/-
  TlPerm: several new objects that are made in whatever order is drawn: all orders end alike.
  By an AI agent.
-/
set_option linter.all false
namespace TL
open Go
def kb(f:Fr)(val:Nat->Value)(S:List Nat):Fr:=λt=>bif S.contains t then val t else f t
theorem oH{f:Fr}{val:Nat->Value}{S S':List Nat}(h:∀t,t∈S↔t∈S'):kb f val S=kb f val S':=by
 funext t
 unfold kb
 have:S.contains t=S'.contains t:=by
   rw[Bool.eq_iff_iff]
   simp only[List.contains_iff_mem];exact h t
 rw[this]
theorem qT{f:Fr}{val:Nat->Value}{S:List Nat}{d:Nat}{v:Value}(hd:d∉S):fc (kb f val S) (some d) v=kb f (λt=>if t=d then v else val t) (d::S):=by
 funext t
 unfold fc kb
 simp only
 by_cases c:t=d
 · subst c
   have e1:(t::S).contains t=true:=by simp
   rw[e1,Nat.beq_refl];simp
 · have e1:Nat.beq t d=false:=by
     cases h:Nat.beq t d with
     |false=>rfl
     |true=>exact absurd (Nat.eq_of_beq_eq_true h) c
   have e2:(d::S).contains t=S.contains t:=by
     rw[Bool.eq_iff_iff]
     simp[c]
   rw[e1,e2,if_neg c];rfl
def mo{α:Type}:List α->List (List α)
 |[]=>[[]]
 |a::l=>mo l++(mo l).map (a:: ·)
theorem iZ{α:Type}(p:α->Bool):∀l:List α,l.filter p∈mo l
 |[]=>List.mem_singleton.2 rfl
 |a::l=>by
   have ih:=iZ p l
   unfold mo
   rw[List.filter_cons]
   split
   · exact List.mem_append_right _ (List.mem_map.2 ⟨_,ih,rfl⟩)
   · exact List.mem_append_left _ ih
theorem hG:∀(D A:List (Nat×Nat)),D.Nodup->(∀p∈D,p∈A)->D.length<=A.length
 |[],A,_,_=>Nat.zero_le _
 |a::D,A,hn,hs=>by
   have hn':=List.nodup_cons.1 hn
   have ha:=hs a (List.mem_cons_self ..)
   have h3:=hG D (A.erase a) hn'.2 (λx hx=>by
     have hne:x≠a:=λe=>hn'.1 (by rw[<-e];exact hx)
     exact(List.mem_erase_of_ne hne).2 (hs x (List.mem_cons_of_mem _ hx)))
   have h4:=List.length_erase_of_mem ha
   have h5:=List.length_pos_of_mem ha
   rw[List.length_cons];omega
theorem k6:∀{A:List (Nat×Nat)},(A.map Prod.fst).Nodup->A.Nodup
 |[],_=>List.nodup_nil
 |a::A,h=>by
   rw[List.map_cons,List.nodup_cons] at h
   exact List.nodup_cons.2 ⟨λk=>h.1 (List.mem_map.2 ⟨a,k,rfl⟩),k6 h.2⟩
theorem ke{A:List (Nat×Nat)}(h:(A.map Prod.snd).Nodup){p q:Nat×Nat}(hp:p∈A)(hq:q∈A)(e:p.2=q.2):p=q:=by
 induction A with
 |nil=>exact absurd hp List.not_mem_nil
 |cons a A ih=>
   rw[List.map_cons,List.nodup_cons] at h
   rcases List.mem_cons.1 hp with e1|e1
   · rcases List.mem_cons.1 hq with e2|e2
     · rw[e1,e2]
     · exact absurd (List.mem_map.2 ⟨q,e2,by rw[<-e,e1]⟩) h.1
   · rcases List.mem_cons.1 hq with e2|e2
     · exact absurd (List.mem_map.2 ⟨p,e1,by rw[e,e2]⟩) h.1
     · exact ih h.2 e1 e2
section
variable{P:Program}{n:Nat}{l:List Oper}{qs:List Nat}{K:Fr->World->Prop}{f:Fr}{w:World}{done:List Nat}{fuel:Nat}
theorem jW{n:Nat}{d d':List Nat}(h:∀t,t∈d↔t∈d'):bY n d=bY n d':=by
 unfold bY
 congr 1
 apply List.map_congr_left
 intro t _
 rw[decide_eq_decide];exact h t
theorem ov{done':List Nat}(h:∀t,t∈done↔t∈done')(hw:i5 P n l qs K fuel done f w):i5 P n l qs K fuel done' f w:=by
 unfold i5 at*
 rw[<-jW h];exact hw
def pK(dep:Nat->List Nat)(D:List (Nat×Nat)):Bool:=D.all λp=>(dep p.2).all λt=>(D.map Prod.snd).contains t
def lC(dep:Nat->List Nat)(A D:List (Nat×Nat)):List (Nat×Nat):=A.filter λp=> !(D.map Prod.fst).contains p.1&&(dep p.2).all λt=>(D.map Prod.snd).contains t
def tI(l:List Oper)(done:List Nat)(dep:Nat->List Nat)(A:List (Nat×Nat)):Bool:=(mo A).all λD=>decide (D.length=A.length)||(pK dep D).not||(decide (Region.ready .any l.toArray (bY l.length (D.map Prod.fst++done))=(lC dep A D).map Prod.fst)&& !(lC dep A D).isEmpty)
theorem sC(A:List (Nat×Nat))(dep:Nat->List Nat)(Φ:Nat->List Value->aG->World->Value->Prop)(γ:aG)
    (hst:∀p∈A,∀vs γ w γ' w' v,b6 no γ w γ' w'->Φ p.2 vs γ w v->Φ p.2 vs γ' w' v)
    (hnd:(A.map Prod.snd).Nodup)(hnf:(A.map Prod.fst).Nodup)
    (hrd:tI l done dep A=true)
    (hop:∀p∈A,qs.contains p.1=false/\∃o,l[p.1]? =some o/\o.dst=some p.2/\jb n o=true/\∀(f':Fr) (val:Nat->Value),(∀t,(A.map Prod.snd).contains t=false->f' t=f t)->(∀t∈dep p.2,f' t=val t)->cI l o f'=true/\∀γ w,(∀t∈dep p.2,Φ t ((dep t).map val) γ w (val t))->f3 P o f' w λv w'=>∃γ',b6 no γ w γ' w'/\Φ p.2 ((dep p.2).map val) γ' w' v)
    (hk:∀val γ' w',b6 no γ w γ' w'->(∀p∈A,Φ p.2 ((dep p.2).map val) γ' w' (val p.2))->i5 P n l qs K fuel (A.map Prod.fst++done) (kb f val (A.map Prod.snd)) w'):i5 P n l qs K (fuel+A.length) done f w:=by
  have main:∀(m:Nat) (D:List (Nat×Nat)) (val:Nat->Value) (γ':aG) (w':World),D.Nodup->(∀p∈D,p∈A)->(∀p∈D,∀t∈dep p.2,t∈D.map Prod.snd)->D.length+m=A.length->b6 no γ w γ' w'->(∀p∈D,Φ p.2 ((dep p.2).map val) γ' w' (val p.2))->i5 P n l qs K (fuel+m) (D.map Prod.fst++done) (kb f val (D.map Prod.snd)) w':=by
    have hAn:A.Nodup:=k6 hnf
    intro m
    induction m with
    |zero=>
      intro D val γ' w' hD hsub hcl hl hc hF
      have hmem:∀p,p∈A↔p∈D:=by
        intro p
        refine⟨λhp=>?_,hsub p⟩
        by_cases c:p∈D
        · exact c
        · exfalso
          have:=hG (p::D) A (List.nodup_cons.2 ⟨c,hD⟩) (λq hq=>(List.mem_cons.1 hq).elim (λe=>by rw[e];exact hp) (hsub q))
          rw[List.length_cons] at this;omega
      have h1:=hk val γ' w' hc (λp hp=>hF p ((hmem p).1 hp))
      have e1:∀t,t∈A.map Prod.fst++done↔t∈D.map Prod.fst++done:=λt=>by
        simp only[List.mem_append,List.mem_map]
        constructor
        · rintro(⟨p,hp,rfl⟩|h)
          · exact .inl ⟨p,(hmem p).1 hp,rfl⟩
          · exact .inr h
        · rintro(⟨p,hp,rfl⟩|h)
          · exact .inl ⟨p,(hmem p).2 hp,rfl⟩
          · exact .inr h
      have e2:kb f val (A.map Prod.snd)=kb f val (D.map Prod.snd):=oH λt=>by
        simp only[List.mem_map]
        constructor
        · rintro⟨p,hp,rfl⟩;exact⟨p,(hmem p).1 hp,rfl⟩
        · rintro⟨p,hp,rfl⟩;exact⟨p,(hmem p).2 hp,rfl⟩
      rw[e2] at h1
      exact ov e1 h1
    |succ m ih=>
      intro D val γ' w' hD hsub hcl hl hc hF
      let D':=A.filter λp=>decide (p∈D)
      have hD':∀p,p∈D'↔p∈D:=λp=>by
        show p∈A.filter _↔_
        rw[List.mem_filter,decide_eq_true_iff]
        exact⟨λh=>h.2,λh=>⟨hsub p h,h⟩⟩
      have hD1:∀t,t∈D'.map Prod.fst↔t∈D.map Prod.fst:=λt=>by
        simp only[List.mem_map]
        exact⟨λ⟨p,hp,e⟩=>⟨p,(hD' p).1 hp,e⟩,λ⟨p,hp,e⟩=>⟨p,(hD' p).2 hp,e⟩⟩
      have hD2:∀t,t∈D'.map Prod.snd↔t∈D.map Prod.snd:=λt=>by
        simp only[List.mem_map]
        exact⟨λ⟨p,hp,e⟩=>⟨p,(hD' p).1 hp,e⟩,λ⟨p,hp,e⟩=>⟨p,(hD' p).2 hp,e⟩⟩
      have hlD:D'.length≠A.length:=by
        have h1:=hG D' D (hAn.filter _) (λp hp=>(hD' p).1 hp)
        omega
      have hcD:pK dep D'=true:=by
        unfold pK
        simp only[List.all_eq_true,List.contains_iff_mem]
        exact λp hp t ht=>(hD2 t).2 (hcl p ((hD' p).1 hp) t ht)
      have hr0:=List.all_eq_true.1 hrd D' (iZ _ A)
      rw[decide_eq_false hlD,hcD] at hr0
      simp only[Bool.not_true,Bool.or_false,Bool.false_or,Bool.and_eq_true] at hr0
      obtain⟨hr1,hne⟩:=hr0
      have hr:=of_decide_eq_true hr1
      have em:bY l.length (D'.map Prod.fst++done)=bY l.length (D.map Prod.fst++done):=jW λt=>by
        simp only[List.mem_append];rw[hD1 t]
      rw[em] at hr
      have hnx:∀p,p∈lC dep A D'->p∈A/\p∉D/\∀t∈dep p.2,t∈D.map Prod.snd:=λp hp=>by
        unfold lC at hp
        rw[List.mem_filter,Bool.and_eq_true,List.all_eq_true] at hp
        obtain⟨h1,h2,h3⟩:=hp
        refine⟨h1,λk=>?_,λt ht=>(hD2 t).1 (List.contains_iff_mem.1 (h3 t ht))⟩
        have:p.1∈D'.map Prod.fst:=List.mem_map.2 ⟨p,(hD' p).2 k,rfl⟩
        simp[this] at h2
      intro a ha
      refine⟨λh0=>?_,λk hk2=>?_⟩
      · rw[hr] at h0
        have h5:lC dep A D'=[]:=List.map_eq_nil_iff.1 h0
        rw[h5] at hne;cases hne
      · rw[hr] at hk2
        obtain⟨p,hp0,rfl⟩:=List.mem_map.1 hk2
        obtain⟨hp,hpD,hdp⟩:=hnx p hp0
        obtain⟨hq,o,hi,hdst,hdk,ho⟩:=hop p hp
        have hlt:p.1<l.length:=(List.getElem?_eq_some_iff.1 hi).1
        have hq':decide (p.1∈qs)=false:=by simpa using hq
        have hd2:p.2∉D.map Prod.snd:=by
          intro k
          obtain⟨q,hq2,e⟩:=List.mem_map.1 k
          have:q=p:=ke hnd (hsub q hq2) hp e
          rw[this] at hq2;exact hpD hq2
        obtain⟨hw1,hw2⟩:=ho (kb f val (D.map Prod.snd)) val (λt ht=>by
          unfold kb
          have:(D.map Prod.snd).contains t=false:=by
            cases hc2:(D.map Prod.snd).contains t with
            |false=>rfl
            |true=>
              obtain⟨q,hq2,e⟩:=List.mem_map.1 (List.contains_iff_mem.1 hc2)
              have:(A.map Prod.snd).contains t=true:=List.contains_iff_mem.2 (List.mem_map.2 ⟨q,hsub q hq2,e⟩)
              rw[this] at ht;cases ht
          rw[this];rfl) (λt ht=>by
          unfold kb
          rw[List.contains_iff_mem.2 (hdp t ht)];rfl)
        simp only[hq',Bool.false_eq_true,if_false]
        refine eN ha hi hw1 (hw2 γ' w' (λt ht=>?_)) λv w2 ⟨γ2,c2,h2⟩=>?_
        · obtain⟨q,hq2,e⟩:=List.mem_map.1 (hdp t ht)
          rw[<-e];exact hF q hq2
        rw[cX _ hlt]
        have hc2:b6 no γ w γ2 w2:=hc.trans c2 (λ_ _ h=>h.elim id id)
        have hval:∀q:Nat×Nat,(∀t∈dep q.2,t∈D.map Prod.snd)->(dep q.2).map (λt=>if t=p.2 then v else val t)=(dep q.2).map val:=λq hq2=>List.map_congr_left λt ht=>by
          rw[if_neg]
          intro e
          exact hd2 (by rw[<-e];exact hq2 t ht)
        have hnext:=ih (p::D) (λt=>if t=p.2 then v else val t) γ2 w2 (List.nodup_cons.2 ⟨hpD,hD⟩) (λq hq2=>(List.mem_cons.1 hq2).elim (λe=>by rw[e];exact hp) (hsub q)) (λq hq2 t ht=>by
          rw[List.map_cons]
          rcases List.mem_cons.1 hq2 with e|e
          · rw[e] at ht;exact List.mem_cons_of_mem _ (hdp t ht)
          · exact List.mem_cons_of_mem _ (hcl q e t ht)) (by rw[List.length_cons];omega) hc2 (λq hq2=>by
          rcases List.mem_cons.1 hq2 with e|e
          · rw[e,if_pos rfl,hval p hdp];exact h2
          · have hne:q.2≠p.2:=λk=>hd2 (by rw[<-k];exact List.mem_map.2 ⟨q,e,rfl⟩)
            rw[if_neg hne,hval q (hcl q e)]
            exact hst q (hsub q e) _ _ _ _ _ _ c2 (hF q e))
        have ef:fc (kb f val (D.map Prod.snd)) o.dst v=kb f (λt=>if t=p.2 then v else val t) ((p::D).map Prod.snd):=by
          rw[hdst,qT hd2];rfl
        have:=hnext (a.put o.dst v) (by rw[<-ef];exact ha.put hdk v)
        exact this
  have h0:=main A.length [] (λ_=>undef) γ w List.nodup_nil (λp hp=>absurd hp List.not_mem_nil) (λp hp=>absurd hp List.not_mem_nil) (by simp) (b6.refl _ _ _) (λp hp=>absurd hp List.not_mem_nil)
  have e0:kb f (λ_=>undef) (([]:List (Nat×Nat)).map Prod.snd)=f:=by
    funext t;rfl
  rw[e0] at h0
  exact h0
end
end TL
namespace TL
open Go
structure Mk where
  op:Nat
  slot:Nat
  dep:List Nat
  ok:List Value->aG->World->Value->Prop
def rJ:List Mk->Prop
 |[]=>True
 |p::r=>(∀vs γ w γ' w' v,b6 no γ w γ' w'->p.ok vs γ w v->p.ok vs γ' w' v)/\rJ r
def fV:List Mk->Nat->List Nat
 |[],_=>[]
 |p::r,t=>bif Nat.beq t p.slot then p.dep else fV r t
def jj:List Mk->Nat->List Value->aG->World->Value->Prop
 |[],_=>λ_ _ _ _=>False
 |p::r,t=>bif Nat.beq t p.slot then p.ok else jj r t
def rf(P:Program)(n:Nat)(l:List Oper)(qs:List Nat)(f:Fr)(L:List Mk)(S:List Nat):List Mk->Prop
  |[]=>True
  |p::r=>(qs.contains p.op=false/\∃o,l[p.op]? =some o/\o.dst=some p.slot/\jb n o=true/\∀(f':Fr) (val:Nat->Value),(∀t,S.contains t=false->f' t=f t)->(∀t∈p.dep,f' t=val t)->cI l o f'=true/\∀γ w,(∀t∈p.dep,jj L t ((fV L t).map val) γ w (val t))->f3 P o f' w λv w'=>∃γ',b6 no γ w γ' w'/\p.ok (p.dep.map val) γ' w' v)/\rf P n l qs f L S r
theorem rJ.mem{L:List Mk}(h:rJ L):∀p∈L,∀vs γ w γ' w' v,b6 no γ w γ' w'->p.ok vs γ w v->p.ok vs γ' w' v:=by
 induction L with
 |nil=>intro p hp;exact absurd hp List.not_mem_nil
 |cons a L ih=>
   intro p hp
   rcases List.mem_cons.1 hp with e|e
   · rw[e];exact h.1
   · exact ih h.2 p e
theorem kA{a b:Nat}(h:a≠b):Nat.beq a b=false:=by
 cases k:Nat.beq a b with
 |false=>rfl
 |true=>exact absurd (Nat.eq_of_beq_eq_true k) h
theorem iC:∀{L:List Mk},(L.map Mk.slot).Nodup->∀p∈L,fV L p.slot=p.dep/\jj L p.slot=p.ok
 |[],_,p,hp=>absurd hp List.not_mem_nil
 |a::L,h,p,hp=>by
   rw[List.map_cons,List.nodup_cons] at h
   rcases List.mem_cons.1 hp with e|e
   · rw[e];unfold fV jj;rw[Nat.beq_refl];exact⟨rfl,rfl⟩
   · have hne:p.slot≠a.slot:=λk=>h.1 (by rw[<-k];exact List.mem_map.2 ⟨p,e,rfl⟩)
     unfold fV jj
     rw[kA hne];exact iC h.2 p e
def kD(K:Fr->Prop)(γ:aG)(w:World):List Mk->List (Nat×Value)->Fr->Prop
  |[],_,f=>K f
  |p::r,env,f=>∀v,p.ok (p.dep.map λt=>(env.lookup t).getD undef) γ w v->kD K γ w r ((p.slot,v)::env) (fc f (some p.slot) v)
def nG:List Mk->List Nat->Bool
 |[],_=>true
 |p::r,S=>(p.dep.all λt=>S.contains t)&&nG r (p.slot::S)
theorem pc{f:Fr}{val:Nat->Value}{d:Nat}{S:List Nat}:kb (fc f (some d) (val d)) val S=kb f val (d::S):=by
 funext t
 unfold kb fc
 simp only
 by_cases c:t=d
 · subst c
   have e1:(t::S).contains t=true:=by simp
   rw[e1,Nat.beq_refl];cases S.contains t<;>rfl
 · have e1:Nat.beq t d=false:=kA c
   have e2:(d::S).contains t=S.contains t:=by
     rw[Bool.eq_iff_iff]
     simp[c]
   rw[e1,e2];rfl
theorem kD.use{K:Fr->Prop}{γ:aG}{w:World}{val:Nat->Value}:∀{L:List Mk} {env:List (Nat×Value)} {f:Fr},kD K γ w L env f->(∀t∈env.map Prod.fst,(env.lookup t).getD undef=val t)->nG L (env.map Prod.fst)=true->(∀p∈L,p.ok (p.dep.map val) γ w (val p.slot))->K (kb f val (L.map Mk.slot))
 |[],_,f,h,_,_,_=>by
   have:kb f val (([]:List Mk).map Mk.slot)=f:=by funext t;rfl
   rw[this];exact h
 |p::L,env,f,h,he,ht,hF=>by
   unfold nG at ht
   rw[Bool.and_eq_true,List.all_eq_true] at ht
   have e1:p.dep.map (λt=>(env.lookup t).getD undef)=p.dep.map val:=List.map_congr_left λt h1=>he t (List.contains_iff_mem.1 (ht.1 t h1))
   have h2:=h (val p.slot) (by rw[e1];exact hF p (List.mem_cons_self ..))
   have:=kD.use h2 (λt h3=>by
     rw[List.lookup_cons]
     by_cases c:t=p.slot
     · rw[c];simp
     · have:(t==p.slot)=false:=by simpa using c
       rw[this]
       exact he t ((List.mem_cons.1 h3).resolve_left c)) ht.2 (λq hq=>hF q (List.mem_cons_of_mem _ hq))
   rw[pc] at this;exact this
section
variable{P:Program}{n:Nat}{l:List Oper}{qs:List Nat}{K:Fr->World->Prop}{f:Fr}{w:World}{done:List Nat}{fuel:Nat}{S:List Nat}
theorem rf.mem{L M:List Mk}(h:rf P n l qs f M S L):∀p∈L,qs.contains p.op=false/\∃o,l[p.op]? =some o/\o.dst=some p.slot/\jb n o=true/\∀(f':Fr) (val:Nat->Value),(∀t,S.contains t=false->f' t=f t)->(∀t∈p.dep,f' t=val t)->cI l o f'=true/\∀γ w,(∀t∈p.dep,jj M t ((fV M t).map val) γ w (val t))->f3 P o f' w λv w'=>∃γ',b6 no γ w γ' w'/\p.ok (p.dep.map val) γ' w' v:=by
 induction L with
 |nil=>intro p hp;exact absurd hp List.not_mem_nil
 |cons a L ih=>
   intro p hp
   rcases List.mem_cons.1 hp with e|e
   · rw[e];exact h.1
   · exact ih h.2 p e
theorem f3.mono{o:Oper}{N N':Value->World->Prop}(h:f3 P o f w N)(hN:∀v w,N v w->N' v w):f3 P o f w N':=by
 unfold f3 at*
 generalize(execOp (ev f) o).run P w=r at*
 cases r with
 |halt x w'=>exact h.elim
 |ok nx w'=>
   cases nx<;>simp only[nF] at h ⊢
   case value v=>exact hN _ _ h
   case skip=>exact hN _ _ h
   case enter g args=>
     refine h.mono λe w'' he=>?_
     cases e with
     |returned v=>exact hN _ _ he
     |panicked c=>exact he.elim
     |outgrown=>exact he.elim
theorem ob(γ:aG)(L:List Mk)(A:List (Nat×Nat))(fu:Nat)(hA:L.map (λp=>(p.op,p.slot))=A)(hst:rJ L)(hnd0:(A.map Prod.snd).Nodup)(hnf:(A.map Prod.fst).Nodup)
    (hrd:tI l done (fV L) A=true)(htp:nG L []=true)
    (hfu:fu=fuel+A.length)(hop:rf P n l qs f L (A.map Prod.snd) L)
    (hk:∀γ' w',b6 no γ w γ' w'->kD (λf'=>i5 P n l qs K fuel (A.map Prod.fst++done) f' w') γ' w' L [] f):i5 P n l qs K fu done f w:=by
  subst hfu
  have e1:A.map Prod.snd=L.map Mk.slot:=by rw[<-hA,List.map_map];rfl
  have hnd:(L.map Mk.slot).Nodup:=by rw[<-e1];exact hnd0
  refine sC A (fV L) (jj L) γ (λq hq=>?_) hnd0 hnf hrd (λq hq=>?_) (λval γ' w' hc hF=>?_)
  · rw[<-hA] at hq
    obtain⟨p,hp,rfl⟩:=List.mem_map.1 hq
    intro vs γ w γ' w' v hc
    show jj L p.slot vs γ w v->jj L p.slot vs γ' w' v
    rw[(iC hnd p hp).2];exact hst.mem p hp vs γ w γ' w' v hc
  · rw[<-hA] at hq
    obtain⟨p,hp,rfl⟩:=List.mem_map.1 hq
    obtain⟨a,o,b,c,d,e⟩:=hop.mem p hp
    show qs.contains p.op=false/\∃o,l[p.op]? =some o/\o.dst=some p.slot/\jb n o=true/\∀(f':Fr) (val:Nat->Value),(∀t,(A.map Prod.snd).contains t=false->f' t=f t)->(∀t∈fV L p.slot,f' t=val t)->cI l o f'=true/\∀γ w,(∀t∈fV L p.slot,jj L t ((fV L t).map val) γ w (val t))->f3 P o f' w λv w'=>∃γ',b6 no γ w γ' w'/\jj L p.slot ((fV L p.slot).map val) γ' w' v
    rw[(iC hnd p hp).1,(iC hnd p hp).2]
    exact⟨a,o,b,c,d,e⟩
  · have h1:=(hk γ' w' hc).use (val:=val) (λt ht=>absurd ht List.not_mem_nil) htp (λp hp=>by
      have:=hF (p.op,p.slot) (by rw[<-hA];exact List.mem_map.2 ⟨p,hp,rfl⟩)
      have h2:jj L p.slot ((fV L p.slot).map val) γ' w' (val p.slot):=this
      rw[(iC hnd p hp).1,(iC hnd p hp).2] at h2;exact h2)
    rw[e1];exact h1
theorem lM{o:Oper}{v:Value}{N:Value->World->Prop}(h:(execOp (ev f) o).run P w= .ok (.value v) w)(hk:N v w):f3 P o f w N:=by unfold f3;rw[h];exact hk
end
theorem dS{t:Nat}{l:List Nat}(h:l.contains t=true):t∈l:=List.contains_iff_mem.1 h
theorem gT{f:Fr}{i:Nat}{x:Operand}{xs:List (Nat×Operand)}{v:Value}{vs:List (Nat×Value)}(h:ev f x=v)(h2:xs.map (λx=>(x.1,ev f x.2))=vs):((i,x)::xs).map (λx=>(x.1,ev f x.2))=(i,v)::vs:=by subst h h2;rfl
end TL
/-
  TlSortP: the library's sort by a function, of pairs, met in this frame; pairs in order.
  By an AI agent.
-/
set_option linter.all false
namespace TL
open Go Go.Proofs Go.Shelf Go.Sort Go.Lib
theorem dW.grown2{w w':World}(h:dW w.heap.size w w'):∃q os,w'=grow (w.drewN q) os:=by
 obtain⟨h1,h2,h3,h4,h5,h6⟩:=h
 refine⟨w'.drawn-w.drawn,w'.heap.extract w.heap.size w'.heap.size,?_⟩
 have hh:w'.heap=w.heap++w'.heap.extract w.heap.size w'.heap.size:=by
   apply Array.ext_getElem?
   intro k
   rw[Array.getElem?_append]
   by_cases hk:k<w.heap.size
   · rw[if_pos hk];exact h5 k hk
   · rw[if_neg hk,Array.getElem?_extract]
     split
     · rw[show w.heap.size+(k-w.heap.size)=k by omega]
     · exact Array.getElem?_eq_none (by omega)
 have hd:w'.drawn=w.drawn+(w'.drawn-w.drawn):=by omega
 cases w with
 |mk a b c d e=>
   cases w' with
   |mk a' b' c' d' e'=>
     simp only[grow,World.drewN] at*
     subst h1 h2 h3
     simp only[World.mk.injEq,true_and,and_true]
     exact⟨hh,hd⟩
def fB(x:Int×Int):List Value:=[.int .i64 x.1,.int .i64 x.2]
section
variable{γ:aG}{w:World}{j b:Nat}
theorem km(hb:is j (γ b))(m:Nat)(d:Array (Int×Int))(os:Array Obj):b6 (is j) γ w γ (sortWorldK fB 2 w b 0 m d os):=by
 refine⟨rfl,rfl,rfl,?_,λ_ _ _=>rfl,λk hk hn=>?_,?_⟩
 · unfold sortWorldK putRowK;rw[size_grow,Go.Sort.size_putRow];simp only[heap_ahead];omega
 · unfold sortWorldK putRowK
   rw[heap_grow_old _ _ (by rw[Go.Sort.size_putRow];exact hk)]
   have:b≠k:=λe=>hn (by subst e;exact hb)
   simp[putRow,mapBlock,Array.getElem?_modify,this]
 · show w.drawn<=w.drawn+m
   omega
theorem mG{c:Array Value}{e:TypeId}{fr:Nat×Nat}(h:w.heap[b]? =some (.cells c e fr))(m:Nat)(d:Array (Int×Int))(os:Array Obj):(sortWorldK fB 2 w b 0 m d os).heap[b]? =some (.cells (putCells id 0 (flatK fB 2 d) c) e fr):=by
 unfold sortWorldK putRowK
 rw[heap_grow_old _ _ (by rw[Go.Sort.size_putRow];exact cK h)]
 simp[putRow,mapBlock,Array.getElem?_modify,h,onCells]
theorem kG{d:Array Value}{c:Array Value}{k:Nat}(h:k<d.size)(hc:k<c.size):(putCells id 0 d c)[k]? =some d[k]! :=by
 simp[putCells,h,hc]
theorem nC{d:Array (Int×Int)}{i q:Nat}(hi:i<d.size)(hq:q<2):(flatK fB 2 d)[i*2+q]! =(fB d[i]!)[q]! :=by
 rw[get_flatK _ _ _ _ (by omega),show(i*2+q)/2=i by omega,show(i*2+q)%2=q by omega]
end
theorem mP{P:Program}{ρ:Ren}(L:SlLaysF0.n6 P ρ)(aE:∀w,(isAgg (ρ.t 24)).run P w= .ok true w)(zE:∀w,(Go.sizeOf (ρ.t 24)).run P w= .ok 2 w)(cf:Int×Int->Int×Int->Int)(hO:SWO (ltOf cf))(g:Nat)(cb:Array Value)(eg:∀args w,(callFunc g args).run P w= .ok (.enter g args) w)
   {γ:aG}{w:World}{j:Nat}{v:Value}{ds:List (Int×Int)}(hne:ds≠[])(hl:Ow γ (is j) (is j) w v ds)
   (hc:∀W,b6 (is j) γ w γ W->∀x y,Calls P g (#[.agg (fB x).toArray,.agg (fB y).toArray]++cb) W λe w'=>e= .returned (.int .i64 (cf x y))/\dW W.heap.size W w'):
   Calls P (ρ.f 6) #[v,.func (.func g) #[] cb] w λe w'=>e= .returned (.tuple #[])/\∃ds':List (Int×Int),ds'.Perm ds/\ds'.Pairwise (λx y=>ltOf cf y x=false)/\b6 (is j) γ w γ w'/\Ow γ (is j) (is j) w' v ds':=by
 rcases hl with⟨_,h⟩|⟨b,cap,c,e,rfl,hcap,hm,hJ,hb,hcs,hx⟩
 · exact absurd h hne
 · have hsz1:Rp.sz (Int×Int)=2:=rfl
   rw[hsz1] at hcs
   have hbs:=cK hb
   have hlen:ds.length=ds.toArray.size:=by simp
   have hget:∀i,i<ds.length->∀q,q<2->c[i*2+q]? =some (fB ds.toArray[i]!)[q]! :=λi hi q hq=>by
     obtain⟨cs,h1,h2⟩:=hx i ds[i] (by simp[hi])
     have h2:cs=fB ds[i]:=by
       obtain⟨c1,c2,e0,e1,e2⟩:=h2
       have e1:c1=[Value.int .i64 ds[i].1]:=e1
       have e2:c2=[Value.int .i64 ds[i].2]:=e2
       rw[e0,e1,e2];rfl
     have h1:=h1 q hq
     rw[h2] at h1
     rw[hsz1] at h1
     rw[h1]
     have e3:ds.toArray[i]! =ds[i]:=by simp[hi]
     rw[e3]
     have:q<(fB ds[i]).length:=hq
     rw[List.getElem?_eq_getElem this,getElem!_pos (fB ds[i]) q this]
   have hH:HoldsK fB 2 w b 0 ds.toArray:=λt ht=>by
     have ht:t<ds.length*2:=by simpa using ht
     constructor
     · have:=hget (t/2) (by omega) (t%2) (by omega)
       rw[show t/2*2+t%2=t by omega] at this
       simp only[World.cell?,hb,Nat.zero_add]
       rw[this]
       have e4:=nC (d:=ds.toArray) (i:=t/2) (q:=t%2) (by simp;omega) (by omega)
       rw[show t/2*2+t%2=t by omega] at e4
       rw[e4];rfl
     · simp[World.frozen?,hb]
   have hcmp:CmpLays P g cb fB 2 cf b 0 ds.toArray.size w:=λm os dk hs x y=>
     (hc _ (km hJ m dk os) x y).mono λe w' ⟨h1,h2⟩=>⟨h1,h2.grown2⟩
   have key:=AnyQ.slices_SortFunc L 2 aE zE fB (λ_=>rfl) (λx v hv=>by
     unfold fB at hv
     rcases List.mem_cons.1 hv with q|q
     · rw[q];rfl
     · rw[List.mem_singleton.1 q];rfl) cf hO g cb b 0 cap ds.toArray w eg hcmp hH hbs (by simp;omega)
   rw[hlen]
   refine key.mono λe' w' ⟨h1,d',n,os,hp,hs,hw⟩=>⟨h1,d'.toList,?_,?_,?_,?_⟩
   · obtain⟨q1,_,q3⟩:=hp
     rw[<-q1] at q3
     have e1:(d'.extract 0 d'.size)=d':=by simp
     rw[e1,q1] at q3
     have e2:(ds.toArray.extract 0 ds.toArray.size)=ds.toArray:=Array.extract_size
     rw[e2] at q3
     simpa using q3
   · rw[List.pairwise_iff_getElem]
     intro i k hi hk hik
     have hi:i<d'.size:=by simpa using hi
     have hk:k<d'.size:=by simpa using hk
     have:=hs i k (Nat.zero_le _) hik (by rw[<-hp.1];exact hk)
     rw[getElem!_pos d' k hk,getElem!_pos d' i hi] at this
     simpa using this
   · rw[hw];exact km hJ n d' os
   · have hs':d'.size=ds.length:=by rw[hp.1];simp
     have hd:d'.toList.length=ds.length:=by simpa using hs'
     refine .inr ⟨b,cap,_,e,by rw[hd];simp,by rw[hd];exact hcap,hm,hJ,by rw[hw];exact mG hb n d' os,by rw[hsz1];simpa[putCells] using hcs,λi x hi=>?_⟩
     have hi':i<d'.size:=by
       have:=(List.getElem?_eq_some_iff.1 hi).1
       simpa using this
     have hx':d'[i]! =x:=by
       rw[getElem!_pos d' i hi']
       have:=List.getElem?_eq_some_iff.1 hi
       obtain⟨p1,p2⟩:=this
       simpa using p2
     refine⟨fB x,λq hq=>?_,⟨[.int .i64 x.1],[.int .i64 x.2],rfl,rfl,rfl⟩⟩
     have hq2:q<2:=hq
     have hl2:q<(fB x).length:=hq2
     rw[hsz1,kG (by rw[size_flatK];omega) (by rw[hcs];omega),nC hi' hq2,hx',List.getElem?_eq_getElem hl2,getElem!_pos (fB x) q hl2]
def j7(x y:Int×Int):Prop:=x.1<y.1\/(x.1=y.1/\x.2<y.2)
instance (x y:Int×Int):Decidable (j7 x y):=by unfold j7;infer_instance
def mR(x:Int×Int):List (Int×Int)->List (Int×Int)
 |[]=>[x]
 |y::t=>if j7 y x then y::mR x t else x::y::t
def gx(l:List (Int×Int)):List (Int×Int):=l.foldr mR []
theorem pw{x y z:Int×Int}(h:j7 x y)(h2:j7 y z):j7 x z:=by unfold j7 at*;omega
theorem o7{x:Int×Int}:¬j7 x x:=by unfold j7;omega
theorem rc{x y:Int×Int}(h:¬j7 x y)(h2:¬j7 y x):x=y:=by
 unfold j7 at*
 exact Prod.ext (by omega) (by omega)
theorem n8{x y z:Int×Int}(h:¬j7 y x)(h2:¬j7 z y):¬j7 z x:=by unfold j7 at*;omega
theorem iK(x:Int×Int):∀l,(mR x l).Perm (x::l)
 |[]=>List.Perm.refl _
 |y::t=>by
   unfold mR
   split
   · exact((iK x t).cons y).trans (List.Perm.swap x y t)
   · exact List.Perm.refl _
theorem fS:∀l,(gx l).Perm l
 |[]=>List.Perm.refl _
 |x::t=>(iK x (gx t)).trans ((fS t).cons x)
theorem j6(x:Int×Int):∀l,l.Pairwise (λa b=>¬j7 b a)->(mR x l).Pairwise λa b=>¬j7 b a
 |[],_=>by simp[mR]
 |y::t,h=>by
   obtain⟨h1,h2⟩:=List.pairwise_cons.1 h
   unfold mR
   split
   · rename_i c
     refine List.pairwise_cons.2 ⟨λz hz=>?_,j6 x t h2⟩
     rcases List.mem_cons.1 ((iK x t).mem_iff.1 hz) with q|q
     · rw[q];exact λk=>o7 (pw c k)
     · exact h1 z q
   · rename_i c
     refine List.pairwise_cons.2 ⟨λz hz=>?_,h⟩
     rcases List.mem_cons.1 hz with q|q
     · rw[q];exact c
     · exact n8 c (h1 z q)
theorem jc:∀l,(gx l).Pairwise λa b=>¬j7 b a
 |[]=>.nil
 |x::t=>j6 x _ (jc t)
theorem lB:∀(l m:List (Int×Int)),l.Perm m->l.Pairwise (λa b=>¬j7 b a)->m.Pairwise (λa b=>¬j7 b a)->l=m
 |[],m,hp,_,_=>(List.nil_perm.1 hp).symm▸rfl
 |x::t,[],hp,_,_=>absurd (List.perm_nil.1 hp) (by simp)
 |x::t,y::u,hp,h1,h2=>by
   obtain⟨a1,a2⟩:=List.pairwise_cons.1 h1
   obtain⟨b1,b2⟩:=List.pairwise_cons.1 h2
   have e:x=y:=by
     have hx:x∈y::u:=hp.mem_iff.1 (List.mem_cons_self ..)
     have hy:y∈x::t:=hp.mem_iff.2 (List.mem_cons_self ..)
     rcases List.mem_cons.1 hx with q|q
     · exact q
     · rcases List.mem_cons.1 hy with q2|q2
       · exact q2.symm
       · exact rc (b1 x q) (a1 y q2)
   subst e
   rw[lB t u (List.Perm.cons_inv hp) a2 b2]
theorem rt{l m:List (Int×Int)}(hp:m.Perm l)(hs:m.Pairwise λa b=>¬j7 b a):m=gx l:=
 lB m (gx l) (hp.trans (fS l).symm) hs (jc l)
end TL
/-
  TlCls: what a walk depth first over blocks may rely on: which edges belong together, and what parts them.
  By an AI agent.
-/
set_option linter.all false
namespace TL
inductive Wy (g:bw) (A:Int->Prop):Int->Int->Prop
  |refl {x:Int}:A x->Wy g A x x
  |step {x:Int} {h:Int}:Wy g A x (aq g h)->hf g h->A (b9 g h)->Wy g A x (b9 g h)
variable{g:bw}{A B:Int->Prop}{x y z:Int}
theorem Wy.right(h:Wy g A x y):A y:=by cases h<;>assumption
theorem Wy.left(h:Wy g A x y):A x:=by
 induction h with
 |refl h=>exact h
 |step _ _ _ ih=>exact ih
theorem Wy.mono(h:Wy g A x y)(hAB:∀z,A z->B z):Wy g B x y:=by
 induction h with
 |refl h=>exact .refl (hAB _ h)
 |step _ b c ih=>exact .step ih b (hAB _ c)
theorem Wy.trans(h:Wy g A x y)(k:Wy g A y z):Wy g A x z:=by
 induction k with
 |refl _=>exact h
 |step _ b c ih=>exact .step ih b c
theorem Wy.one{h:Int}(hh:hf g h)(a:A (aq g h))(b:A (b9 g h)):Wy g A (aq g h) (b9 g h):=.step (.refl a) hh b
theorem Wy.symm(h:Wy g A x y):Wy g A y x:=by
 induction h with
 |refl h=>exact .refl h
 |step p b c ih=>
   rename_i h'
   obtain⟨t1,_,t3,t4⟩:=cH (g:=g) b
   have q:Wy g A (b9 g h') (aq g h'):=by
     have:=Wy.one (g:=g) (A:=A) t1 (by rw[t3];exact c) (by rw[t4];exact p.right)
     rwa[t3,t4] at this
   exact q.trans ih
def kS(g:bw)(e f:Int):Prop:=∃h k,hf g h/\hf g k/\h/2=e/\k/2=f/\aq g h=aq g k/\b9 g h≠aq g h/\b9 g k≠aq g k/\Wy g (λz=>z≠aq g h) (b9 g h) (b9 g k)
inductive EqB (g:bw):Int->Int->Prop
 |refl (e:Int):EqB g e e
 |rel {e f:Int}:kS g e f->EqB g e f
 |symm {e f:Int}:EqB g e f->EqB g f e
 |trans {e f k:Int}:EqB g e f->EqB g f k->EqB g e k
def j8(g:bw)(la:List Bool)(ed:List Int)(e:Int):Prop:=(0<=e/\e<(g.2.length:Int))/\gI la e=true/\e∉ed
def rG(g:bw)(la:List Bool)(ed bl:List Int)(b:Int):Prop:=
  (∃e0,(gI g.2 e0).1=(gI g.2 e0).2/\∀e,j8 g la ed e->gI bl e=b->e=e0)\/
  ∃(T:Int->Prop) (u:Int),¬T u/\(∀h,hf g h->T (aq g h)->(T (b9 g h)\/b9 g h=u)/\j8 g la ed (h/2)/\gI bl (h/2)<=b)/\
    (∀e,j8 g la ed e->gI bl e=b->∃h,hf g h/\h/2=e/\T (aq g h))/\∀e f,j8 g la ed e->j8 g la ed f->gI bl e=b->gI bl f=b->EqB g e f
abbrev Fm:=List (Int×List Int)
structure oZ(g:bw)(pl lo by_:List Int)(la:List Bool)(path:List Int)(A:Fm)(v:Int)(S:List Int)(B:Fm):Prop where
  own:(A=[]/\S=[]/\gI by_ v= -1)\/(∃A' u U S',A=A'++[(u,U)]/\S=gI by_ v/2::S'/\aq g (gI by_ v)=u/\0<=gI by_ v)
  asc:∀p∈A,gI pl p.1<gI pl v
  eqb:∀e∈S,EqB g e (gI by_ v/2)
  end_:∀e∈S,∃h,hf g h/\h/2=e/\gI pl v<=gI pl (aq g h)
  low:∀p∈A,∀e∈p.2,∀h,hf g h->h/2=e->gI pl (aq g h)<gI pl v
  cross:∀h,hf g h->gI pl (aq g h)≠0->aq g h∉path->gI pl (aq g h)<gI pl v->gI pl (b9 g h)<gI pl v
  conn:∀x,0<=x->x<g.1->gI pl v<=gI pl x->Wy g (λz=>(0<=z/\z<g.1)/\gI pl v<=gI pl z) v x
  l1:∀h,hf g h->gI la (h/2)=true->gI pl v<=gI pl (aq g h)->gI pl (b9 g h)<gI pl v->h/2≠gI by_ v/2->∃w∈v::B.map Prod.fst,gI lo w<=gI pl (b9 g h)
  l2:gI lo v<=gI pl v
  l3:gI lo v<gI pl v->∃h,hf g h/\gI la (h/2)=true/\gI pl v<=gI pl (aq g h)/\gI pl (b9 g h)=gI lo v
structure fA(g:bw)(s:Bs)(fr:Fm):Prop where
 se:dH g s (fr.map Prod.fst)
 stk:s.edges=(fr.map Prod.snd).flatten
 inj:∀x y,0<=x->x<g.1->0<=y->y<g.1->gI s.place x≠0->gI s.place x=gI s.place y->x=y
 lof:∀h,hf g h->gI s.laid (h/2)=true->gI s.place (aq g h)≠0
 fra:∀A v S B,fr=A++(v,S)::B->oZ g s.place s.low s.by_ s.laid (fr.map Prod.fst) A v S B
 clr:∀e,j8 g s.laid s.edges e->0<=gI s.block e/\gI s.block e<s.count
 clb:∀b,0<=b->b<s.count->rG g s.laid s.edges s.block b
theorem rG.congr{la la':List Bool}{ed ed' bl bl':List Int}{b:Int}(h:rG g la ed bl b)(hc:∀e,j8 g la' ed' e->gI bl' e=b->j8 g la ed e/\gI bl e=b)(hc':∀e,j8 g la ed e->j8 g la' ed' e/\gI bl' e=gI bl e):rG g la' ed' bl' b:=by
 rcases h with⟨e0,h1,h2⟩|⟨T,u,h1,h2,h3,h4⟩
 · exact .inl ⟨e0,h1,λe a c=>h2 e (hc e a c).1 (hc e a c).2⟩
 · refine .inr ⟨T,u,h1,λh hh ht=>?_,λe a c=>h3 e (hc e a c).1 (hc e a c).2,λe f a c d k=>h4 e f (hc e a d).1 (hc f c k).1 (hc e a d).2 (hc f c k).2⟩
   obtain⟨a,c,d⟩:=h2 h hh ht
   exact⟨a,(hc' _ c).1,by rw[(hc' _ c).2];exact d⟩
theorem dm{la:List Bool}{e x:Int}{c:Bool}(e0:0<=e)(e1:e<(la.length:Int))(x0:0<=x):gI (la.set e.toNat c) x=if x=e then c else gI la x:=bT e0 e1 x0
theorem i7{la:List Bool}{ed:List Int}{e x:Int}(e0:0<=e)(e1:e<(la.length:Int))(hl:¬gI la e=true):j8 g (la.set e.toNat true) (ed++[e]) x↔j8 g la ed x:=by
 unfold j8
 constructor
 · rintro⟨a,b,c⟩
   have hne:x≠e:=λk=>c (by rw[k];simp)
   rw[dm e0 e1 a.1,if_neg hne] at b
   exact⟨a,b,λk=>c (List.mem_append_left _ k)⟩
 · rintro⟨a,b,c⟩
   have hne:x≠e:=λk=>hl (by rw[<-k];exact b)
   refine⟨a,by rw[dm e0 e1 a.1,if_neg hne];exact b,λk=>?_⟩
   rcases List.mem_append.1 k with k|k
   · exact c k
   · exact hne (List.mem_singleton.1 k)
theorem o9(c:Int):∀(P bl:List Int) (x:Int),0<=x->x<(bl.length:Int)->(∀e∈P,0<=e/\e<(bl.length:Int))->gI (P.foldl (λb e=>b.set e.toNat c) bl) x=if x∈P then c else gI bl x
 |[],bl,x,_,_,_=>by simp
 |e::P,bl,x,h0,h1,hP=>by
   have he:=hP e (List.mem_cons_self ..)
   rw[List.foldl_cons,o9 c P (bl.set e.toNat c) x h0 (by rw[List.length_set];exact h1) (λy hy=>by rw[List.length_set];exact hP y (List.mem_cons_of_mem _ hy)),bT he.1 he.2 h0]
   by_cases k1:x∈P
   · rw[if_pos k1,if_pos (List.mem_cons_of_mem _ k1)]
   · rw[if_neg k1]
     by_cases k2:x=e
     · rw[if_pos k2,if_pos (by rw[k2];exact List.mem_cons_self ..)]
     · rw[if_neg k2,if_neg (λk=>(List.mem_cons.1 k).elim k2 k1)]
theorem lA{s:Bs}{pre rest:List Int}{e:Int}(he:s.edges=pre++e::rest)(hn:s.edges.Nodup):dq s e={s with block:=(e::rest).foldl (λb x=>b.set x.toNat s.count) s.block,edges:=pre,count:=s.count+1}:=by
  have hr:e∉rest:=by
    rw[he,List.nodup_append] at hn
    exact(List.nodup_cons.1 hn.2.1).1
  have ha:ln s.edges e=pre.length:=by rw[he];exact n7 hr
  unfold dq
  rw[ha,he]
  simp
structure kw(g:bw)(s:Bs)(path:List Int):Prop where
  use:∀x,0<=x->x<g.1->∀j:Int,0<=j->j<gI s.next x->gI s.laid (gI (gI (ar g) x) j/2)=true
  exh:∀x,0<=x->x<g.1->gI s.place x≠0->x∉path->gI s.next x=((gI (ar g) x).length:Int)
theorem bW(hm:aV g){h:Int}(hh:hf g h):0<=aq g h/\aq g h<g.1:=by
 obtain⟨t1,_,t3,t4⟩:=cH (g:=g) hh
 have:=dF hm t1.1 t1.2
 rwa[t4] at this
theorem dY(hm:aV g){h:Int}(hh:hf g h):0<=b9 g h/\b9 g h<g.1:=dF hm hh.1 hh.2
theorem kw.all{s:Bs}{path:List Int}(hm:aV g)(h:kw g s path){k:Int}(hk:hf g k)(h1:gI s.place (aq g k)≠0)(h2:aq g k∉path):gI s.laid (k/2)=true:=by
  obtain⟨f0,f1⟩:=bW hm hk
  have he:=h.exh _ f0 f1 h1 h2
  have hin:k∈gI (ar g) (aq g k):=by
    rw[dP f0 f1]
    exact e8 hk
  obtain⟨i,hi,e⟩:=List.mem_iff_getElem.1 hin
  have:=h.use _ f0 f1 (i:Int) (by omega) (by rw[he];omega)
  have e2:∀(L:List Int) (hL:i<L.length),gI L (i:Int)=L[i]:=λL hL=>by simp[gI,hL]
  rw[e2 _ hi,e] at this
  exact this
end TL
