/- Plain texts of this claim, part 2. By an AI agent. -/
import Derived.Test.YtfpckpgnnplhnaaGreatSkTlP1
import Derived.Carry
import Derived.Deep.Slices
import Derived.Lib.SlicesCompact
import Derived.Lib.SmallJoins
import Derived.Maps.RangeRun
set_option linter.all false
namespace TL
structure Bs where
 place:List Int
 low:List Int
 by_:List Int
 next:List Int
 found:Int
 edges:List Int
 laid:List Bool
 block:List Int
 count:Int
def oX(l:List Int)(x:Int):Nat:=l.length-1-l.reverse.idxOf x
def fW(s:Bs)(first:Int):Bs:=
 {s with block:=(s.edges.drop (oX s.edges first)).foldl (λb e=>b.set e.toNat s.count) s.block,edges:=s.edges.take (oX s.edges first),count:=s.count+1}
def lY(s:Bs)(v:Int):Bs:={s with found:=s.found+1,place:=s.place.set v.toNat (s.found+1),low:=s.low.set v.toNat (s.found+1)}
def qQ(s:Bs)(e:Int):Bs:={s with laid:=s.laid.set e.toNat true,edges:=s.edges++[e]}
def gQ(g:cv)(s:Bs)(v h:Int):Bs×Int×Bool:=
 if gI s.laid (h/2)=true then(s,0,false)
 else if fZ g h=v then(fW (qQ s (h/2)) (h/2),0,false)
 else if gI s.place (fZ g h)=0 then(lY {qQ s (h/2) with by_:=s.by_.set (fZ g h).toNat h} (fZ g h),fZ g h,true)
 else({qQ s (h/2) with low:=s.low.set v.toNat (min (gI s.low v) (gI s.place (fZ g h)))},0,false)
def iq(g:cv)(s:Bs)(v:Int):Bs:=
 if gI s.by_ v<0 then s
 else
   let u:=dz g (gI s.by_ v)
   let s1:Bs:={s with low:=s.low.set u.toNat (min (gI s.low u) (gI s.low v))}
   if gI s1.place u<=gI s1.low v then fW s1 (gI s.by_ v/2) else s1
def eZ(g:cv)(s:Bs)(path:List Int)(u:Int):Bs×List Int:=
 if gI s.next u=((gI (bX g) u).length:Int) then(iq g s u,path.dropLast)
 else
   let h:=gI (gI (bX g) u) (gI s.next u)
   let t:=gQ g {s with next:=s.next.set u.toNat (gI s.next u+1)} u h
   (t.1,if t.2.2=true then path++[t.2.1] else path)
def AM(g:cv):Nat->Bs->List Int->Bs
 |0,s,_=>s
 |n+1,s,path=>if path=[] then s else AM g n (eZ g s path (gI path ((path.length:Int)-1))).1 (eZ g s path (gI path ((path.length:Int)-1))).2
def cj(g:cv)(s:Bs)(path:List Int):Nat:=2*(((cz g.1.toNat).map λv=>((gI (bX g) v).length-(gI s.next v).toNat)).sum)+path.length
def gc(g:cv)(s:Bs)(v:Int):Bs:=AM g (cj g (lY s v) [v]) (lY s v) [v]
def im(g:cv):Bs:=⟨List.replicate g.1.toNat 0,List.replicate g.1.toNat 0,List.replicate g.1.toNat (-1),List.replicate g.1.toNat 0,0,[],List.replicate g.2.length false,List.replicate g.2.length 0,0⟩
def gN(g:cv)(k:Nat):Bs:=(cz k).foldl (λs v=>if gI s.place v=0 then gc g s v else s) (im g)
def fz(by_:List Int)(path:List Int):List Int:=path.tail.map λv=>gI by_ v/2
structure fR(g:cv)(s:Bs)(path:List Int):Prop where
  l1:(s.place.length:Int)=g.1
  l2:(s.low.length:Int)=g.1
  l3:(s.by_.length:Int)=g.1
  l4:(s.next.length:Int)=g.1
  l5:(s.laid.length:Int)=g.2.length
  l6:(s.block.length:Int)=g.2.length
  nx:∀v,0<=v->v<g.1->0<=gI s.next v/\gI s.next v<=((gI (bX g) v).length:Int)
  pl:∀v,0<=v->v<g.1->0<=gI s.place v/\gI s.place v<=s.found
  f0:0<=s.found
  fn:s.found+(s.place.count 0:Int)=g.1
  by_:∀v,0<=v->v<g.1->gI s.by_ v= -1\/((0<=gI s.by_ v/\gI s.by_ v<2*(g.2.length:Int))/\fZ g (gI s.by_ v)=v/\gI s.place v≠0)
  en:s.edges.Nodup
  el:∀e∈s.edges,(0<=e/\e<(g.2.length:Int))/\gI s.laid e=true
  ct:0<=s.count
  cl:s.count+(s.edges.length:Int)<=(s.laid.count true:Int)
  pn:path.Nodup
  pr:∀v∈path,(0<=v/\v<g.1)/\gI s.place v≠0
  p0:∀v,path.head? =some v->gI s.by_ v= -1
  pt:∀v∈path.tail,0<=gI s.by_ v
  pe:(fz s.by_ path).Sublist s.edges
variable{g:cv}{s:Bs}{path:List Int}{e v w u hh:Int}
theorem x2{x:Int}{n:Nat}{v:Int}(h0:0<=v)(h1:v<n):gI (List.replicate n x) v=x:=by
 obtain⟨k,rfl⟩:∃k:Nat,v=(k:Int):=⟨v.toNat,by omega⟩
 have:k<n:=by omega
 simp[gI,this]
theorem jh{l:List Int}{i:Nat}(hi:i<l.length){x:Int}(h0:l[i]=0)(hx:x≠0):(l.set i x).count 0+1=l.count 0:=by
 have hp:0<l.count 0:=List.count_pos_iff.2 (h0▸List.getElem_mem hi)
 rw[List.count_set hi,h0]
 simp[hx]
 omega
theorem mH{l:List Bool}{i:Nat}(hi:i<l.length)(h0:l[i]=false):(l.set i true).count true=l.count true+1:=by
 rw[List.count_set hi,h0]
 simp
theorem zx{l:List Bool}{i:Int}(h0:0<=i)(h1:i<l.length):∃h:i.toNat<l.length,gI l i=l[i.toNat]:=⟨by omega,by
 have:i.toNat<l.length:=by omega
 simp[gI,this]⟩
theorem rG{l:List Int}{i:Int}(h0:0<=i)(h1:i<l.length):∃h:i.toNat<l.length,gI l i=l[i.toNat]:=⟨by omega,by
 have:i.toNat<l.length:=by omega
 simp[gI,this]⟩
theorem fR.start(hm:c7 g):fR g (im g) []:=by
 have h0:=hm.1
 have r0:∀{x:Int} {v:Int},0<=v->v<g.1->gI (List.replicate g.1.toNat x) v=x:=λa b=>x2 a (by omega)
 refine⟨by simp[im];omega,by simp[im];omega,by simp[im];omega,by simp[im];omega,by simp[im],by simp[im],λv a b=>?_,λv a b=>?_,Int.le_refl _,?_,λv a b=>.inl (r0 a b),List.nodup_nil,λe he=>absurd he List.not_mem_nil,Int.le_refl _,?_,List.nodup_nil,λv hv=>absurd hv List.not_mem_nil,λv hv=>by simp at hv,λv hv=>absurd hv List.not_mem_nil,List.Sublist.refl _⟩
 · show 0<=gI (List.replicate g.1.toNat (0:Int)) v/\_<=_
   rw[show gI (im g).next v=gI (List.replicate g.1.toNat (0:Int)) v from rfl,r0 a b];omega
 · show 0<=gI (List.replicate g.1.toNat (0:Int)) v/\gI (List.replicate g.1.toNat (0:Int)) v<=0
   rw[r0 a b];omega
 · show(0:Int)+((List.replicate g.1.toNat (0:Int)).count 0:Int)=g.1
   rw[List.count_replicate];simp;omega
 · show(0:Int)+((([]:List Int)).length:Int)<=((List.replicate g.2.length false).count true:Int)
   simp
theorem fR.lay(h:fR g s path)(e0:0<=e)(e1:e<(g.2.length:Int))(hl:¬gI s.laid e=true):fR g (qQ s e) path/\e∉s.edges:=by
  have hl5:=h.l5
  obtain⟨hi,hg⟩:=zx (l:=s.laid) e0 (by omega)
  have hne:e∉s.edges:=λk=>hl (h.el e k).2
  have hf:s.laid[e.toNat]=false:=by rw[<-hg];simpa using hl
  have hc:=mH hi hf
  refine⟨⟨h.l1,h.l2,h.l3,h.l4,by show((s.laid.set e.toNat true).length:Int)=_;rw[List.length_set];exact hl5,h.l6,h.nx,h.pl,h.f0,h.fn,h.by_,?_,λx hx=>?_,h.ct,?_,h.pn,h.pr,h.p0,h.pt,h.pe.trans (List.sublist_append_left ..)⟩,hne⟩
  · show(s.edges++[e]).Nodup
    rw[List.nodup_append]
    exact⟨h.en,by simp,λa ha b hb=>by rw[List.mem_singleton.1 hb];exact λk=>hne (by rw[<-k];exact ha)⟩
  · show(0<=x/\x<_)/\gI (s.laid.set e.toNat true) x=true
    rcases List.mem_append.1 hx with k|k
    · obtain⟨a,b⟩:=h.el x k
      refine⟨a,?_⟩
      rw[eI e0 (by omega) a.1]
      split
      · rfl
      · exact b
    · rw[List.mem_singleton.1 k]
      exact⟨⟨e0,e1⟩,by rw[eI e0 (by omega) e0,if_pos rfl]⟩
  · show s.count+((s.edges++[e]).length:Int)<=((s.laid.set e.toNat true).count true:Int)
    rw[hc,List.length_append,List.length_singleton]
    have:=h.cl;omega
theorem ur{A B:List Int}{x:Int}(hB:x∉B):oX (A++x::B) x=A.length:=by
 unfold oX
 rw[List.reverse_append,List.reverse_cons,List.append_assoc,List.idxOf_append]
 rw[if_neg (by simpa using hB)]
 simp
theorem rd{l:List Int}{x:Int}(hn:l.Nodup)(hx:x∈l):∃A B,l=A++x::B/\x∉A/\x∉B/\oX l x=A.length:=by
 obtain⟨A,B,e⟩:=List.append_of_mem hx
 have hn':=hn
 rw[e,List.nodup_append] at hn'
 have h1:x∉B:=(List.nodup_cons.1 hn'.2.1).1
 have h2:x∉A:=λk=>hn'.2.2 x k x (List.mem_cons_self ..) rfl
 exact⟨A,B,e,h2,h1,by rw[e];exact ur h1⟩
theorem mx(c:Int):∀(l b:List Int),(l.foldl (λb e=>b.set e.toNat c) b).length=b.length
 |[],b=>rfl
 |x::l,b=>by rw[List.foldl_cons,mx c l,List.length_set]
theorem fR.close(h:fR g s path)(he:e∈s.edges)(hp:(fz s.by_ path).Sublist (s.edges.take (oX s.edges e))):fR g (fW s e) path:=by
  obtain⟨A,B,e1,_,_,e2⟩:=rd h.en he
  have hlt:oX s.edges e<s.edges.length:=by rw[e2,e1];simp
  have hs:(s.edges.take (oX s.edges e)).Sublist s.edges:=List.take_sublist _ _
  refine⟨h.l1,h.l2,h.l3,h.l4,h.l5,?_,h.nx,h.pl,h.f0,h.fn,h.by_,hs.nodup h.en,λx hx=>h.el x (hs.subset hx),by show 0<=s.count+1;have:=h.ct;omega,?_,h.pn,h.pr,h.p0,h.pt,hp⟩
  · show(((s.edges.drop (oX s.edges e)).foldl (λb x=>b.set x.toNat s.count) s.block).length:Int)=_
    rw[mx];exact h.l6
  · show s.count+1+((s.edges.take (oX s.edges e)).length:Int)<=(s.laid.count true:Int)
    rw[List.length_take]
    have:=h.cl;omega
theorem fR.lows(h:fR g s path)(x:Int)(k:Nat):fR g {s with low:=s.low.set k x} path:=
  {h with l2:=by show((s.low.set k x).length:Int)=_;rw[List.length_set];exact h.l2}
theorem fR.nexts(h:fR g s path)(u0:0<=u)(u1:u<g.1)(hn:¬gI s.next u=((gI (bX g) u).length:Int)):fR g {s with next:=s.next.set u.toNat (gI s.next u+1)} path:=
  {h with
    l4:=by show((s.next.set u.toNat _).length:Int)=_;rw[List.length_set];exact h.l4
    nx:=λx a b=>by
      show 0<=gI (s.next.set u.toNat (gI s.next u+1)) x/\gI (s.next.set u.toNat (gI s.next u+1)) x<=_
      rw[eI u0 (by have:=h.l4;omega) a]
      obtain⟨c,d⟩:=h.nx x a b
      split
      · rename_i k
        subst k
        obtain⟨c,d⟩:=h.nx x u0 u1
        omega
      · exact⟨c,d⟩}
theorem ov{b b':List Int}{p:List Int}(h:∀x∈p.tail,gI b x=gI b' x):fz b p=fz b' p:=by
 unfold fz
 exact List.map_congr_left λx hx=>by rw[h x hx]
theorem ln{b:List Int}{p:List Int}(hp:p≠[])(x:Int):fz b (p++[x])=fz b p++[gI b x/2]:=by
 unfold fz
 cases p with
 |nil=>exact absurd rfl hp
 |cons a l=>simp
theorem fR.grow(h:fR g s path)(hp:path≠[])(w0:0<=w)(w1:w<g.1)(hw:gI s.place w=0)(h0:0<=hh)(h1:hh<2*(g.2.length:Int))(ht:fZ g hh=w)(he:(fz s.by_ path++[hh/2]).Sublist s.edges):
    fR g (lY {s with by_:=s.by_.set w.toNat hh} w) (path++[w]):=by
  have l1:=h.l1
  have l2:=h.l2
  have l3:=h.l3
  have f0:=h.f0
  have hwp:w∉path:=λk=>(h.pr w k).2 hw
  have gp:∀x,0<=x->gI (s.place.set w.toNat (s.found+1)) x=if x=w then s.found+1 else gI s.place x:=λx a=>eI w0 (by omega) a
  have gb:∀x,0<=x->gI (s.by_.set w.toNat hh) x=if x=w then hh else gI s.by_ x:=λx a=>eI w0 (by omega) a
  obtain⟨hi,hg⟩:=rG (l:=s.place) w0 (by omega)
  have hc:=jh hi (x:=s.found+1) (by rw[<-hg];exact hw) (by omega)
  refine⟨by show((s.place.set _ _).length:Int)=_;rw[List.length_set];exact l1,by show((s.low.set _ _).length:Int)=_;rw[List.length_set];exact l2,by show((s.by_.set _ _).length:Int)=_;rw[List.length_set];exact l3,h.l4,h.l5,h.l6,h.nx,λx a b=>?_,by show 0<=s.found+1;omega,?_,λx a b=>?_,h.en,h.el,h.ct,h.cl,?_,λx hx=>?_,λx hx=>?_,λx hx=>?_,?_⟩
  · show 0<=gI (s.place.set w.toNat (s.found+1)) x/\gI (s.place.set w.toNat (s.found+1)) x<=s.found+1
    rw[gp x a]
    have:=h.pl x a b
    split<;>omega
  · show s.found+1+((s.place.set w.toNat (s.found+1)).count 0:Int)=g.1
    have:=h.fn;omega
  · show gI (s.by_.set w.toNat hh) x= -1\/(0<=gI (s.by_.set w.toNat hh) x/\gI (s.by_.set w.toNat hh) x<_)/\fZ g (gI (s.by_.set w.toNat hh) x)=x/\gI (s.place.set w.toNat (s.found+1)) x≠0
    rw[gb x a,gp x a]
    by_cases k:x=w
    · rw[if_pos k,if_pos k]
      exact .inr ⟨⟨h0,h1⟩,by rw[ht,k],by omega⟩
    · rw[if_neg k,if_neg k];exact h.by_ x a b
  · rw[List.nodup_append]
    exact⟨h.pn,by simp,λa ha b hb=>by rw[List.mem_singleton.1 hb];exact λk=>hwp (by rw[<-k];exact ha)⟩
  · show(0<=x/\x<g.1)/\gI (s.place.set w.toNat (s.found+1)) x≠0
    rcases List.mem_append.1 hx with k|k
    · obtain⟨a,b⟩:=h.pr x k
      refine⟨a,?_⟩
      rw[gp x a.1];split
      · omega
      · exact b
    · rw[List.mem_singleton.1 k]
      exact⟨⟨w0,w1⟩,by rw[gp w w0,if_pos rfl];omega⟩
  · show gI (s.by_.set w.toNat hh) x= -1
    cases hpe:path with
    |nil=>exact absurd hpe hp
    |cons a l=>
      rw[hpe] at hx
      have hxa:a=x:=by simpa using hx
      have hxp:x∈path:=by rw[hpe,<-hxa];exact List.mem_cons_self ..
      rw[gb x (h.pr x hxp).1.1,if_neg (λk=>hwp (by rw[<-k];exact hxp))]
      exact h.p0 x (by rw[hpe,hxa];rfl)
  · show 0<=gI (s.by_.set w.toNat hh) x
    have hx2:x∈path.tail\/x=w:=by
      cases hpe:path with
      |nil=>exact absurd hpe hp
      |cons a l=>
        rw[hpe] at hx
        simpa using hx
    rcases hx2 with k|k
    · have hxp:x∈path:=List.mem_of_mem_tail k
      rw[gb x (h.pr x hxp).1.1,if_neg (λj=>hwp (by rw[<-j];exact hxp))]
      exact h.pt x k
    · rw[k,gb w w0,if_pos rfl];exact h0
  · show(fz (s.by_.set w.toNat hh) (path++[w])).Sublist s.edges
    rw[ln hp,gb w w0,if_pos rfl,ov (b':=s.by_) (λx hx=>?_)]
    · exact he
    · have hxp:x∈path:=List.mem_of_mem_tail hx
      rw[gb x (h.pr x hxp).1.1,if_neg (λj=>hwp (by rw[<-j];exact hxp))]
theorem fR.first(h:fR g s [])(v0:0<=v)(v1:v<g.1)(hv:gI s.place v=0):fR g (lY s v) [v]:=by
  have l1:=h.l1
  have l2:=h.l2
  have f0:=h.f0
  have gp:∀x,0<=x->gI (s.place.set v.toNat (s.found+1)) x=if x=v then s.found+1 else gI s.place x:=λx a=>eI v0 (by omega) a
  obtain⟨hi,hg⟩:=rG (l:=s.place) v0 (by omega)
  have hc:=jh hi (x:=s.found+1) (by rw[<-hg];exact hv) (by omega)
  refine⟨by show((s.place.set _ _).length:Int)=_;rw[List.length_set];exact l1,by show((s.low.set _ _).length:Int)=_;rw[List.length_set];exact l2,h.l3,h.l4,h.l5,h.l6,h.nx,λx a b=>?_,by show 0<=s.found+1;omega,?_,λx a b=>?_,h.en,h.el,h.ct,h.cl,by simp,λx hx=>?_,λx hx=>?_,λx hx=>absurd hx List.not_mem_nil,List.nil_sublist _⟩
  · show 0<=gI (s.place.set v.toNat (s.found+1)) x/\gI (s.place.set v.toNat (s.found+1)) x<=s.found+1
    rw[gp x a]
    have:=h.pl x a b
    split<;>omega
  · show s.found+1+((s.place.set v.toNat (s.found+1)).count 0:Int)=g.1
    have:=h.fn;omega
  · show gI s.by_ x= -1\/(0<=gI s.by_ x/\gI s.by_ x<_)/\fZ g (gI s.by_ x)=x/\gI (s.place.set v.toNat (s.found+1)) x≠0
    rcases h.by_ x a b with k|⟨k1,k2,k3⟩
    · exact .inl k
    · refine .inr ⟨k1,k2,?_⟩
      rw[gp x a];split
      · omega
      · exact k3
  · rw[List.mem_singleton.1 hx]
    exact⟨⟨v0,v1⟩,by show gI (s.place.set v.toNat (s.found+1)) v≠0;rw[gp v v0,if_pos rfl];omega⟩
  · have:v=x:=by simpa using hx
    rw[<-this]
    rcases h.by_ v v0 v1 with k|⟨_,_,k⟩
    · exact k
    · exact absurd hv k
theorem kK(hp:path≠[]):path=path.dropLast++[gI path ((path.length:Int)-1)]:=by
 have e:gI path ((path.length:Int)-1)=path.getLast hp:=by
   have h:0<path.length:=List.length_pos_iff.2 hp
   have e1:((path.length:Int)-1).toNat=path.length-1:=by omega
   have h2:path.length-1<path.length:=by omega
   unfold gI
   rw[e1,List.getLast_eq_getElem,List.getD_eq_getElem?_getD,List.getElem?_eq_getElem h2]
   rfl
 rw[e];exact(List.dropLast_concat_getLast hp).symm
theorem fR.drop(h:fR g s path):fR g s path.dropLast:=by
  have hs:(path.dropLast).Sublist path:=List.dropLast_sublist _
  have ht:(path.dropLast.tail).Sublist path.tail:=hs.tail
  refine {h with pn:=hs.nodup h.pn,pr:=λv hv=>h.pr v (hs.subset hv),p0:=λv hv=>h.p0 v ?_,pt:=λv hv=>h.pt v (ht.subset hv),pe:=?_}
  · cases hp:path with
    |nil=>rw[hp] at hv;simp at hv
    |cons a l=>
      rw[hp] at hv
      cases l with
      |nil=>simp at hv
      |cons b l=>simpa using hv
  · unfold fz
    exact(ht.map _).trans h.pe
theorem uh{X A B:List Int}{x:Int}(h:(X++[x]).Sublist (A++x::B))(hA:x∉A)(hB:x∉B):X.Sublist A:=by
 obtain⟨l1,l2,e,h1,h2⟩:=List.sublist_append_iff.1 h
 by_cases hl2:l2=[]
 · subst hl2
   rw[List.append_nil] at e
   exact absurd (h1.subset (by rw[<-e];simp)) hA
 · obtain⟨l,y,rfl⟩:∃l y,l2=l++[y]:=⟨l2.dropLast,l2.getLast hl2,(List.dropLast_concat_getLast hl2).symm⟩
   have e2:X++[x]=(l1++l)++[y]:=by rw[e,List.append_assoc]
   obtain⟨e3,e4⟩:=List.append_inj' e2 rfl
   have ey:y=x:=by simpa using e4.symm
   subst ey
   cases l with
   |nil=>rw[e3,List.append_nil];exact h1
   |cons z l=>
     exfalso
     rw[List.cons_append] at h2
     rcases List.sublist_cons_iff.1 h2 with k|⟨r,k1,k2⟩
     · exact hB (k.subset (by simp))
     · have:r=l++[y]:=by
         injection k1 with _ q
         exact q.symm
       rw[this] at k2
       exact hB (k2.subset (by simp))
theorem fR.top(h:fR g s path)(hp:path≠[])(hv:v=gI path ((path.length:Int)-1))(hb:¬gI s.by_ v<0):gI s.by_ v/2∈s.edges/\(fz s.by_ path.dropLast).Sublist (s.edges.take (oX s.edges (gI s.by_ v/2))):=by
  have e0:=kK hp
  rw[<-hv] at e0
  have hd:path.dropLast≠[]:=by
    intro k
    rw[k] at e0
    have:=h.p0 v (by rw[e0];rfl)
    omega
  have pe:=h.pe
  rw[e0,ln hd] at pe
  have hm:gI s.by_ v/2∈s.edges:=pe.subset (by simp)
  obtain⟨A,B,e1,hA,hB,e2⟩:=rd h.en hm
  refine⟨hm,?_⟩
  have:s.edges.take (oX s.edges (gI s.by_ v/2))=A:=by
    rw[e2]
    conv=>lhs;rw[e1]
    simp
  rw[this]
  rw[e1] at pe
  exact uh pe hA hB
theorem fR.leave(hm:c7 g)(h:fR g s path)(hp:path≠[])(hv:v=gI path ((path.length:Int)-1)):fR g (iq g s v) path.dropLast:=by
 unfold iq
 by_cases c:gI s.by_ v<0
 · rw[if_pos c];exact h.drop
 · rw[if_neg c]
   obtain⟨h1,h2⟩:=h.top hp hv c
   simp only
   have hl:=h.lows (min (gI s.low (dz g (gI s.by_ v))) (gI s.low v)) (dz g (gI s.by_ v)).toNat
   split
   · exact hl.drop.close (s:={s with low:=s.low.set (dz g (gI s.by_ v)).toNat (min (gI s.low (dz g (gI s.by_ v))) (gI s.low v))}) h1 h2
   · exact hl.drop
theorem fR.take(hm:c7 g)(h:fR g s path)(hp:path≠[])(h0:0<=hh)(h1:hh<2*(g.2.length:Int)):fR g (gQ g s v hh).1 (if(gQ g s v hh).2.2=true then path++[(gQ g s v hh).2.1] else path):=by
 have ht:=mt hm h0 h1
 unfold gQ
 by_cases c:gI s.laid (hh/2)=true
 · rw[if_pos c];exact h
 · rw[if_neg c]
   obtain⟨hl,hn⟩:=h.lay (e:=hh/2) (by omega) (by omega) c
   by_cases c2:fZ g hh=v
   · rw[if_pos c2]
     show fR g (fW (qQ s (hh/2)) (hh/2)) path
     refine hl.close (by show hh/2∈s.edges++[hh/2];simp) ?_
     have e:oX (s.edges++[hh/2]) (hh/2)=s.edges.length:=ur (A:=s.edges) (B:=[]) List.not_mem_nil
     show(fz s.by_ path).Sublist ((s.edges++[hh/2]).take (oX (s.edges++[hh/2]) (hh/2)))
     rw[e,List.take_left']
     · exact h.pe
     · rfl
   · rw[if_neg c2]
     by_cases c3:gI s.place (fZ g hh)=0
     · rw[if_pos c3]
       show fR g (lY {qQ s (hh/2) with by_:=s.by_.set (fZ g hh).toNat hh} (fZ g hh)) (path++[fZ g hh])
       exact hl.grow hp ht.1 ht.2 c3 h0 h1 rfl (h.pe.append (List.Sublist.refl _))
     · rw[if_neg c3]
       show fR g {qQ s (hh/2) with low:=s.low.set v.toNat (min (gI s.low v) (gI s.place (fZ g hh)))} path
       exact hl.lows _ _
theorem fR.step(hm:c7 g)(h:fR g s path)(hp:path≠[])(hu:u=gI path ((path.length:Int)-1)):fR g (eZ g s path u).1 (eZ g s path u).2:=by
 have hup:u∈path:=by
   have:=kK hp
   rw[<-hu] at this
   rw[this];simp
 obtain⟨⟨u0,u1⟩,_⟩:=h.pr u hup
 unfold eZ
 by_cases c:gI s.next u=((gI (bX g) u).length:Int)
 · rw[if_pos c];exact h.leave hm hp hu
 · rw[if_neg c]
   obtain⟨n0,n1⟩:=h.nx u u0 u1
   have hin:gI (gI (bX g) u) (gI s.next u)∈gI (bX g) u:=bC n0 (by omega)
   rw[jZ u0 u1] at hin
   have ho:=(lG hin).1
   rw[<-jZ u0 u1] at ho
   exact(h.nexts u0 u1 c).take hm hp ho.1 ho.2
end TL
set_option linter.all false
namespace TL
variable{g:cv}{s:Bs}{path:List Int}{e v w u hh:Int}
theorem pm{f f':Int->Nat}{u:Int}:∀{l:List Int},l.Nodup->u∈l->(∀x∈l,x≠u->f x=f' x)->f u=f' u+1->(l.map f).sum=(l.map f').sum+1
 |[],_,hu,_,_=>absurd hu List.not_mem_nil
 |a::l,hn,hu,hx,he=>by
   have hn':=List.nodup_cons.1 hn
   simp only[List.map_cons,List.sum_cons]
   by_cases c:a=u
   · subst c
     have:l.map f=l.map f':=List.map_congr_left λx hxl=>hx x (List.mem_cons_of_mem _ hxl) (λk=>hn'.1 (by rw[<-k];exact hxl))
     rw[this,he];omega
   · have h2:=pm hn'.2 ((List.mem_cons.1 hu).resolve_left (λk=>c k.symm)) (λx hxl=>hx x (List.mem_cons_of_mem _ hxl)) he
     rw[h2,hx a (List.mem_cons_self ..) c];omega
theorem tw(h:fR g s path)(u0:0<=u)(u1:u<g.1)(hn:¬gI s.next u=((gI (bX g) u).length:Int))(p:List Int):cj g s p=cj g {s with next:=s.next.set u.toNat (gI s.next u+1)} p+2:=by
 have e1:cj g {s with next:=s.next.set u.toNat (gI s.next u+1)} p=2*(((cz g.1.toNat).map λv=>((gI (bX g) v).length-(gI (s.next.set u.toNat (gI s.next u+1)) v).toNat)).sum)+p.length:=rfl
 rw[e1]
 unfold cj
 have hl:=h.l4
 obtain⟨n0,n1⟩:=h.nx u u0 u1
 have:=pm (f:=λv=>(gI (bX g) v).length-(gI s.next v).toNat) (f':=λv=>(gI (bX g) v).length-(gI (s.next.set u.toNat (gI s.next u+1)) v).toNat) (u:=u) (ml g.1.toNat) (hE.2 ⟨u0,by omega⟩) (λx hx hxu=>by
   show _=(gI (bX g) x).length-(gI (s.next.set u.toNat (gI s.next u+1)) x).toNat
   rw[eI u0 (by omega) (hE.1 hx).1,if_neg hxu]) (by
   show(gI (bX g) u).length-(gI s.next u).toNat=(gI (bX g) u).length-(gI (s.next.set u.toNat (gI s.next u+1)) u).toNat+1
   rw[eI u0 (by omega) u0,if_pos rfl]
   omega)
 rw[this];omega
theorem rn:(iq g s v).next=s.next:=by
 unfold iq
 split
 · rfl
 · simp only;split<;>rfl
theorem te:(gQ g s v hh).1.next=s.next:=by
 unfold gQ
 split
 · rfl
 · split
   · rfl
   · split<;>rfl
theorem m6{s':Bs}(h:s'.next=s.next)(p:List Int):cj g s' p=cj g s p:=by unfold cj;rw[h]
theorem ng(h:fR g s path)(hp:path≠[])(hu:u=gI path ((path.length:Int)-1)):cj g (eZ g s path u).1 (eZ g s path u).2<cj g s path:=by
 have hup:u∈path:=by
   have:=kK hp
   rw[<-hu] at this
   rw[this];simp
 obtain⟨⟨u0,u1⟩,_⟩:=h.pr u hup
 have hl:0<path.length:=List.length_pos_iff.2 hp
 unfold eZ
 by_cases c:gI s.next u=((gI (bX g) u).length:Int)
 · rw[if_pos c]
   show cj g (iq g s u) path.dropLast<_
   rw[m6 rn]
   unfold cj
   rw[List.length_dropLast];omega
 · rw[if_neg c]
   simp only
   rw[m6 te]
   have h2:=tw h u0 u1 c path
   have h3:∀p:List Int,p.length<=path.length+1->cj g {s with next:=s.next.set u.toNat (gI s.next u+1)} p<=cj g {s with next:=s.next.set u.toNat (gI s.next u+1)} path+1:=λp hp=>by unfold cj;omega
   have h4:=h3 (if(gQ g {s with next:=s.next.set u.toNat (gI s.next u+1)} u (gI (gI (bX g) u) (gI s.next u))).2.2=true then path++[(gQ g {s with next:=s.next.set u.toNat (gI s.next u+1)} u (gI (gI (bX g) u) (gI s.next u))).2.1] else path) (by split<;>simp)
   omega
structure gr(g:cv)(R s:Bs)(path:List Int):Prop where
  i:fR g s path
  res:∃f,cj g s path<=f/\AM g f s path=R
theorem gr.start(h:fR g s [])(v0:0<=v)(v1:v<g.1)(hv:gI s.place v=0):gr g (gc g s v) (lY s v) [v]:=⟨h.first v0 v1 hv,_,Nat.le_refl _,rfl⟩
theorem gr.step(hm:c7 g){R:Bs}(h:gr g R s path)(hp:path≠[])(hu:u=gI path ((path.length:Int)-1)):gr g R (eZ g s path u).1 (eZ g s path u).2/\cj g (eZ g s path u).1 (eZ g s path u).2<cj g s path:=by
 have hl:=ng h.i hp hu
 refine⟨⟨h.i.step hm hp hu,?_⟩,hl⟩
 obtain⟨f,f1,f2⟩:=h.res
 cases f with
 |zero=>omega
 |succ f=>
   refine⟨f,by omega,?_⟩
   unfold AM at f2
   rw[if_neg hp,<-hu] at f2
   exact f2
theorem gr.done{R:Bs}(h:gr g R s []):s=R:=by
 obtain⟨f,_,e⟩:=h.res
 rw[<-e]
 cases f with
 |zero=>rfl
 |succ f=>unfold AM;rw[if_pos rfl]
theorem Bk(hm:c7 g):∀(f:Nat) (s:Bs) (path:List Int),fR g s path->cj g s path<=f->fR g (AM g f s path) []
 |0,s,path,h,hf=>by
   have:path=[]:=List.length_eq_zero_iff.1 (by unfold cj at hf;omega)
   subst this
   exact h
 |f+1,s,path,h,hf=>by
   unfold AM
   by_cases c:path=[]
   · rw[if_pos c];rw[c] at h;exact h
   · rw[if_neg c]
     have:=ng h c rfl
     exact Bk hm f _ _ (h.step hm c rfl) (by omega)
theorem Ai(hm:c7 g)(h:fR g s [])(v0:0<=v)(v1:v<g.1)(hv:gI s.place v=0):fR g (gc g s v) []:=Bk hm _ _ _ (h.first v0 v1 hv) (Nat.le_refl _)
theorem kM(g:cv)(k:Nat):gN g (k+1)=if gI (gN g k).place (k:Int)=0 then gc g (gN g k) (k:Int) else gN g k:=by
 unfold gN
 rw[dX,List.foldl_append];rfl
theorem zW(hm:c7 g):∀k:Nat,(k:Int)<=g.1->fR g (gN g k) []
 |0,_=>fR.start hm
 |k+1,h=>by
   have ih:=zW hm k (by omega)
   rw[kM]
   split
   · exact Ai hm ih (by omega) (by omega) ‹_›
   · exact ih
end TL
set_option linter.all false
namespace TL
variable{g:cv}{l:List Int}{k:Nat}{b e:Int}
def bG(l:List Int):Nat->List Int×List Int
  |0=>([],[])
  |k+1=>
    let sn:=if gI l (k:Int)∈(bG l k).1 then(bG l k).1 else(bG l k).1++[gI l (k:Int)]
    (sn,(bG l k).2++[((sn.idxOf (gI l (k:Int)):Nat):Int)])
theorem lK(l:List Int):∀k,(bG l k).2.length=k/\(bG l k).1.length<=k
 |0=>⟨rfl,Nat.le_refl _⟩
 |k+1=>by
   obtain⟨a,b⟩:=lK l k
   unfold bG
   refine⟨by simp[a],?_⟩
   simp only
   split
   · omega
   · rw[List.length_append,List.length_singleton];omega
theorem vd(l:List Int)(k:Nat):(bG l k).1.length<=(bG l (k+1)).1.length:=by
 conv=>rhs;unfold bG
 simp only
 split
 · exact Nat.le_refl _
 · rw[List.length_append];omega
theorem rO(l:List Int):∀k,∀x∈(bG l k).2,0<=x/\x<((bG l k).1.length:Int)
 |0,x,hx=>absurd hx List.not_mem_nil
 |k+1,x,hx=>by
   have hg:=vd l k
   have hx2:x∈(bG l k).2++[(((if gI l (k:Int)∈(bG l k).1 then(bG l k).1 else(bG l k).1++[gI l (k:Int)]).idxOf (gI l (k:Int)):Nat):Int)]:=hx
   rcases List.mem_append.1 hx2 with c|c
   · have:=rO l k x c;omega
   · rw[List.mem_singleton.1 c]
     have hm:gI l (k:Int)∈(if gI l (k:Int)∈(bG l k).1 then(bG l k).1 else(bG l k).1++[gI l (k:Int)]):=by
       split
       · assumption
       · simp
     have:=List.idxOf_lt_length_of_mem hm
     refine⟨by omega,?_⟩
     show((_:Nat):Int)<(((if gI l (k:Int)∈(bG l k).1 then(bG l k).1 else(bG l k).1++[gI l (k:Int)]).length:Nat):Int)
     omega
def Bm(of:List Int)(g:cv)(s:List Int×List Bool)(h:Int):List Int×List Bool:=
  (s.1.set (dz g h).toNat (gI of (h/2)+1),s.2.set (dz g h).toNat (gI s.2 (dz g h)||(decide (0<gI s.1 (dz g h))&& !decide (gI s.1 (dz g h)=gI of (h/2)+1))))
def tx(of:List Int)(g:cv)(k:Nat):List Int×List Bool:=(cz k).foldl (Bm of g) (List.replicate g.1.toNat 0,List.replicate g.1.toNat false)
def mY(g:cv):List Int:=(bG (gN g g.1.toNat).block g.2.length).2
def jo(g:cv):Int:=((bG (gN g g.1.toNat).block g.2.length).1.length:Int)
def s9(g:cv):List Int:=(cz g.1.toNat).filter λv=>gI (tx (mY g) g (2*g.2.length)).2 v
def dd(g:cv):(List Int×List Int×Int)×Int:=if c7 g then((mY g,s9 g,jo g),0) else(([],[],0),1)
theorem rR(g:cv):(mY g).length=g.2.length:=(lK _ _).1
theorem Ap(g:cv){i:Int}(h0:0<=i)(h1:i<(g.2.length:Int)):0<=gI (mY g) i/\gI (mY g) i<jo g:=by
 have hl:=rR g
 exact rO _ _ _ (bC (xs:=mY g) h0 (by omega))
end TL
namespace TL
structure s5(l:List Int)(mp:(Int->Int)×List Int)(out:List Int)(k:Nat):Prop where
  dom:mp.2=(bG l k).1
  val:∀b∈mp.2,mp.1 b=((mp.2.idxOf b:Nat):Int)
  eq:out=(bG l k).2++List.replicate (l.length-k) 0
  lo:(out.length:Int)=l.length
variable{l:List Int}{mp:(Int->Int)×List Int}{out:List Int}{k:Nat}
theorem s5.start:s5 l (λ_=>0,[]) (List.replicate (Int.toNat (l.length:Int)) 0) 0:=
 ⟨rfl,λb hb=>absurd hb List.not_mem_nil,by simp[bG],by simp⟩
theorem rI{x:Int}(h:out=(bG l k).2++List.replicate (l.length-k) 0)(hk:(k:Int)<l.length):out.set (Int.toNat (k:Int)) x=((bG l k).2++[x])++List.replicate (l.length-(k+1)) 0:=by
 have hl:=(lK l k).1
 rw[h,Int.toNat_natCast,List.set_append_right _ _ (by omega),hl,Nat.sub_self]
 rw[show l.length-k=(l.length-(k+1))+1 by omega,List.replicate_succ]
 simp
theorem s5.old(h:s5 l mp out k)(hk:(k:Int)<l.length)(hm:gI l (k:Int)∈mp.2):s5 l mp (out.set (Int.toNat (k:Int)) (mp.1 (gI l (k:Int)))) (k+1):=by
 have hd:=h.dom
 have e:bG l (k+1)=((bG l k).1,(bG l k).2++[(((bG l k).1.idxOf (gI l (k:Int)):Nat):Int)]):=by
   conv=>lhs;unfold bG
   simp only[if_pos (show gI l (k:Int)∈(bG l k).1 by rw[<-hd];exact hm)]
 refine⟨by rw[e];exact hd,h.val,?_,by rw[List.length_set];exact h.lo⟩
 rw[rI h.eq hk,e,h.val _ hm,hd]
theorem s5.new(h:s5 l mp out k)(hk:(k:Int)<l.length)(hm:¬gI l (k:Int)∈mp.2){mp':(Int->Int)×List Int}{x:Int}(em:mp'=((λq=>if q=gI l (k:Int) then(mp.2.length:Int) else mp.1 q),if gI l (k:Int)∈mp.2 then mp.2 else mp.2++[gI l (k:Int)]))(ex:x=mp'.1 (gI l (k:Int))):
   s5 l mp' (out.set (Int.toNat (k:Int)) x) (k+1):=by
 subst em
 have hd:=h.dom
 rw[if_neg hm]
 have e:bG l (k+1)=((bG l k).1++[gI l (k:Int)],(bG l k).2++[((((bG l k).1++[gI l (k:Int)]).idxOf (gI l (k:Int)):Nat):Int)]):=by
   conv=>lhs;unfold bG
   simp only[if_neg (show¬gI l (k:Int)∈(bG l k).1 by rw[<-hd];exact hm)]
 have ei:(mp.2++[gI l (k:Int)]).idxOf (gI l (k:Int))=mp.2.length:=by
   rw[List.idxOf_append,if_neg hm];simp
 refine⟨by rw[e,<-hd],λb hb=>?_,?_,by rw[List.length_set];exact h.lo⟩
 · show(if b=gI l (k:Int) then(mp.2.length:Int) else mp.1 b)=(((mp.2++[gI l (k:Int)]).idxOf b:Nat):Int)
   by_cases c:b=gI l (k:Int)
   · rw[if_pos c,c,ei]
   · have hb2:b∈mp.2:=(List.mem_append.1 hb).resolve_right (λz=>c (List.mem_singleton.1 z))
     rw[if_neg c,List.idxOf_append,if_pos hb2];exact h.val b hb2
 · rw[rI h.eq hk,e,ex]
   show _=_
   rw[<-hd,ei]
   simp
theorem s5.done(h:s5 l mp out k)(hk:k=l.length):out=(bG l l.length).2/\(mp.2.length:Int)=((bG l l.length).1.length:Int):=by
 subst hk
 have:=h.eq
 rw[Nat.sub_self,List.replicate_zero,List.append_nil] at this
 exact⟨this,by rw[h.dom]⟩
end TL
set_option linter.all false
namespace TL
abbrev hf(g:cv)(h:Int):Prop:=0<=h/\h<2*(g.2.length:Int)
end TL
namespace TL
open Go Go.Proofs Go.ChangeShapes Go.WideShapes Go.Joins Go.Deep
structure kr{H:Type}(f:DataW H->Nat):Prop where
 slice:∀l s:List (DataW H),l.length<=f (.slice l s)
 elem:∀l s:List (DataW H),∀d∈l,f d<=f (.slice l s)
 part:∀l:List (DataW H),∀d∈l,f d<=f (.agg l)
def Bj(α:Type)[Rp α](P:Program)(t:TypeId):Prop:=
  ∀{H:Type} (enc:TypeId×Value->H) (w:World) (fuel:Nat) (cs:List Value) (x:DataW H×List MemPlace),DataW.trod enc P w 0 (λ_=>true) true fuel t cs=some x->∃y:α,Rp.rep c0 any w cs y
theorem k8{P:Program}{t:TypeId}(ht:P.underlying t=some (.int .i64)):Bj Int P t:=by
 intro H enc w fuel cs x h
 obtain⟨n,rfl,_,_⟩:=DataW.trod_int ht h
 exact⟨n,rfl⟩
theorem om{P:Program}{w:World}{base:Nat}{t e:TypeId}{v:Value}(ht:P.underlying t=some (.slice e))(h:Cell.okWide P w .any base t v):∀a len cap,v= .slice (some a) len cap->a.spot=none:=by
 rintro a len cap rfl
 simp only[Cell.okWide,Cell.ok,ht] at h
 exact h.2.2.2.1
end TL
set_option linter.all false
namespace TL
open Go Go.Proofs Go.ChangeShapes Go.WideShapes Go.Joins Go.Deep
def ya(α:Type)[Rp α](Q:α->Prop)(P:Program)(t:TypeId):Prop:=
  ∀{H:Type} (enc:TypeId×Value->H) (w:World) (fuel:Nat) (cs:List Value) (x:DataW H×List MemPlace),DataW.trod enc P w 0 (λ_=>true) true fuel t cs=some x->∃y:α,Rp.rep c0 any w cs y/\Q y
def BO(n:Int):Prop:= -9223372036854775808<=n/\n<=9223372036854775807
theorem yJ{P:Program}{t:TypeId}(ht:P.underlying t=some (.int .i64)):ya Int BO P t:=by
 intro H enc w fuel cs x h
 obtain⟨n,rfl,_,hw⟩:=DataW.trod_int ht h
 refine⟨n,rfl,?_⟩
 simp only[Lit.wf,Bool.and_eq_true,decide_eq_true_eq] at hw
 have e1:IntKind.i64.min= -9223372036854775808:=by decide
 have e2:IntKind.i64.max=9223372036854775807:=by decide
 unfold BO
 omega
theorem tj{α:Type}[Rp α][Inhabited α]{Q:α->Prop}{P:Program}{t e:TypeId}(ht:P.underlying t=some (.slice e))(hc:P.cellsOf e=Rp.sz α)(hz:0<Rp.sz α)(he:ya α Q P e)
   {H:Type}{enc:TypeId×Value->H}{w:World}{f:DataW H->Nat}(hf:kr f){fuel:Nat}{v:Value}{x:DataW H×List MemPlace}
   (hs:∀a len cap,v= .slice (some a) len cap->a.spot=none)(h:DataW.trod enc P w 0 (λ_=>true) true fuel t [v]=some x)(hb:f x.1<=1048576):∃xs:List α,Ro w v xs/\(∀y∈xs,Q y)/\xs.length<=1048576:=by
 rcases Deep.open_slice ht h with⟨h0,_⟩|⟨a,len,cap,m,n,D,Pl,h0,_,hlc,_,hm,rfl,hx⟩
 · obtain rfl:v= .slice none 0 0:=by simpa using h0
   exact⟨[],.inl ⟨⟨_,rfl⟩,rfl⟩,λy hy=>(by cases hy),by simp⟩
 · obtain rfl:v= .slice (some a) len cap:=by simpa using h0
   have hsp:=hs a len cap rfl
   obtain⟨b,off,spot⟩:=a
   obtain rfl:spot=none:=hsp
   simp only[if_true] at hm
   subst hm
   obtain⟨Y,hY⟩:=Deep.choose_lt (α:=α) (n:=len) (p:=λi y=>(∃cs,(∀j,j<Rp.sz α->w.cell? ⟨b,off+i*Rp.sz α+j,none⟩=cs[j]?)/\Rp.rep c0 any w cs y)/\Q y) (λi hi=>by
     obtain⟨cs',h1,h2⟩:=hx i (by omega)
     obtain⟨y,hy,hq⟩:=he enc w n cs' _ h2
     refine⟨y,⟨cs',λj hj=>?_,hy⟩,hq⟩
     obtain⟨_,hl,hcell⟩:=World.cells?_some h1
     have:=hcell j (by omega)
     rw[Deep.add_add,hc] at this
     rw[<-this]
     unfold Addr.add
     by_cases hij:i*Rp.sz α+j=0
     · rw[if_pos hij,Nat.add_assoc,hij];rfl
     · rw[if_neg hij,Nat.add_assoc])
   have hlen:((List.range len).map Y).length=len:=by simp
   have hbound:=Nat.le_trans (hf.slice _ _) hb
   have hll:len<=1048576:=by simp at hbound;omega
   refine⟨(List.range len).map Y,.inr ⟨b,off,m,by rw[hlen],⟨by omega,by omega⟩,λi y hi=>?_⟩,λy hy=>?_,by omega⟩
   · have hil:i<len:=by
       have:=(List.getElem?_eq_some_iff.1 hi).1
       omega
     obtain rfl:Y i=y:=by simpa[hil] using hi
     obtain⟨⟨cs,h1,h2⟩,_⟩:=hY i hil
     refine⟨?_,trivial,cs,h1,h2⟩
     have h3:=h1 0 hz
     have h4:=Rp.len h2
     have h5:0<cs.length:=by omega
     rw[List.getElem?_eq_getElem h5] at h3
     by_cases hbl:b<w.heap.size
     · exact hbl
     · have:w.heap[b]? =none:=Array.getElem?_eq_none (by omega)
       simp[World.cell?,this] at h3
   · obtain⟨i,hi,rfl⟩:=List.mem_map.1 hy
     exact(hY i (List.mem_range.1 hi)).2
theorem nn{α:Type}[Rp α][Inhabited α]{Q:α->Prop}{P:Program}{e q:TypeId}(he:P.underlying e=some (.slice q))(hc:P.cellsOf q=Rp.sz α)(hz:0<Rp.sz α)(hq:ya α Q P q)
    {H:Type}{enc:TypeId×Value->H}{w:World}{f:DataW H->Nat}(hf:kr f){fuel:Nat}{u:Value}{x:DataW H×List MemPlace}
    (h:DataW.trod enc P w 0 (λ_=>true) true fuel e [u]=some x)(hb:f x.1<=1048576):∃xs:List α,Ro w u xs/\(∀y∈xs,Q y)/\xs.length<=1048576:=by
  have h':=h
  rcases Deep.open_slice he h with⟨h0,_⟩|⟨a,len,cap,m,n,D,Pl,h0,_,hlc,_,hm,rfl,hx⟩
  · obtain rfl:u= .slice none 0 0:=by simpa using h0
    exact⟨[],.inl ⟨⟨_,rfl⟩,rfl⟩,λy hy=>(by cases hy),by simp⟩
  · obtain rfl:u= .slice (some a) len cap:=by simpa using h0
    simp only[if_true] at hm
    subst hm
    by_cases hc0:m=0
    · have hl:len=0:=by omega
      subst hl hc0
      exact⟨[],.inl ⟨⟨_,rfl⟩,rfl⟩,λy hy=>(by cases hy),by simp⟩
    · obtain⟨cs',h1,h2⟩:=hx 0 (by omega)
      obtain⟨_,hl,hcell⟩:=World.cells?_some h1
      have h3:=hcell 0 (by omega)
      have h4:0<cs'.length:=by omega
      rw[List.getElem?_eq_getElem h4] at h3
      have hs:a.spot=none:=by
        have:=World.cell?_spot h3
        simpa[Addr.add] using this
      exact tj he hc hz hq hf (by rintro a' len' cap' e';cases e';exact hs) h' hb
end TL
set_option linter.all false
namespace TL
variable{g g1 g2:cv}{ws w1 w2:List Nat}{s s1 s2:Int}{far f1 f2:List Nat}{by_ b1 b2:List Int}{rk r1 r2:Int->Nat}{C:Nat}
def ko(h:Int):Int:=if h%2=0 then h+1 else h-1
theorem AB{h:Int}(hh:hf g h):hf g (ko h)/\ko h/2=h/2/\dz g (ko h)=fZ g h/\fZ g (ko h)=dz g h:=by
 have h0:=hh.1
 have h1:=hh.2
 have e1:ko h/2=h/2:=by unfold ko;split<;>omega
 have e2:ko h%2=1-h%2:=by unfold ko;split<;>omega
 refine⟨⟨by unfold ko;split<;>omega,by unfold ko;split<;>omega⟩,e1,?_,?_⟩
 · unfold dz fZ;rw[e1,e2]
 · unfold dz fZ;rw[e1,e2,show 1-(1-h%2)=h%2 by omega]
end TL
namespace TL
end TL
set_option linter.all false
namespace TL
variable{g:cv}{R:Bs}{pl lo by_ nx:List Int}{fo:Int}{ed:List Int}{la:List Bool}{bl:List Int}{co:Int}{path:List Int}{u hh:Int}
theorem gr.via{s s':Bs}{path path':List Int}(hm:c7 g)(h:gr g R s path)(hp:0<(path.length:Int))(hu:u=gI path ((path.length:Int)-1))(e:eZ g s path u=(s',path')):gr g R s' path'/\cj g s' path'<cj g s path:=by
 have:=h.step hm (λk=>by rw[k] at hp;simp at hp) hu
 rw[e] at this;exact this
abbrev bs(pl lo by_ nx:List Int)(fo:Int)(ed:List Int)(la:List Bool)(bl:List Int)(co:Int):Bs:=⟨pl,lo,by_,nx,fo,ed,la,bl,co⟩
theorem gr.skip(hm:c7 g)(h:gr g R (bs pl lo by_ nx fo ed la bl co) path)(hp:0<(path.length:Int))(hu:u=gI path ((path.length:Int)-1))(hn:¬gI nx u=((gI (bX g) u).length:Int))(eh:gI (gI (bX g) u) (gI nx u)=hh)(hl:gI la (hh/2)=true):
    gr g R (bs pl lo by_ (nx.set u.toNat (gI nx u+1)) fo ed la bl co) path/\cj g (bs pl lo by_ (nx.set u.toNat (gI nx u+1)) fo ed la bl co) path<cj g (bs pl lo by_ nx fo ed la bl co) path:=by
  refine h.via hm hp hu ?_
  unfold eZ
  rw[if_neg hn]
  simp only[eh]
  unfold gQ
  rw[if_pos hl];rfl
theorem gr.loop(hm:c7 g)(h:gr g R (bs pl lo by_ nx fo ed la bl co) path)(hp:0<(path.length:Int))(hu:u=gI path ((path.length:Int)-1))(hn:¬gI nx u=((gI (bX g) u).length:Int))(eh:gI (gI (bX g) u) (gI nx u)=hh)(hl:¬gI la (hh/2)=true)(hw:fZ g hh=u):
    gr g R (fW (bs pl lo by_ (nx.set u.toNat (gI nx u+1)) fo (ed++[hh/2]) (la.set (hh/2).toNat true) bl co) (hh/2)) path/\cj g (fW (bs pl lo by_ (nx.set u.toNat (gI nx u+1)) fo (ed++[hh/2]) (la.set (hh/2).toNat true) bl co) (hh/2)) path<cj g (bs pl lo by_ nx fo ed la bl co) path:=by
  refine h.via hm hp hu ?_
  unfold eZ
  rw[if_neg hn]
  simp only[eh]
  unfold gQ
  rw[if_neg hl,if_pos hw];rfl
theorem gr.new(hm:c7 g)(h:gr g R (bs pl lo by_ nx fo ed la bl co) path)(hp:0<(path.length:Int))(hu:u=gI path ((path.length:Int)-1))(hn:¬gI nx u=((gI (bX g) u).length:Int))(eh:gI (gI (bX g) u) (gI nx u)=hh)(hl:¬gI la (hh/2)=true){w:Int}(ew:fZ g hh=w)(hw:¬w=u)(hz:gI pl w=0):
    gr g R (bs (pl.set w.toNat (fo+1)) (lo.set w.toNat (fo+1)) (by_.set w.toNat hh) (nx.set u.toNat (gI nx u+1)) (fo+1) (ed++[hh/2]) (la.set (hh/2).toNat true) bl co) (path++[w])/\cj g (bs (pl.set w.toNat (fo+1)) (lo.set w.toNat (fo+1)) (by_.set w.toNat hh) (nx.set u.toNat (gI nx u+1)) (fo+1) (ed++[hh/2]) (la.set (hh/2).toNat true) bl co) (path++[w])<cj g (bs pl lo by_ nx fo ed la bl co) path:=by
  subst ew
  refine h.via hm hp hu ?_
  unfold eZ
  rw[if_neg hn]
  simp only[eh]
  unfold gQ
  rw[if_neg hl,if_neg hw,if_pos hz];rfl
theorem gr.back(hm:c7 g)(h:gr g R (bs pl lo by_ nx fo ed la bl co) path)(hp:0<(path.length:Int))(hu:u=gI path ((path.length:Int)-1))(hn:¬gI nx u=((gI (bX g) u).length:Int))(eh:gI (gI (bX g) u) (gI nx u)=hh)(hl:¬gI la (hh/2)=true){w:Int}(ew:fZ g hh=w)(hw:¬w=u)(hz:¬gI pl w=0):
    gr g R (bs pl (lo.set u.toNat (min (gI lo u) (gI pl w))) by_ (nx.set u.toNat (gI nx u+1)) fo (ed++[hh/2]) (la.set (hh/2).toNat true) bl co) path/\cj g (bs pl (lo.set u.toNat (min (gI lo u) (gI pl w))) by_ (nx.set u.toNat (gI nx u+1)) fo (ed++[hh/2]) (la.set (hh/2).toNat true) bl co) path<cj g (bs pl lo by_ nx fo ed la bl co) path:=by
  subst ew
  refine h.via hm hp hu ?_
  unfold eZ
  rw[if_neg hn]
  simp only[eh]
  unfold gQ
  rw[if_neg hl,if_neg hw,if_neg hz];rfl
theorem gr.off0(hm:c7 g)(h:gr g R (bs pl lo by_ nx fo ed la bl co) path)(hp:0<(path.length:Int))(hu:u=gI path ((path.length:Int)-1))(hn:gI nx u=((gI (bX g) u).length:Int))(hb:gI by_ u<0):
    gr g R (bs pl lo by_ nx fo ed la bl co) path.dropLast/\cj g (bs pl lo by_ nx fo ed la bl co) path.dropLast<cj g (bs pl lo by_ nx fo ed la bl co) path:=by
  refine h.via hm hp hu ?_
  unfold eZ
  rw[if_pos hn]
  unfold iq
  rw[if_pos hb]
theorem gr.off1(hm:c7 g)(h:gr g R (bs pl lo by_ nx fo ed la bl co) path)(hp:0<(path.length:Int))(hu:u=gI path ((path.length:Int)-1))(hn:gI nx u=((gI (bX g) u).length:Int))(hb:¬gI by_ u<0){q:Int}(eq:dz g (gI by_ u)=q){lo':List Int}(el:lo'=lo.set q.toNat (min (gI lo q) (gI lo u)))(hc:¬gI pl q<=gI lo' u):
    gr g R (bs pl lo' by_ nx fo ed la bl co) path.dropLast/\cj g (bs pl lo' by_ nx fo ed la bl co) path.dropLast<cj g (bs pl lo by_ nx fo ed la bl co) path:=by
  subst eq el
  refine h.via hm hp hu ?_
  unfold eZ
  rw[if_pos hn]
  unfold iq
  rw[if_neg hb]
  simp only
  rw[if_neg hc]
theorem gr.off2(hm:c7 g)(h:gr g R (bs pl lo by_ nx fo ed la bl co) path)(hp:0<(path.length:Int))(hu:u=gI path ((path.length:Int)-1))(hn:gI nx u=((gI (bX g) u).length:Int))(hb:¬gI by_ u<0){q:Int}(eq:dz g (gI by_ u)=q){lo':List Int}(el:lo'=lo.set q.toNat (min (gI lo q) (gI lo u)))(hc:gI pl q<=gI lo' u):
    gr g R (fW (bs pl lo' by_ nx fo ed la bl co) (gI by_ u/2)) path.dropLast/\cj g (fW (bs pl lo' by_ nx fo ed la bl co) (gI by_ u/2)) path.dropLast<cj g (bs pl lo by_ nx fo ed la bl co) path:=by
  subst eq el
  refine h.via hm hp hu ?_
  unfold eZ
  rw[if_pos hn]
  unfold iq
  rw[if_neg hb]
  simp only
  rw[if_pos hc]
theorem gr.loop1(hm:c7 g)(h:gr g R (bs pl lo by_ nx fo ed la bl co) path)(hp:0<(path.length:Int))(hu:u=gI path ((path.length:Int)-1))(hn:¬gI nx u=((gI (bX g) u).length:Int))(eh:gI (gI (bX g) u) (gI nx u)=hh)(hl:¬gI la (hh/2)=true)(hw:fZ g hh=u){s':Bs}(hc:fW (bs pl lo by_ (nx.set u.toNat (gI nx u+1)) fo (ed++[hh/2]) (la.set (hh/2).toNat true) bl co) (hh/2)=s'):
   gr g R s' path/\cj g s' path<cj g (bs pl lo by_ nx fo ed la bl co) path:=by
 subst hc;exact h.loop hm hp hu hn eh hl hw
theorem gr.off3(hm:c7 g)(h:gr g R (bs pl lo by_ nx fo ed la bl co) path)(hp:0<(path.length:Int))(hu:u=gI path ((path.length:Int)-1))(hn:gI nx u=((gI (bX g) u).length:Int))(hb:¬gI by_ u<0){q:Int}(eq:dz g (gI by_ u)=q){lo':List Int}(el:lo'=lo.set q.toNat (min (gI lo q) (gI lo u)))(hc:gI pl q<=gI lo' u){s':Bs}(hcl:fW (bs pl lo' by_ nx fo ed la bl co) (gI by_ u/2)=s'):
   gr g R s' path.dropLast/\cj g s' path.dropLast<cj g (bs pl lo by_ nx fo ed la bl co) path:=by
 subst hcl;exact h.off2 hm hp hu hn hb eq el hc
structure sc(ed:List Int)(x at_:Int):Prop where
  mem:x∈ed
  nd:ed.Nodup
  lo:0<=at_
  hi:at_<ed.length
  no:∀j:Int,at_<j->j<ed.length->gI ed j≠x
theorem sc.start{x:Int}(hn:ed.Nodup)(hx:x∈ed):sc ed x ((ed.length:Int)-1):=by
 have:0<ed.length:=List.length_pos_of_mem hx
 exact⟨hx,hn,by omega,by omega,λj a b=>by omega⟩
theorem sc.next{x at_:Int}(h:sc ed x at_)(hne:¬gI ed at_=x):sc ed x (at_-1)/\1<=at_:=by
 have h1:=h.lo
 have h2:=h.hi
 have hp:1<=at_:=by
   by_cases c:1<=at_
   · exact c
   · exfalso
     obtain⟨i,hi,e⟩:=List.mem_iff_getElem.1 h.mem
     have e2:gI ed (i:Int)=x:=by rw[<-e];simp[gI,hi]
     by_cases k:(i:Int)=at_
     · rw[k] at e2;exact hne e2
     · exact h.no i (by omega) (by omega) e2
 refine⟨⟨h.mem,h.nd,by omega,by omega,λj a b=>?_⟩,hp⟩
 by_cases k:j=at_
 · rw[k];exact hne
 · exact h.no j (by omega) b
theorem sc.done{x at_:Int}(h:sc ed x at_)(he:gI ed at_=x):at_=(oX ed x:Int):=by
 obtain⟨A,B,e1,hA,hB,e2⟩:=rd h.nd h.mem
 have h1:=h.lo
 have h2:=h.hi
 rw[e2]
 have hl:ed.length=A.length+1+B.length:=by rw[e1];simp;omega
 have hA2:gI ed (A.length:Int)=x:=by rw[e1];simp[gI]
 rcases Int.lt_trichotomy at_ A.length with c|c|c
 · exact absurd hA2 (h.no _ c (by omega))
 · exact c
 · exfalso
   obtain⟨k,rfl⟩:∃k:Nat,at_=k:=⟨at_.toNat,by omega⟩
   have hk:k<ed.length:=by omega
   have e3:gI ed (k:Int)=ed[k]:=by simp[gI,hk]
   have:ed[k]∈B:=by
     have hk2:k-(A.length+1)<B.length:=by omega
     have e4:ed[k]=B[k-(A.length+1)]:=by
       have:ed[k]? =B[k-(A.length+1)]? :=by
         rw[e1,List.getElem?_append_right (by omega),List.getElem?_cons,if_neg (by omega)]
         congr 1
       rw[List.getElem?_eq_getElem hk,List.getElem?_eq_getElem hk2] at this
       exact Option.some.inj this
     rw[e4];exact List.getElem_mem hk2
   rw[e3] at he
   rw[he] at this
   exact hB this
end TL
namespace TL
open Go
theorem xW(n:Nat):n^^^1=if n%2=0 then n+1 else n-1:=by
 have h1:(n^^^1)%2=(n+1)%2:=by
   have:= @Nat.xor_mod_two_eq_one n 1
   by_cases c:(n^^^1)%2=1
   · have:=this.1 c;omega
   · have h3:¬¬(n%2=1↔1%2=1):=λk=>c (this.2 k)
     have h4:=Decidable.not_not.1 h3
     have:n%2=1:=h4.2 rfl
     omega
 have h2:(n^^^1)/2=n/2:=by rw[Nat.xor_div_two];simp
 split<;>omega
theorem sw{m:Int}(t:TypeId)(h0:0<=m)(h1:m<4611686018427387904):binOp .xor t (.int .i64 m) (.int .i64 1)=pure (.int .i64 (ko m)):=by
 obtain⟨n,rfl⟩:=Int.eq_ofNat_of_zero_le h0
 have hn:n<4611686018427387904:=by omega
 have e:(BitVec.ofInt 64 (n:Int)^^^BitVec.ofInt 64 1).toNat=n^^^1:=by
   rw[BitVec.toNat_xor]
   have e1:(BitVec.ofInt 64 (n:Int)).toNat=n:=by
     rw[BitVec.toNat_ofInt];omega
   have e2:(BitVec.ofInt 64 (1:Int)).toNat=1:=by decide
   rw[e1,e2]
 have h3:(((n^^^1:Nat)):Int)=ko (n:Int):=by
   rw[xW];unfold ko
   split<;>split<;>omega
 show(pure (Value.int .i64 (IntKind.i64.wrap ((BitVec.ofInt 64 (n:Int)^^^BitVec.ofInt 64 1).toNat:Int))):Sem Value)=_
 rw[e,h3,j2]
 unfold ko;unfold zM;split<;>omega
end TL
namespace TL
variable{g:cv}{s:Bs}{path:List Int}
theorem xm(h:fR g s path):0<=s.found/\s.found<=g.1/\0<=s.count/\s.count+(s.edges.length:Int)<=(g.2.length:Int):=by
  have h1:=h.fn
  have h2:=h.cl
  have h3:s.laid.count true<=s.laid.length:=List.count_le_length
  have h4:=h.l5
  exact⟨h.f0,by omega,h.ct,by omega⟩
theorem yP{l:List Int}{n q:Nat}(h:l=List.replicate q (-1)++List.replicate (n-q) 0)(hq:q<=n):l.length=n:=by
 rw[h];simp;omega
theorem yf{l:List Int}{n q:Nat}(h:l=List.replicate q (-1)++List.replicate (n-q) 0)(hq:q<n):l.set (Int.toNat (q:Int)) (-1)=List.replicate (q+1) (-1)++List.replicate (n-(q+1)) 0:=by
 rw[h,Int.toNat_natCast,List.set_append_right _ _ (by simp)]
 simp only[List.length_replicate,Nat.sub_self]
 rw[show n-q=(n-(q+1))+1 by omega,List.replicate_succ,List.set_cons_zero,List.replicate_succ',List.append_assoc]
 rfl
def u5(L bl:List Int)(co:Int)(k:Nat):List Int:=(L.take k).foldl (λb x=>b.set x.toNat co) bl
theorem A0{L bl:List Int}{co:Int}:bl=u5 L bl co 0:=rfl
theorem rP{L bl b:List Int}{co:Int}{k:Nat}(h:b=u5 L bl co k):b.length=bl.length:=by rw[h];unfold u5;exact mx _ _ _
theorem pf{L bl b:List Int}{co:Int}{k:Nat}(h:b=u5 L bl co k)(hk:(k:Int)<L.length):b.set (gI L (k:Int)).toNat co=u5 L bl co (k+1):=by
 have hk':k<L.length:=by omega
 unfold u5 at*
 rw[List.take_succ_eq_append_getElem hk',List.foldl_append,<-h]
 have e:gI L (k:Int)=L[k]:=by simp[gI,hk']
 rw[e];rfl
theorem kg{pl lo by_ nx:List Int}{fo:Int}{ed:List Int}{la:List Bool}{bl:List Int}{co x at_:Int}{bk:List Int}{k:Nat}(ha:sc ed x at_)(he:gI ed at_=x)(hb:bk=u5 (List.drop (Int.toNat at_) (List.take (Int.toNat (ed.length:Int)) ed)) bl co k)
   (hk:¬(k:Int)<((List.drop (Int.toNat at_) (List.take (Int.toNat (ed.length:Int)) ed)).length:Int))(hk2:(k:Int)<=((List.drop (Int.toNat at_) (List.take (Int.toNat (ed.length:Int)) ed)).length:Int)):
   fW (bs pl lo by_ nx fo ed la bl co) x=bs pl lo by_ nx fo (ed.take (Int.toNat at_)) la bk (co+1):=by
 have e:=ha.done he
 have el:List.drop (Int.toNat at_) (List.take (Int.toNat (ed.length:Int)) ed)=ed.drop (oX ed x):=by
   rw[e,Int.toNat_natCast,Int.toNat_natCast,List.take_length]
 rw[el] at hb hk hk2
 have hk3:k=(ed.drop (oX ed x)).length:=by omega
 unfold fW
 rw[hb]
 unfold u5
 rw[hk3,List.take_length,e,Int.toNat_natCast]
theorem gn{path:List Int}:List.take (Int.toNat ((path.length:Int)-1)) path=path.dropLast:=by
 rw[List.dropLast_eq_take];congr 1;omega
theorem zl{s s':Bs}{v:Nat}(h:s=gN g v)(hp:gI s.place (v:Int)=0)(hR:s'=gc g s (v:Int)):s'=gN g (v+1):=by
 rw[kM,<-h,if_pos hp];exact hR
theorem AS{s:Bs}{v:Nat}(h:s=gN g v)(hp:¬gI s.place (v:Int)=0):s=gN g (v+1):=by
 rw[kM,<-h,if_neg hp]
end TL
namespace TL
variable{g:cv}{of o:List Int}{c:List Bool}{k:Nat}
structure fe(of:List Int)(g:cv)(o:List Int)(c:List Bool)(k:Nat):Prop where
  eq:(o,c)=tx of g k
  lo:(o.length:Int)=g.1
  lc:(c.length:Int)=g.1
theorem yT{pl lo by_ nx:List Int}{fo:Int}{ed:List Int}{la:List Bool}{bl:List Int}{co:Int}{path:List Int}{O:List (List Int)}{u:Int}(h:fR g (bs pl lo by_ nx fo ed la bl co) path)(hO:O=bX g)(hp:0<(path.length:Int))(hu:gI path ((path.length:Int)-1)=u):
    ((0<=u/\u<g.1)/\(0<=gI nx u/\gI nx u<=((gI O u).length:Int)))/\(gI by_ u= -1\/(0<=gI by_ u/\gI by_ u<2*(g.2.length:Int))):=by
  have hm:=h.pr _ (bC (xs:=path) (i:=(path.length:Int)-1) (by omega) (by omega))
  rw[hu] at hm
  rw[hO]
  refine⟨⟨hm.1,h.nx _ hm.1.1 hm.1.2⟩,?_⟩
  rcases h.by_ _ hm.1.1 hm.1.2 with k|k
  · exact .inl k
  · exact .inr k.1
theorem yK{pl lo by_ nx:List Int}{fo:Int}{ed:List Int}{la:List Bool}{bl:List Int}{co:Int}{path:List Int}{O:List (List Int)}{u:Int}(hm:c7 g)(h:fR g (bs pl lo by_ nx fo ed la bl co) path)(hO:O=bX g)(u0:0<=u)(u1:u<g.1)(hn:¬gI nx u=((gI O u).length:Int)):
   (0<=gI (gI O u) (gI nx u)/\gI (gI O u) (gI nx u)<2*(g.2.length:Int))/\(0<=fZ g (gI (gI O u) (gI nx u))/\fZ g (gI (gI O u) (gI nx u))<g.1):=by
 obtain⟨n0,n1⟩:=h.nx u u0 u1
 rw[hO] at hn ⊢
 have hin:gI (gI (bX g) u) (gI nx u)∈gI (bX g) u:=bC n0 (by
   have n1':gI nx u<=((gI (bX g) u).length:Int):=n1
   omega)
 rw[jZ u0 u1] at hin
 have ho:=(lG hin).1
 rw[<-jZ u0 u1] at ho
 exact⟨ho,mt hm ho.1 ho.2⟩
theorem fe.start(h0:0<=g.1):fe of g (List.replicate (Int.toNat g.1) 0) (List.replicate (Int.toNat g.1) false) 0:=⟨rfl,by simp;omega,by simp;omega⟩
theorem fe.next(h:fe of g o c k){v e b:Int}{bb:Bool}(hv:dz g (k:Int)=v)(he:(k:Int)/2=e)(hb:b=gI of e+1)(hbb:bb=(gI c v||(decide (0<gI o v)&& !decide (gI o v=gI of e+1)))):fe of g (o.set (Int.toNat v) b) (c.set (Int.toNat v) bb) (k+1):=by
 subst hv he hb hbb
 refine⟨?_,by rw[List.length_set];exact h.lo,by rw[List.length_set];exact h.lc⟩
 unfold tx
 rw[dX,List.foldl_append]
 show _=Bm of g (tx of g k) (k:Int)
 rw[<-h.eq];rfl
theorem fe.fst(h:fe of g o c (2*k)){v b:Int}{bb:Bool}(hv:(gI g.2 (k:Int)).1=v)(hb:b=gI of (k:Int)+1)(hbb:bb=(gI c v||(decide (0<gI o v)&& !decide (gI o v=gI of (k:Int)+1)))):fe of g (o.set (Int.toNat v) b) (c.set (Int.toNat v) bb) (2*k+0+1):=by
 have e1:((2*k:Nat):Int)/2=(k:Int):=by omega
 have f1:dz g ((2*k:Nat):Int)=v:=by
   rw[<-hv];unfold dz;rw[e1,show((2*k:Nat):Int)%2=0 by omega];rfl
 exact h.next f1 e1 hb hbb
theorem fe.snd(h:fe of g o c (2*k+0+1)){v b:Int}{bb:Bool}(hv:(gI g.2 (k:Int)).2=v)(hb:b=gI of (k:Int)+1)(hbb:bb=(gI c v||(decide (0<gI o v)&& !decide (gI o v=gI of (k:Int)+1)))):fe of g (o.set (Int.toNat v) b) (c.set (Int.toNat v) bb) (2*k+1+1):=by
 have e2:((2*k+0+1:Nat):Int)/2=(k:Int):=by omega
 have f2:dz g ((2*k+0+1:Nat):Int)=v:=by
   rw[<-hv];unfold dz;rw[e2,show((2*k+0+1:Nat):Int)%2=1 by omega];rfl
 exact h.next f2 e2 hb hbb
theorem xk{x y:Bool}(h:x=true):true=(x||y):=by rw[h];rfl
theorem xK{x:Bool}{y:Int}{q:Prop}[Decidable q](h:¬x=true)(hp:¬0<y):false=(x||(decide (0<y)&& !decide q)):=by
 rw[decide_eq_false hp];simpa using h
theorem xz{x:Bool}{y:Int}{q:Prop}[Decidable q](h:¬x=true)(hp:0<y):(!decide q)=(x||(decide (0<y)&& !decide q)):=by
 have:x=false:=by simpa using h
 rw[this,decide_eq_true hp];simp
theorem vP{a:List Int}{l:List Bool}{k:Nat}(h:a=(cz k).filter λv=>gI l v):(a.length:Int)<=(k:Int):=by
 have h1:=List.length_filter_le (λv=>gI l v) (cz k)
 have h2:(cz k).length=k:=by simp[cz]
 rw[h];omega
theorem xl{a:List Int}{l:List Bool}{k:Nat}(h:a=(cz k).filter λv=>gI l v)(hk:gI l (k:Int)=true):a++[(k:Int)]=(cz (k+1)).filter λv=>gI l v:=by
 rw[h,dX,List.filter_append];simp[hk]
theorem yx{a:List Int}{l:List Bool}{k:Nat}(h:a=(cz k).filter λv=>gI l v)(hk:¬gI l (k:Int)=true):a=(cz (k+1)).filter λv=>gI l v:=by
 rw[h,dX,List.filter_append];simp[hk]
end TL
namespace TL
variable{g:cv}
theorem zg{pl lo by_ nx:List Int}{fo:Int}{ed:List Int}{la:List Bool}{bl:List Int}{co:Int}{path:List Int}(h0:0<=g.1)(h:fR g (bs pl lo by_ nx fo ed la bl co) path):(path.length:Int)<=g.1:=by
 have:=qH g.1.toNat path h.pn (λx hx=>by have:=(h.pr x hx).1;omega)
 omega
theorem Bt{b:List Int}{q:Nat}(hb:b=List.replicate q (-1)++List.replicate (Int.toNat g.1-q) 0)(hq:(q:Int)=g.1):
   bs (List.replicate (Int.toNat g.1) 0) (List.replicate (Int.toNat g.1) 0) b (List.replicate (Int.toNat g.1) 0) 0 [] (List.replicate (Int.toNat (g.2.length:Int)) false) (List.replicate (Int.toNat (g.2.length:Int)) 0) 0=gN g 0:=by
 have e:q=Int.toNat g.1:=by omega
 subst e
 rw[hb,Nat.sub_self,List.replicate_zero,List.append_nil,Int.toNat_natCast];rfl
theorem wJ(g:cv):0<=jo g/\jo g<=(g.2.length:Int):=by
 have:=(lK (gN g g.1.toNat).block g.2.length).2
 unfold jo;omega
theorem xw{b:List Int}(hb:b=(gN g (Int.toNat g.1)).block)(hl:(b.length:Int)=g.2.length):bG b b.length=(bG (gN g g.1.toNat).block g.2.length):=by
 have:b.length=g.2.length:=by omega
 rw[this,hb]
theorem gr.fin{R s:Bs}{path:List Int}(h:gr g R s path)(hp:¬0<(path.length:Int)):s=R:=by
 have e:path=[]:=List.eq_nil_of_length_eq_zero (by omega)
 subst e
 exact h.done
def cU(g:cv):List Int×List Int×Int:=(mY g,s9 g,jo g)
theorem qS{b cu oo:List Int}{cc:List Bool}{j k:Nat}(hnam:bG b b.length=bG (gN g g.1.toNat).block g.2.length)(hcu:cu=(cz j).filter λv=>gI cc v)(hj:(j:Int)=(cc.length:Int))(hci:fe (mY g) g oo cc (2*k))(hk:(k:Int)=(g.2.length:Int)):
   ((bG b b.length).2,cu,((bG b b.length).1.length:Int))=cU g:=by
 have e1:k=g.2.length:=by omega
 have e2:j=g.1.toNat:=by have:=hci.lc;omega
 have e3:cc=(tx (mY g) g (2*g.2.length)).2:=by rw[<-e1,<-hci.eq]
 rw[hnam,hcu,e2,e3];rfl
end TL
set_option linter.all false
namespace TL
variable{g:cv}{of:List Int}{n k:Nat}
def qF(g:cv)(k:Nat):List Bool:=(g.2.take k).foldl (λb e=>(b.set e.1.toNat true).set e.2.toNat true) (List.replicate g.1.toNat false)
structure mZ(g:cv)(at_:List Bool)(k:Nat):Prop where
 eq:at_=qF g k
 lo:(at_.length:Int)=g.1
 no:∀j:Int,0<=j->j<k->¬(gI g.2 j).1=(gI g.2 j).2
theorem mZ.start(h0:0<=g.1):mZ g (List.replicate (Int.toNat g.1) false) 0:=⟨rfl,by simp;omega,λj a b=>by omega⟩
theorem mZ.next{at_:List Bool}(h:mZ g at_ k)(hk:(k:Int)<g.2.length)(hn:¬(gI g.2 (k:Int)).1=(gI g.2 (k:Int)).2):mZ g ((at_.set (Int.toNat (gI g.2 (k:Int)).1) true).set (Int.toNat (gI g.2 (k:Int)).2) true) (k+1):=by
 have hk':k<g.2.length:=by omega
 refine⟨?_,by simp only[List.length_set];exact h.lo,λj a b=>?_⟩
 · unfold qF
   rw[List.take_succ_eq_append_getElem hk',List.foldl_append]
   have e:gI g.2 (k:Int)=g.2[k]:=by simp[gI,hk']
   rw[e,h.eq];rfl
 · by_cases c:j=(k:Int)
   · rw[c];exact hn
   · exact h.no j a (by omega)
def ez(g:cv):Bool:=decide (2<=g.1/\(∀e∈g.2,¬e.1=e.2)/\¬false∈qF g g.2.length/\jo g=1)
theorem qg(h:g.1<2):false=ez g:=by
 unfold ez;rw[decide_eq_false];rintro⟨a,_⟩;omega
theorem re(hk:(k:Int)<g.2.length)(h:(gI g.2 (k:Int)).1=(gI g.2 (k:Int)).2):false=ez g:=by
 unfold ez;rw[decide_eq_false];rintro⟨_,a,_⟩
 exact a _ (bC (xs:=g.2) (i:=(k:Int)) (by omega) hk) h
theorem sW{at_:List Bool}(h:mZ g at_ k)(hk:k=g.2.length)(hf:false∈at_):false=ez g:=by
 subst hk
 unfold ez;rw[decide_eq_false];rintro⟨_,_,a,_⟩
 rw[h.eq] at hf;exact a hf
theorem vJ{at_:List Bool}(h:mZ g at_ k)(hk:k=g.2.length)(h2:¬g.1<2)(hf:¬false∈at_):decide ((cU g).2.2=1)=ez g:=by
 subst hk
 unfold ez
 rw[decide_eq_decide]
 refine⟨λhc=>⟨by omega,λe he=>?_,by rw[<-h.eq];exact hf,hc⟩,λhc=>hc.2.2.2⟩
 obtain⟨i,hi,rfl⟩:=List.mem_iff_getElem.1 he
 have:=h.no (i:Int) (by omega) (by omega)
 have e:gI g.2 (i:Int)=g.2[i]:=by simp[gI,hi]
 rwa[e] at this
def bW(g:cv):Bool×Int:=if c7 g then(ez g,0) else(false,1)
def jt(s:List Bool)(v:Bool):Int:=if v∈s then(s.idxOf v:Int) else-1
theorem xZ{s:List Bool}{v:Bool}{i:Nat}(h:∀j:Nat,j<i->¬v=gI s (j:Int))(hi:(i:Int)<s.length)(he:v=gI s (i:Int)):(i:Int)=jt s v:=by
 have hlt:i<s.length:=by omega
 have e:gI s (i:Int)=s[i]:=by simp[gI,hlt]
 have hm:v∈s:=by rw[he];exact bC (by omega) hi
 unfold jt
 rw[if_pos hm]
 have hlt2:=List.idxOf_lt_length_iff.2 hm
 have h1:¬s.idxOf v<i:=λhlt'=>h _ hlt' (by simp[gI,hlt2])
 have h2:¬i<s.idxOf v:=λhlt'=>by
   have:=List.not_of_lt_findIdx (xs:=s) (p:=(· ==v)) (i:=i) hlt'
   simp at this
   exact this (by rw[<-e,<-he])
 omega
theorem zb{s:List Bool}{v:Bool}{i:Nat}(h:∀j:Nat,j<i->¬v=gI s (j:Int))(hi:¬(i:Int)<s.length): -1=jt s v:=by
 unfold jt
 rw[if_neg]
 intro hm
 obtain⟨j,hj,e⟩:=List.mem_iff_getElem.1 hm
 apply h j (by omega)
 rw[<-e];simp[gI,hj]
theorem sx{l:List Bool}{x:Bool}:decide (0<=jt l x)=decide (x∈l):=by
 unfold jt
 by_cases h:x∈l
 · rw[if_pos h,decide_eq_true h,decide_eq_true (by omega)]
 · rw[if_neg h,decide_eq_false h];rfl
end TL
set_option linter.all false
namespace TL
def In(n x:Int):Prop:=0<=x/\x<n
def Lk(n:Int)(s t:Int->Int)(x y:Int):Prop:=∀R:Int->Int->Prop,BR (In n) R->(∀x,In n x->R x (s x))->(∀x,In n x->R x (t x))->R x y
end TL
set_option linter.all false
namespace TL
section
def gone(m:Nat)(keep:List Int):List Int:=(cz (2*m)).filter λh=>decide (h/2∉keep)
end
end TL
set_option linter.all false
namespace TL
theorem vA{l:List Int}{x:Int}:decide (0<=bQ l x)=decide (x∈l):=by
 unfold bQ
 by_cases h:x∈l
 · rw[if_pos h,decide_eq_true h,decide_eq_true (by omega)]
 · rw[if_neg h,decide_eq_false h];rfl
end TL
namespace TL
end TL
namespace TL
end TL
namespace TL
section
end
end TL
set_option linter.all false
namespace TL
section
variable{E E':List (Int×Int)}{A B:Int->Prop}{x y z v u n:Int}{g:cv}{gone:List Bool}
def cB(g:cv):List Int:=(dd (cQ g).1).1.2.1
end
end TL
set_option linter.all false
namespace TL
open Go Go.ChangeMaps
def AU{K:Type}(b:Bool)(S:List K)(k:K):List K:=bif b then S++[k] else S
theorem xI{K:Type}{b:Bool}{S:List K}{k:K}(h:b=true):AU b S k=S++[k]:=by subst h;rfl
def Mi{K:Type}[DecidableEq K][Ky K](γ:aw)(J:cx->Prop)(w:World)(v u:Value)(F:K->Int)(D S:List K):Prop:=
  ∃(r ri:Nat) (es:List (cT K)) (clock since:Nat) (L:List (cT K)),v= .map (some r)/\u= .pointer (some ⟨ri,0,none⟩)/\r≠ri/\J (γ r)/\J (γ ri)/\w.heap[r]? =some (.map (es.map de).toArray clock)/\Am es clock/\F=eM es/\D=es.map (·.key)/\
    w.heap[ri]? =some (.mapIter (some r) since (L.map (·.born)).toArray clock)/\(∀e∈es,e.born<since)/\since<=clock/\(∀e∈L,e∈es)/\L.map (·.key)=S/\S.Nodup
section
variable{K:Type}[DecidableEq K][Ky K]
theorem Mi.cnt{γ:aw}{J:cx->Prop}{w:World}{v u:Value}{F:K->Int}{D S:List K}(h:Mi γ J w v u F D S):S.Nodup/\D.Nodup/\∀k∈S,k∈D:=by
 obtain⟨r,ri,es,clock,since,L,h1,h2,hne,h3,h4,h5,h6,h7,h8,h9,h10,h11,h12,h13,h14⟩:=h
 refine⟨h14,by rw[h8];exact h6.keys,λk hk=>?_⟩
 rw[<-h13] at hk
 obtain⟨e,he,rfl⟩:=List.mem_map.1 hk
 rw[h8]
 exact List.mem_map.2 ⟨e,h12 e he,rfl⟩
variable{P:Program}{f:Fr}{w:World}{dst:Option Tmp}{ty:TypeId}{pos:String}{after:Array Edge}{g:Option (Nat×Bool)}{t:TypeId}{x y z:Operand}{N:Value->World->Prop}
theorem mg:∀(D A:List K),D.Nodup->(∀p∈D,p∈A)->D.length<=A.length
 |[],A,_,_=>Nat.zero_le _
 |a::D,A,hn,hs=>by
   have hn':=List.nodup_cons.1 hn
   have ha:=hs a (List.mem_cons_self ..)
   have h3:=mg D (A.erase a) hn'.2 (λx hx=>by
     have hne:x≠a:=λe=>hn'.1 (by rw[<-e];exact hx)
     exact(List.mem_erase_of_ne hne).2 (hs x (List.mem_cons_of_mem _ hx)))
   have h4:=List.length_erase_of_mem ha
   have h5:=List.length_pos_of_mem ha
   rw[List.length_cons];omega
theorem zw{γ:aw}{J:cx->Prop}{v:Value}{F:K->Int}{D:List K}{kt et:Nat}(c:cx)(hJ:J c)(ht:P.underlying t=some (.map kt et))(hx:ev f x=v)(hm:Md γ J w v F D)
   (hk:∀γ' w' u,aU no γ w γ' w'->Mi γ' J w' v u F D []->N u w'):fv P ⟨dst,.range t x,ty,pos,after,g⟩ f w N:=by
 obtain⟨r,es,clock,rfl,hJ0,hb,hok,rfl,rfl⟩:=hm
 have hlt:=cX hb
 have hc:=fa γ w (.mapIter (some r) clock #[] clock) c
 refine aj (v:=.pointer (some ⟨w.heap.size,0,none⟩)) (w':=w.alloc (.mapIter (some r) clock #[] clock)) ?_ (hk (gA γ w.heap.size c) _ _ hc ⟨r,w.heap.size,es,clock,clock,[],rfl,rfl,by omega,by rw[hc.col r hlt (λq=>q)];exact hJ0,by simpa[gA] using hJ,by rw[hc.keep r hlt (λq=>q)];exact hb,hok,rfl,rfl,cZ ..,hok.lt,Nat.le_refl _,by simp,rfl,List.nodup_nil⟩)
 have:=run_range_map (P:=P) w t kt et r (es.map de).toArray clock ht hb
 simp only[execOp,hx]
 simp[this]
theorem wX{es:List (cT K)}{clock:Nat}(hok:Am es clock){a b:cT K}(ha:a∈es)(hb:b∈es)(e:a.born=b.born):a=b:=by
 obtain⟨i,hi,rfl⟩:=List.mem_iff_getElem.1 ha
 obtain⟨j,hj,rfl⟩:=List.mem_iff_getElem.1 hb
 have h:=hok.born
 have:i=j:=(List.getElem_inj (h₀:=by simpa using hi) (h₁:=by simpa using hj) h).1 (by simpa using e)
 subst this;rfl
theorem rQ{es:List (cT K)}{clock:Nat}(hok:Am es clock){a b:cT K}(ha:a∈es)(hb:b∈es)(e:a.key=b.key):a=b:=by
 obtain⟨i,hi,rfl⟩:=List.mem_iff_getElem.1 ha
 obtain⟨j,hj,rfl⟩:=List.mem_iff_getElem.1 hb
 have h:=hok.keys
 have:i=j:=(List.getElem_inj (h₀:=by simpa using hi) (h₁:=by simpa using hj) h).1 (by simpa using e)
 subst this;rfl
theorem cm{γ:aw}{J:cx->Prop}{v u:Value}{F:K->Int}{D S:List K}[Inhabited K](hx:ev f x=u)(hm:Mi γ J w v u F D S)
   (hk:∀w' nv nb k,aU J γ w γ w'->(∃a,nv= .tuple a/\a[0]? =some (.bool nb))->(nb=true->k∈D/\k∉S/\S.length+1<=D.length)->(nb=false->∀q∈D,q∈S)->Mi γ J w' v u F D (AU nb S k)->N nv w'):fv P ⟨dst,.next x false,ty,pos,after,g⟩ f w N:=by
 have hcnt:=hm.cnt
 obtain⟨r,ri,es,clock,since,L,rfl,rfl,hne,h3,h4,h5,h6,rfl,rfl,h9,h10,h11,h12,rfl,h14⟩:=hm
 have hmem:∀a:MapEntry,a∈(es.map de).toArray.toList->∃e∈es,de e=a:=λa ha=>by simpa using ha
 rcases run_next_at (P:=P) w ty ri r since clock (L.map (·.born)).toArray (es.map de).toArray clock h9 h5 (λa ha=>by obtain⟨e,he,rfl⟩:=hmem a ha;exact h10 e he) h11 with⟨h0,hrun⟩|⟨a,ha,w1,hal,hrun⟩
 · refine aj (v:=.tuple #[.bool false]) (w':=w) (by simp only[execOp,hx];simp[hrun]) (hk _ _ false default (aU.refl _ _ _) ⟨_,rfl,rfl⟩ (λq=>by cases q) (λ_ q hq=>?_) ⟨r,ri,es,clock,since,L,rfl,rfl,hne,h3,h4,h5,h6,rfl,rfl,h9,h10,h11,h12,rfl,h14⟩)
   obtain⟨e,he,rfl⟩:=List.mem_map.1 hq
   have hall:¬(!(L.map (·.born)).toArray.contains e.born)=true:=λhh=>by
     have:de e∈(leftOf (es.map de).toArray (L.map (·.born)).toArray).toList:=by
       unfold leftOf
       simp only[Array.toList_filter,List.mem_filter]
       exact⟨by simpa using⟨e,he,rfl⟩,hh⟩
     have h2:=List.length_pos_of_mem this
     simp only[Array.length_toList] at h2
     omega
   have hin:e.born∈L.map (·.born):=by simpa using hall
   obtain⟨e',he',hb⟩:=List.mem_map.1 hin
   rw[<-wX h6 (h12 e' he') he hb]
   exact List.mem_map.2 ⟨e',he',rfl⟩
 · unfold leftOf at ha
   simp only[Array.toList_filter,List.mem_filter] at ha
   obtain⟨e,he,rfl⟩:=hmem a ha.1
   have hnb:e.born∉L.map (·.born):=by simpa[de] using ha.2
   have hns:e.key∉L.map (·.key):=λhh=>by
     obtain⟨e',he',hk'⟩:=List.mem_map.1 hh
     rw[rQ h6 (h12 e' he') he hk'] at he'
     exact hnb (List.mem_map.2 ⟨e,he',rfl⟩)
   have hlri:=cX h9
   have hch:aU J γ w γ (setBlock w1 ri (.mapIter (some r) since ((L.map (·.born)).toArray.push (de e).born) clock)):=by
     rcases hal with rfl|rfl
     · refine⟨rfl,rfl,rfl,by simp[setBlock],λ_ _ _=>rfl,λk _ hk=>?_,Nat.le_refl _⟩
       have:ri≠k:=λh=>hk (h▸h4)
       simp[setBlock,Array.getElem?_setIfInBounds_ne this]
     · refine⟨rfl,rfl,rfl,by simp[setBlock,World.drew_eq],λ_ _ _=>rfl,λk _ hk=>?_,Nat.le_succ _⟩
       have:ri≠k:=λh=>hk (h▸h4)
       show(w.heap.setIfInBounds ri _)[k]? =_
       rw[Array.getElem?_setIfInBounds_ne this]
   have hh1:w1.heap=w.heap:=by rcases hal with rfl|rfl<;>rfl
   have hnd:(L.map (·.key)++[e.key]).Nodup:=by
     rw[List.nodup_append]
     exact⟨h14,by simp,λa ha b hb=>by obtain rfl:=List.mem_singleton.1 hb;exact λq=>hns (q▸ha)⟩
   refine aj (v:=.tuple #[.bool true,(de e).key,(de e).val]) (w':=setBlock w1 ri (.mapIter (some r) since ((L.map (·.born)).toArray.push (de e).born) clock)) (by simp only[execOp,hx];simp[hrun]) (hk _ _ true e.key hch ⟨_,rfl,rfl⟩ (λ_=>⟨List.mem_map.2 ⟨e,he,rfl⟩,hns,?_⟩) (λq=>by cases q) ⟨r,ri,es,clock,since,L++[e],rfl,rfl,hne,h3,h4,?_,h6,rfl,rfl,?_,h10,h11,λq hq=>?_,by rw[List.map_append];rfl,hnd⟩)
   · have hsub:∀q∈L.map (·.key)++[e.key],q∈es.map (·.key):=λq hq=>by
       rcases List.mem_append.1 hq with hq|hq
       · exact hcnt.2.2 q hq
       · rw[List.mem_singleton.1 hq];exact List.mem_map.2 ⟨e,he,rfl⟩
     have:=mg _ _ hnd hsub
     simpa using this
   · show(w1.heap.setIfInBounds ri _)[r]? =_
     rw[Array.getElem?_setIfInBounds_ne (λq=>hne q.symm),hh1];exact h5
   · show(w1.heap.setIfInBounds ri _)[ri]? =_
     rw[hh1]
     simp[hlri,de]
   · rcases List.mem_append.1 hq with hq|hq
     · exact h12 q hq
     · rw[List.mem_singleton.1 hq];exact he
theorem yB{nv:Value}{nb:Bool}(hx:ev f x=nv)(h:∃a,nv= .tuple a/\a[0]? =some (.bool nb)):(execOp (ev f) ⟨dst,.extract x 0,ty,pos,after,g⟩).run P w= .ok (.value (.bool nb)) w:=by
 obtain⟨a,rfl,h0⟩:=h
 simp[execOp,hx,Instr.extract,h0]
theorem yt{γ:aw}{J:cx->Prop}{v u:Value}{F:K->Int}{D S:List K}{nb:Bool}{k:K}(hx:ev f x=u)(hm:Mi γ J w v u F D (AU nb S k))(hb:nb=true):(execOp (ev f) ⟨dst,.entry x,ty,pos,after,g⟩).run P w= .ok (.value (.tuple (List.toArray [Ky.val k,.int .i64 (F k)]))) w:=by
 rw[xI hb] at hm
 obtain⟨r,ri,es,clock,since,L,rfl,rfl,hne,h3,h4,h5,h6,rfl,rfl,h9,h10,h11,h12,h13,h14⟩:=hm
 obtain⟨L0,e,rfl⟩:∃L0 e,L=L0++[e]:=by
   refine⟨L.dropLast,L.getLast (λq=>by rw[q] at h13;simp at h13),(List.dropLast_concat_getLast _).symm⟩
 rw[List.map_append] at h13
 obtain⟨e1,e2⟩:=List.append_inj' h13 rfl
 have ek:e.key=k:=by simpa using e2
 subst ek
 have he:e∈es:=h12 e (by simp)
 have e3:((L0++[e]).map (·.born)).toArray=((L0.map (·.born)).toArray).push (de e).born:=by simp[de]
 rw[e3] at h9
 have hrun:=run_entry_at (P:=P) w ri r since (L0.map (·.born)).toArray (es.map de).toArray clock (de e) h9 h5 (by simpa using⟨e,he,rfl⟩) (by
   have:=h6.born
   simpa[de,Function.comp_def] using this)
 have hF:(de e).val= .int .i64 (eM es e.key):=by
   show Value.int .i64 e.val=_
   unfold eM
   have:es.find? (λa=>decide (a.key=e.key))=some e:=by
     cases hf:es.find? (λa=>decide (a.key=e.key)) with
     |none=>exact absurd (List.find?_eq_none.1 hf e he) (by simp)
     |some a=>
       have h1:=List.mem_of_find?_eq_some hf
       have h2:=List.find?_some hf
       rw[rQ h6 h1 he (by simpa using h2)]
   rw[this];rfl
 rw[hF] at hrun
 simp only[execOp,hx]
 simp[hrun,de]
end
end TL
set_option linter.all false
namespace TL
section
variable{g:cv}{u v x y n:Int}{k i j m:Nat}{l:List (Int×Int)}
def u6(u:Int)(k:Nat):List Int:=(cz k).filter λx=> !decide (x=u)
def ka(n u:Int):List Int:=u6 u n.toNat
theorem yA(h:¬(k:Int)=u):u6 u k++[(k:Int)]=u6 u (k+1):=by
 unfold u6
 rw[dX,List.filter_append,List.filter_cons_of_pos (by simpa using h)];rfl
theorem Af(h:(k:Int)=u):u6 u k=u6 u (k+1):=by
 unfold u6
 rw[dX,List.filter_append,List.filter_cons_of_neg (by simpa using h),List.filter_nil,List.append_nil]
theorem s6:(u6 u k).length<=k:=by
 unfold u6
 have:=List.length_filter_le (λx=> !decide (x=u)) (cz k)
 rw[eE] at this;exact this
def gG(g:cv)(u:Int):cv:=(di g (ka g.1 u)).1
theorem yn:cI (ka n u) n=0:=by
 refine oF (λi hi=>?_) ((ml _).sublist List.filter_sublist)
 have:=hE.1 (List.mem_filter.1 hi).1
 omega
theorem Bh(hm:c7 g):(gG g u).1=((ka g.1 u).length:Int):=by
 unfold gG di
 rw[if_pos hm,if_pos yn]
theorem oG(hm:c7 g):c7 (gG g u):=by
 have hl:(ka g.1 u).length<=g.1.toNat:=s6
 obtain⟨m1,m2,m3,m4⟩:=id hm
 unfold gG di
 rw[if_pos hm,if_pos yn]
 refine⟨by show(0:Int)<=((ka g.1 u).length:Int);omega,by show((ka g.1 u).length:Int)<=1024;omega,?_,λe he=>?_⟩
 · show(List.map _ (mC g (ka g.1 u))).length<=3072
   rw[List.length_map]
   have:(mC g (ka g.1 u)).length<=((List.range g.2.length).map (λ(i:Nat)=>(i:Int))).length:=List.length_filter_le ..
   simp at this;omega
 · obtain⟨i,hi,rfl⟩:=List.mem_map.1 he
   have h2:=(List.mem_filter.1 hi).2
   simp only[Bool.and_eq_true,decide_eq_true_eq] at h2
   have p1:=gU.2 h2.1
   have p2:=gU.2 h2.2
   have q1:=lL (ka g.1 u) (gI g.2 i).1
   have q2:=lL (ka g.1 u) (gI g.2 i).2
   exact⟨⟨by omega,by show _<((ka g.1 u).length:Int);omega⟩,by omega,by show _<((ka g.1 u).length:Int);omega⟩
theorem uF(hm:c7 g)(h:x∈cB g):0<=x/\x<g.1:=by
 have hmb:=pF hm
 have e1:(cQ g).1.1=g.1:=by rw[mh hm]
 unfold cB dd at h
 rw[if_pos hmb] at h
 have:=hE.1 (List.mem_filter.1 h).1
 have:=hm.1
 omega
theorem nK(hm:c7 g):((cB g).length:Int)<=g.1:=by
 have hmb:=pF hm
 have e1:(cQ g).1.1=g.1:=by rw[mh hm]
 unfold cB dd
 rw[if_pos hmb]
 show((s9 (cQ g).1).length:Int)<=_
 unfold s9
 have h1:=List.length_filter_le (λv=>gI (tx (mY (cQ g).1) (cQ g).1 (2*(cQ g).1.2.length)).2 v) (cz (cQ g).1.1.toNat)
 rw[eE] at h1
 have:=hm.1
 omega
def r7(g:cv):Bool:=decide ((bu g).2.1<=1)
def jW(g:cv):Bool:=decide (2<g.1)&&(r7 g&&decide (((cB g).length:Int)=0))
def jp(g:cv)(u:Int)(j:Nat):List (Int×Int):=(((cB (gG g u)).take j).filter λx=>decide (u<gI (ka g.1 u) x)).map λx=>(u,gI (ka g.1 u) x)
def vm(g:cv)(u:Int):List (Int×Int):=jp g u (cB (gG g u)).length
theorem wx(hj:(j:Int)<((cB (gG g u)).length:Int))(h:u<gI (ka g.1 u) (gI (cB (gG g u)) (j:Int))):jp g u j++[(u,gI (ka g.1 u) (gI (cB (gG g u)) (j:Int)))]=jp g u (j+1):=by
 unfold jp
 rw[aT hj,List.filter_append,List.filter_cons_of_pos (by simpa using h),List.map_append];rfl
theorem zK(hj:(j:Int)<((cB (gG g u)).length:Int))(h:¬u<gI (ka g.1 u) (gI (cB (gG g u)) (j:Int))):jp g u j=jp g u (j+1):=by
 unfold jp
 rw[aT hj,List.filter_append,List.filter_cons_of_neg (by simpa using h),List.filter_nil,List.append_nil]
theorem uy(hj:¬(j:Int)<((cB (gG g u)).length:Int)):jp g u j=vm g u:=by
 unfold vm jp
 rw[List.take_of_length_le (by omega),List.take_length]
theorem qn:(jp g u j).length<=j:=by
 unfold jp
 rw[List.length_map]
 refine Nat.le_trans (List.length_filter_le _ _) ?_
 rw[List.length_take];omega
def fx(g:cv)(k:Nat):List (Int×Int):=(cz k).flatMap (vm g)
theorem me:fx g (k+1)=fx g k++vm g (k:Int):=by
 unfold fx;rw[dX,List.flatMap_append];simp
theorem n9(hm:c7 g):∀k:Nat,((fx g k).length:Int)<=(k:Int)*1024
 |0=>by simp[fx,cz]
 |k+1=>by
   have h1:=n9 hm k
   have h2:=nK (oG (u:=(k:Int)) hm)
   have h3:=oG (u:=(k:Int)) hm
   have h4:(vm g (k:Int)).length<=(cB (gG g (k:Int))).length:=qn
   rw[me,List.length_append]
   have:=h3.2.1
   omega
def mU(g:cv)(most:Int):Nat->Nat->List (Int×Int)
 |0,k=>fx g k
 |f+1,k=>if most<=((fx g (k+1)).length:Int) then fx g (k+1) else mU g most f (k+1)
def jB(g:cv)(most:Int):List (Int×Int):=mU g most g.1.toNat 0
theorem wt{most:Int}(h:mU g most (g.1.toNat-k) k=jB g most)(hk:(k:Int)<g.1)(hb:¬most<=((fx g (k+1)).length:Int)):mU g most (g.1.toNat-(k+1)) (k+1)=jB g most:=by
 rw[<-h,show g.1.toNat-k=(g.1.toNat-(k+1))+1 by omega]
 simp only[mU]
 rw[if_neg hb]
theorem tB{most:Int}(h:mU g most (g.1.toNat-k) k=jB g most)(hk:(k:Int)<g.1)(hb:most<=((fx g (k+1)).length:Int)):fx g (k+1)=jB g most:=by
 rw[<-h,show g.1.toNat-k=(g.1.toNat-(k+1))+1 by omega]
 simp only[mU]
 rw[if_pos hb]
theorem x4{most:Int}(h:mU g most (g.1.toNat-k) k=jB g most)(hk:¬(k:Int)<g.1):fx g k=jB g most:=by
 rw[<-h,show g.1.toNat-k=0 by omega];rfl
def aD(g:cv):List (Int×Int)×Int:=if c7 g then if jW g=true then(jB g (g.1*g.1),0) else([],7) else([],1)
theorem vz(h:¬c7 g):aD g=([],1):=by unfold aD;rw[if_neg h]
theorem zX(hm:c7 g)(h:¬jW g=true):aD g=([],7):=by unfold aD;rw[if_pos hm,if_neg h]
theorem xf(hm:c7 g)(h:jW g=true):aD g=(jB g (g.1*g.1),0):=by unfold aD;rw[if_pos hm,if_pos h]
def qB(u v:Int)(e:Int×Int):Bool:=decide (¬e.1=u/\¬e.1=v/\¬e.2=u/\¬e.2=v)
def iC(g:cv)(u v:Int)(k:Nat):List (Int×Int):=(g.2.take k).filter (qB u v)
def sG(g:cv)(u v:Int):cv:=(g.1,iC g u v g.2.length)
theorem uu(hk:(k:Int)<(g.2.length:Int))(h:qB u v (gI g.2 (k:Int))=true):iC g u v k++[gI g.2 (k:Int)]=iC g u v (k+1):=by
 unfold iC
 rw[aT hk,List.filter_append,List.filter_cons_of_pos h];rfl
theorem lS(hk:(k:Int)<(g.2.length:Int))(h:¬qB u v (gI g.2 (k:Int))=true):iC g u v k=iC g u v (k+1):=by
 unfold iC
 rw[aT hk,List.filter_append,List.filter_cons_of_neg h,List.filter_nil,List.append_nil]
theorem pj:(iC g u v k).length<=k:=by
 unfold iC
 refine Nat.le_trans (List.length_filter_le _ _) ?_
 rw[List.length_take];omega
theorem wA(hk:¬(k:Int)<(g.2.length:Int)):(g.1,iC g u v k)=sG g u v:=by
 unfold sG iC
 rw[List.take_of_length_le (by omega),List.take_length]
theorem vG(hm:c7 g):c7 (sG g u v):=by
 obtain⟨m1,m2,m3,m4⟩:=hm
 refine⟨m1,m2,Nat.le_trans pj m3,λe he=>?_⟩
 have h1:e∈g.2.take g.2.length:=(List.mem_filter.1 he).1
 rw[List.take_length] at h1
 exact m4 e h1
def gC(u v:Int)(e:Int×Int):Int:=if e.1=u\/e.1=v then e.2 else e.1
def t6(u v:Int)(e:Int×Int):Prop:=e.1=e.2\/gC u v e=u\/gC u v e=v
instance {e:Int×Int}:Decidable (t6 u v e):=by unfold t6;infer_instance
abbrev BH:=List (List Int)×((Int->Int)×List Int)
def lU(p:List Int)(g:cv)(u v:Int)(s:BH)(i:Int):BH:=
  if t6 u v (gI g.2 i) then(s.1++[[i]],s.2)
  else if gI p (gC u v (gI g.2 i))∈s.2.2 then(s.1.set (s.2.1 (gI p (gC u v (gI g.2 i)))).toNat (gI s.1 (s.2.1 (gI p (gC u v (gI g.2 i))))++[i]),s.2)
  else(s.1++[[i]],((λq=>if q=gI p (gC u v (gI g.2 i)) then(s.1.length:Int) else s.2.1 q),s.2.2++[gI p (gC u v (gI g.2 i))]))
def xA(p:List Int)(g:cv)(u v:Int)(k:Nat):BH:=(cz k).foldl (lU p g u v) ([],(λ_=>0,[]))
theorem ku{p:List Int}:xA p g u v (k+1)=lU p g u v (xA p g u v k) (k:Int):=by
 unfold xA;rw[dX,List.foldl_append];rfl
def rC(g:cv)(u v:Int):List (List Int):=(xA (bu (sG g u v)).1 g u v g.2.length).1
structure jM(p:List Int)(g:cv)(u v:Int)(k:Nat)(l:List (List Int))(at_:(Int->Int)×List Int):Prop where
 eq:(l,at_)=xA p g u v k
 len:l.length<=k
 rg:∀q∈at_.2,0<=at_.1 q/\at_.1 q<(l.length:Int)
 sm:∀r∈l,r.length<=k
variable{p:List Int}{ls ls':List (List Int)}{at_ at2:(Int->Int)×List Int}
theorem jM.start:jM p g u v 0 [] (λ_=>0,[]):=⟨rfl,by simp,λq hq=>absurd hq List.not_mem_nil,λr hr=>absurd hr List.not_mem_nil⟩
theorem jM.alone(h:jM p g u v k ls at_)(ha:t6 u v (gI g.2 (k:Int))):jM p g u v (k+1) (ls++[[(k:Int)]]) at_:=by
 refine⟨?_,by rw[List.length_append];have:=h.len;simp;omega,λq hq=>?_,λr hr=>?_⟩
 · rw[ku,<-h.eq];unfold lU;rw[if_pos ha]
 · have:=h.rg q hq
   rw[List.length_append];simp;omega
 · rcases List.mem_append.1 hr with hr|hr
   · have:=h.sm r hr;omega
   · rw[List.mem_singleton.1 hr];simp
theorem jM.old(h:jM p g u v k ls at_)(ha:¬t6 u v (gI g.2 (k:Int)))(hin:gI p (gC u v (gI g.2 (k:Int)))∈at_.2)(e:ls'=ls.set (at_.1 (gI p (gC u v (gI g.2 (k:Int))))).toNat (gI ls (at_.1 (gI p (gC u v (gI g.2 (k:Int)))))++[(k:Int)])):jM p g u v (k+1) ls' at_:=by
 have hr0:=h.rg _ hin
 subst e
 refine⟨?_,by rw[List.length_set];have:=h.len;omega,λq hq=>by rw[List.length_set];exact h.rg q hq,λr hr=>?_⟩
 · rw[ku,<-h.eq];unfold lU;rw[if_neg ha,if_pos hin]
 · rcases List.mem_or_eq_of_mem_set hr with hr|hr
   · have:=h.sm r hr;omega
   · rw[hr,List.length_append]
     have:=h.sm _ (bC (xs:=ls) hr0.1 hr0.2)
     simp;omega
theorem jM.new(h:jM p g u v k ls at_)(ha:¬t6 u v (gI g.2 (k:Int)))(hin:¬gI p (gC u v (gI g.2 (k:Int)))∈at_.2)(e:ls'=ls++[[(k:Int)]])(e2:at2=((λq=>if q=gI p (gC u v (gI g.2 (k:Int))) then(ls.length:Int) else at_.1 q),at_.2++[gI p (gC u v (gI g.2 (k:Int)))])):jM p g u v (k+1) ls' at2:=by
 subst e e2
 refine⟨?_,by rw[List.length_append];have:=h.len;simp;omega,λq hq=>?_,λr hr=>?_⟩
 · rw[ku,<-h.eq];unfold lU;rw[if_neg ha,if_neg hin]
 · show 0<=(if q=_ then _ else _)/\(if q=_ then _ else _)<_
   rw[List.length_append]
   split
   · simp;omega
   · rcases List.mem_append.1 hq with hq|hq
     · have:=h.rg q hq
       simp;omega
     · exact absurd (List.mem_singleton.1 hq) (by assumption)
 · rcases List.mem_append.1 hr with hr|hr
   · have:=h.sm r hr;omega
   · rw[List.mem_singleton.1 hr];simp
theorem jM.done(h:jM (bu (sG g u v)).1 g u v k ls at_)(h0:(k:Int)<=(g.2.length:Int))(hk:¬(k:Int)<(g.2.length:Int)):ls=rC g u v:=by
 have e:k=g.2.length:=by omega
 subst e
 exact congrArg Prod.fst h.eq
theorem A8(e:Int×Int)(h1:e.1=u\/e.1=v):gC u v e=e.2:=if_pos h1
theorem B5(e:Int×Int)(h1:¬e.1=u)(h2:¬e.1=v):gC u v e=e.1:=if_neg (by rintro(q|q);exact h1 q;exact h2 q)
theorem jM.alone'{w:Int}(h:jM p g u v k ls at_)(hw:gC u v (gI g.2 (k:Int))=w)(ha:(gI g.2 (k:Int)).1=(gI g.2 (k:Int)).2\/w=u\/w=v):jM p g u v (k+1) (ls++[[(k:Int)]]) at_:=h.alone (by subst hw;exact ha)
theorem jM.old'{w:Int}(h:jM p g u v k ls at_)(hw:gC u v (gI g.2 (k:Int))=w)(ha:¬((gI g.2 (k:Int)).1=(gI g.2 (k:Int)).2\/w=u\/w=v))(hin:gI p w∈at_.2)(e:ls'=ls.set (at_.1 (gI p w)).toNat (gI ls (at_.1 (gI p w))++[(k:Int)])):jM p g u v (k+1) ls' at_:=by
 subst hw;exact h.old ha hin e
theorem yD{x:Int}:(ls++[[]]).set (Int.toNat (ls.length:Int)) (gI (ls++[[]]) (ls.length:Int)++[x])=ls++[[x]]:=by
 simp[gI]
theorem jM.new'{w:Int}(h:jM p g u v k ls at_)(hw:gC u v (gI g.2 (k:Int))=w)(ha:¬((gI g.2 (k:Int)).1=(gI g.2 (k:Int)).2\/w=u\/w=v))(hin:¬gI p w∈at_.2)(e:ls'=(ls++[[]]).set (Int.toNat (ls.length:Int)) (gI (ls++[[]]) (ls.length:Int)++[(k:Int)]))(e2:at2=((λq=>if q=gI p w then(ls.length:Int) else at_.1 q),if gI p w∈at_.2 then at_.2 else at_.2++[gI p w])):jM p g u v (k+1) ls' at2:=by
 subst hw
 rw[if_neg hin] at e2
 exact h.new ha hin (e.trans yD) e2
theorem oS(hm:c7 g):((bu g).1.length:Int)=g.1:=by
 unfold bu
 rw[if_pos hm]
 have:=(ns g g.1.toNat).1
 have:=hm.1
 show((cE g g.1.toNat).1.length:Int)=_
 omega
def ba(g:cv)(u v:Int):List (List Int)×Int:=if c7 g then if(0<=u/\u<g.1)/\(0<=v/\v<g.1)/\¬u=v then(rC g u v,0) else([],2) else([],1)
theorem vT(h:¬c7 g):ba g u v=([],1):=by unfold ba;rw[if_neg h]
theorem ji(hm:c7 g)(h:¬((0<=u/\u<g.1)/\(0<=v/\v<g.1)/\¬u=v)):ba g u v=([],2):=by unfold ba;rw[if_pos hm,if_neg h]
theorem vC(hm:c7 g)(h:(0<=u/\u<g.1)/\(0<=v/\v<g.1)/\¬u=v):ba g u v=(rC g u v,0):=by unfold ba;rw[if_pos hm,if_pos h]
theorem BE(hm:c7 g):0<=g.1*g.1/\g.1*g.1<=1048576:=by
 obtain⟨h0,h1,_⟩:=hm
 exact⟨Int.mul_nonneg h0 h0,Int.le_trans (Int.mul_le_mul_of_nonneg_right h1 h0) (show 1024*g.1<=1048576 by omega)⟩
end
end TL
set_option linter.all false
namespace TL
open Go
section
variable{P:Program}{w:World}{f:Fr}{dst:Option Tmp}{ty:TypeId}{pos:String}{after:Array Edge}{g:Option (Nat×Bool)}{x y:Operand}{s d t:TypeId}{m:Int}{k k0:IntKind}
theorem qM{us:TypeDesc}(hs:P.underlying s=some us)(hd:P.underlying d=some (.int k))(hx:ev f x= .int k0 m)(hw:k.wrap m=m):(execOp (ev f) ⟨dst,.convert s d x,ty,pos,after,g⟩).run P w= .ok (.value (.int k m)) w:=by
 simp[execOp,convert,hx,aL hs,aL hd,Conv.intToInt,hw]
theorem pH{i r:Int}{b:UInt8}{str:ByteArray}(ht:P.underlying t=some .string)(hx:ev f x= .string str)(hy:ev f y= .int k i)(h0:0<=i)(hb:str[i.toNat]? =some b)(hr:(b.toNat:Int)=r):(execOp (ev f) ⟨dst,.index t x y,ty,pos,after,g⟩).run P w= .ok (.value (.int .u8 r)) w:=by
 simp[execOp,Instr.index,asIntOf,hx,hy,aL ht,h0,hb,hr]
theorem ii{fid:Nat}{cs:List Operand}{vals:List Value}(h:cs.map (ev f)=vals):(execOp (ev f) ⟨dst,.makeFunc (.func fid) #[] cs.toArray,ty,pos,after,g⟩).run P w= .ok (.value (.func (.func fid) #[] vals.toArray)) w:=by
 have h:cs.toArray.map (ev f)=vals.toArray:=by rw[<-h];simp
 simp[execOp,Instr.makeFunc,h]
theorem ke{fid:Nat}{fn:Func}{c:Operand}{args:List Operand}{at_:Array TypeId}{vals caps:List Value}(hc:ev f c= .func (.func fid) #[] caps.toArray)(hf:P.funcs[fid]? =some fn)(hb:fn.body.isNone=false)(hn:(fn.name== "runtime.NumGoroutine")=false)(ha:args.map (ev f)=vals):
   (execOp (ev f) ⟨dst,.call {callee:=.value c,args:=args.toArray,argTypes:=at_},ty,pos,after,g⟩).run P w= .ok (.enter fid (vals++caps).toArray) w:=by
 have ha:args.toArray.map (ev f)=vals.toArray:=by rw[<-ha];simp
 simp only[execOp,resolve,hc,Deferred.ofValue,invoke,callFunc,ha,Sem.run_bind,Sem.run_pure,Result.andThen_ok,run_program,hf,hn,hb,Bool.false_eq_true,if_false,Array.append_empty,Array.empty_append]
 simp
end
end TL
namespace TL
open Go
section
variable{P:Program}{w:World}{f:Fr}{dst:Option Tmp}{ty:TypeId}{pos:String}{after:Array Edge}{g:Option (Nat×Bool)}{x y:Operand}{t t':TypeId}
theorem og{fs:Array Field}{xs ys:List Value}{bs:List Bool}{q:Bool}(ht:P.underlying t=some (.struct fs))(hp:P.stoodInHeld t=false)(hg:P.eqGuardType P.depth t=false)(hx:ev f x= .agg xs.toArray)(hy:ev f y= .agg ys.toArray)(h:EqF P xs.toArray ys.toArray fs.toList bs)(hq:bs.all id=q):
   (execOp (ev f) ⟨dst,.binOp .neq t x y t',ty,pos,after,g⟩).run P w= .ok (.value (.bool !q)) w:=by
 have e1:P.fieldsOf t=fs:=by simp[Program.fieldsOf,ht]
 have hr:(Op.equal t (.agg xs.toArray) (.agg ys.toArray)).run P w= .ok q w:=by
   have:=run_equalIn_struct (P:=P) w 9999 t xs.toArray ys.toArray (by rw[e1];exact ht) hp
   rw[e1,nV h 9998,hq] at this
   exact this
 exact sb .neq hx hy (by simp[eqGuard,hg]) (by simp[binOp,hr])
end
end TL
namespace TL
open Go
section
end
end TL
set_option linter.all false
namespace TL
open Go
section
end
theorem vE{x:Int}(h0:0<=x)(h1:x<=4611686018427387904):IntKind.u64.wrap x=x:=by
 have:IntKind.u64.wrap x=x%18446744073709551616:=by simp[IntKind.wrap,IntKind.bits,IntKind.signed]
 rw[this];omega
theorem zt{x:Int}(h0:0<=x)(h1:x<=255):IntKind.u8.wrap x=x:=by
 have:IntKind.u8.wrap x=x%256:=by simp[IntKind.wrap,IntKind.bits,IntKind.signed]
 rw[this];omega
def i7(i:Int):Int:=gI [0,1,2,2,3,3,3,3,4,4,4,4,4] i
theorem pg{i:Int}(h0:0<=i)(h1:i<=12):i=0\/i=1\/i=2\/i=3\/i=4\/i=5\/i=6\/i=7\/i=8\/i=9\/i=10\/i=11\/i=12:=by omega
theorem zG{i:Int}(h0:0<=i)(h1:i<=12):0<=i7 i/\i7 i<=4:=by
 rcases pg h0 h1 with rfl|rfl|rfl|rfl|rfl|rfl|rfl|rfl|rfl|rfl|rfl|rfl|rfl<;>decide
theorem vD{i:Int}(h0:0<=i)(h1:i<=12){str:ByteArray}(h:(List.range 13).all (λk=>decide (str[k]? =some (UInt8.ofNat (i7 (k:Int)).toNat)))=true):str[i.toNat]? =some (UInt8.ofNat (i7 i).toNat):=by
 obtain⟨k,rfl⟩:∃k:Nat,i=k:=⟨i.toNat,by omega⟩
 exact of_decide_eq_true (List.all_eq_true.1 h k (List.mem_range.2 (by omega)))
theorem uC{i:Int}(h0:0<=i)(h1:i<=12):((UInt8.ofNat (i7 i).toNat).toNat:Int)=i7 i:=by
 rcases pg h0 h1 with rfl|rfl|rfl|rfl|rfl|rfl|rfl|rfl|rfl|rfl|rfl|rfl|rfl<;>decide
end TL
set_option linter.all false
namespace TL
section
variable{l:List Int}{k:Nat}{g:cv}
variable{L D:List (Int×Int)}{n:Nat}{m m2:(Int×Int->Int)×List (Int×Int)}
theorem Ay{K:Type}{nb:Bool}{q:K}{D S:List K}(h:nb=true->q∈D/\q∉S/\S.length+1<=D.length)(hb:nb=true):S.length+1<=D.length:=(h hb).2.2
end
end TL
set_option linter.all false
namespace TL
abbrev Bd:=Int×Int×Int×Int
abbrev du:=Int×List Bd
def jm(x:Int):List Int->List Int
  |[]=>[x]
  |y::l=>if x<y then x::y::l else if x=y then y::l else y::jm x l
def eD(bs:List Bd):List Int:=bs.flatMap λb=>[b.1,b.2.1]
def cC(bs:List Bd):List Int:=(eD bs).foldr jm []
def Ar:List (Int×Int)->List Bd->Option (Int×Int)
  |_,[]=>none
  |seen,b::l=>if(b.1,b.2.1)∈seen then some (b.1,b.2.1) else Ar ((b.1,b.2.1)::seen) l
def i5(bs:List Bd):Bool:=(eD bs).all λv=>(eD bs).count v==2
def qY(l:List Int)(x:Int):Int:=(l.idxOf x:Int)
def eG(l:List Int)(x:Int):Int:=((l.countP (· <x):Nat):Int)
def bc(bs:List Bd):cv:=(((cC bs).length:Int),bs.map λb=>(eG (cC bs) b.1,eG (cC bs) b.2.1))
def ia(f:Int->Bool):Int->List Bd->List Bd
  |_,[]=>[]
  |i,b::l=>if f i then b::ia f (i+1) l else ia f (i+1) l
def wP(u v nm:Int):Bd:=(min u v,max u v,-1,nm)
def pO(f:Int->Bool)(bs:List Bd)(u v nm:Int):List Bd:=ia f 0 bs++[wP u v nm]
def lh(f:Int->Bool)(bs:List Bd)(u v nm:Int):List Bd:=ia (λi=> !f i) 0 bs++[wP u v nm]
def fj(g:cv):List Bd:=(cz g.2.length).map λe=>(min (gI g.2 e).1 (gI g.2 e).2,max (gI g.2 e).1 (gI g.2 e).2,e,0)
def uB(k:Int)(b:Bd):Bool:=decide (b.2.2.1<0/\b.2.2.2=k)
def iM:Int->List du->Int->List Int
  |_,[],_=>[]
  |i,p::l,k=>(p.2.filter (uB k)).map (λ_=>i)++iM (i+1) l k
def aR(ps:List du)(names:Int):List (List Int):=(cz names.toNat).map (iM 0 ps)
def ip(gone:List Bool)(bs:List Bd):List Bd:=bs.filter λb=>decide (0<=b.2.2.1)|| !gI gone b.2.2.2
def iA(r:Int)(p:du)(bs:List Bd):List (Int×du)->List (Int×du)
 |[]=>[(r,p.1,bs)]
 |q::l=>if q.1=r then(q.1,q.2.1,q.2.2++bs)::l else q::iA r p bs l
def dH(to:List Int)(b:Bd):List Int×Bd:=
 if 0<=b.2.2.1 then(to,b) else if b.2.2.2∈to then(to,(b.1,b.2.1,b.2.2.1,qY to b.2.2.2)) else(to++[b.2.2.2],(b.1,b.2.1,b.2.2.1,(to.length:Int)))
def dB:List Int->List Bd->List Int×List Bd
 |to,[]=>(to,[])
 |to,b::l=>((dB (dH to b).1 l).1,(dH to b).2::(dB (dH to b).1 l).2)
def eL:List Int->List du->List Int×List du
 |to,[]=>(to,[])
 |to,p::l=>((eL (dB to p.2).1 l).1,(p.1,(dB to p.2).2)::(eL (dB to p.2).1 l).2)
def eu(h:List (List Int))(i name:Int):Int:=gI (gI h name) 0+gI (gI h name) 1-i
abbrev mM:=Int×List Int×List Bd
def ij(ps:List du):Int:=(ps.findIdx (λp=>p.2.any λb=>b.2.2.1==0):Int)
def aY:cv:=(4,[(0,1),(1,2),(2,3),(3,0),(0,2)])
end TL
set_option linter.all false
namespace TL
open Go Go.Lib
section
variable{x y:Int}{l zs:List Int}{bs:List Bd}{d:Array Int}{m:Nat}
theorem mb:∀{l:List Int},y∈jm x l↔y=x\/y∈l
 |[]=>by simp[jm]
 |z::l=>by
   unfold jm
   split
   · simp
   · split
     · rename_i h1 h2
       subst h2
       simp
     · rw[List.mem_cons,mb,List.mem_cons]
       exact⟨λh=>h.elim (λh=>.inr (.inl h)) λh=>h.elim .inl λh=>.inr (.inr h),λh=>h.elim (λh=>.inr (.inl h)) λh=>h.elim .inl λh=>.inr (.inr h)⟩
theorem rS:∀{l:List Int},l.Pairwise (· < ·)->(jm x l).Pairwise (· < ·)
 |[],_=>by simp[jm]
 |z::l,h=>by
   have h':=List.pairwise_cons.1 h
   unfold jm
   split
   · rename_i h1
     refine List.pairwise_cons.2 ⟨λq hq=>?_,h⟩
     rcases List.mem_cons.1 hq with rfl|hq
     · exact h1
     · have:=h'.1 q hq;omega
   · split
     · exact h
     · refine List.pairwise_cons.2 ⟨λq hq=>?_,rS h'.2⟩
       rcases mb.1 hq with rfl|hq
       · omega
       · exact h'.1 q hq
theorem st:∀(l:List Int),(l.foldr jm []).Pairwise (· < ·)/\∀y,y∈l.foldr jm []↔y∈l
 |[]=>by simp
 |x::l=>by
   obtain⟨h1,h2⟩:=st l
   refine⟨rS h1,λy=>?_⟩
   rw[List.foldr_cons,mb,h2,List.mem_cons]
theorem A1(bs:List Bd):(cC bs).Pairwise (· < ·):=(st _).1
theorem At:x∈cC bs↔x∈eD bs:=(st _).2 x
theorem lb(hs:∀i j,i<j->j<d.size->d[i]! <=d[j]!):∀m,m<=d.size->(compactUpTo d m).Pairwise (· < ·)/\∀x,x∈compactUpTo d m↔∃i,i<m/\d[i]! =x
 |0,_=>by simp[compactUpTo]
 |m+1,hm=>by
   obtain⟨h1,h2⟩:=lb hs m (by omega)
   rw[compactUpTo_succ]
   by_cases h0:m=0
   · subst h0
     rw[if_pos (keeps_lt_one d 0 (by omega))]
     have e:compactUpTo d 0=[]:=by simp[compactUpTo]
     rw[e]
     refine⟨by simp,λx=>?_⟩
     simp only[List.nil_append,List.mem_singleton]
     constructor
     · rintro rfl;exact⟨0,by omega,rfl⟩
     · rintro⟨i,hi,rfl⟩
       rw[show i=0 by omega]
   · by_cases hk:d[m]! =d[m-1]!
     · rw[keeps_neg (by omega) hk]
       simp only[Bool.false_eq_true,if_false,List.append_nil]
       refine⟨h1,λx=>(h2 x).trans ⟨?_,?_⟩⟩
       · rintro⟨i,hi,e⟩;exact⟨i,by omega,e⟩
       · rintro⟨i,hi,e⟩
         by_cases hi2:i<m
         · exact⟨i,hi2,e⟩
         · exact⟨m-1,by omega,by rw[<-hk,<-e,show i=m by omega]⟩
     · rw[keeps_pos hk,if_pos rfl]
       have hlt:d[m-1]! <d[m]! :=by
         have:=hs (m-1) m (by omega) (by omega)
         omega
       refine⟨?_,λx=>?_⟩
       · rw[List.pairwise_append]
         refine⟨h1,by simp,λa ha b hb=>?_⟩
         rw[List.mem_singleton.1 hb]
         obtain⟨i,hi,rfl⟩:=(h2 a).1 ha
         by_cases e:i=m-1
         · rw[e];exact hlt
         · have:=hs i (m-1) (by omega) (by omega)
           omega
       · rw[List.mem_append,List.mem_singleton,h2]
         constructor
         · rintro(⟨i,hi,e⟩|e)
           · exact⟨i,by omega,e⟩
           · exact⟨m,by omega,e.symm⟩
         · rintro⟨i,hi,e⟩
           by_cases hi2:i<m
           · exact .inl ⟨i,hi2,e⟩
           · exact .inr (by rw[<-e,show i=m by omega])
theorem yE(l:List Int):∀a,a∈l->∀b,b∈l->a<b->¬b<a:=λa _ b _ h=>by omega
theorem yu(zs:List Int):compact (zs.mergeSort λx y=>decide (x<=y))=zs.foldr jm []:=by
 have hp:=List.mergeSort_perm zs λx y=>decide (x<=y)
 have hs:=List.pairwise_mergeSort (le:=λ(x y:Int)=>decide (x<=y)) (by intro a b c h1 h2;simp at*;omega) (by intro a b;simp;omega) zs
 have hs':∀i j,i<j->j<(zs.mergeSort λx y=>decide (x<=y)).toArray.size->(zs.mergeSort λx y=>decide (x<=y)).toArray[i]! <=(zs.mergeSort λx y=>decide (x<=y)).toArray[j]! :=λi j hij hj=>by
   have hj':j<(zs.mergeSort λx y=>decide (x<=y)).length:=by simpa using hj
   have:=List.pairwise_iff_getElem.1 hs i j (by omega) hj' hij
   simp only[decide_eq_true_eq] at this
   rw[getElem!_pos _ i (by simp only[List.size_toArray];omega),getElem!_pos _ j (by simpa using hj)]
   simpa using this
 obtain⟨h1,h2⟩:=lb hs' (zs.mergeSort λx y=>decide (x<=y)).length (by simp)
 obtain⟨h3,h4⟩:=st zs
 unfold compact
 refine xG (R:=(· < ·)) (yE _) h1 h3 λx=>?_
 rw[h2,h4,<-hp.mem_iff]
 constructor
 · rintro⟨i,hi,rfl⟩
   rw[getElem!_pos _ i (by simpa using hi)]
   exact List.getElem_mem (by simpa using hi)
 · intro hx
   obtain⟨i,hi,e⟩:=List.mem_iff_getElem.1 hx
   refine⟨i,hi,?_⟩
   rw[getElem!_pos _ i (by simpa using hi)]
   exact e
theorem wG(bs:List Bd):compact ((eD bs).mergeSort λx y=>decide (x<=y))=cC bs:=yu _
end
end TL
namespace TL
section
variable{bs:List Bd}{k:Nat}
def BG(bs:List Bd):List Int:=(eD bs).mergeSort λx y=>decide (x<=y)
theorem i6:∀bs:List Bd,(eD bs).length=2*bs.length
 |[]=>rfl
 |b::bs=>by
   have:=i6 bs
   unfold eD at this ⊢
   rw[List.flatMap_cons,List.length_append,this]
   simp only[List.length_cons,List.length_nil]
   omega
theorem mc(h:(k:Int)<bs.length):eD (bs.take k)++[(gI bs (k:Int)).1,(gI bs (k:Int)).2.1]=eD (bs.take (k+1)):=by
 rw[aT h]
 unfold eD
 rw[List.flatMap_append]
 simp
theorem oO(h:0<bs.length):eD bs≠[]:=λe=>by
 have:=i6 bs
 rw[e] at this
 simp at this
 omega
end
end TL
set_option linter.all false
namespace TL
section
variable{bs:List Bd}{k:Nat}{m:(Int->Int)×List Int}{SS:List Int}{nb:Bool}{q:Int}{F:Int×Int->Int}{ie:List (Int×Int)}
theorem Az(h:0<(bs.length:Int)):0<((cC bs).length:Int):=by
 have h2:=oO (bs:=bs) (by omega)
 obtain⟨x,hx⟩:=List.exists_mem_of_ne_nil _ h2
 have:=List.length_pos_of_mem (At.2 hx)
 omega
theorem Ac:(cC bs).length<=2*bs.length:=by
 rw[<-i6 bs]
 unfold cC
 generalize eD bs=l
 induction l with
 |nil=>simp
 |cons x l ih=>
   rw[List.foldr_cons]
   have:∀(x:Int) (l:List Int),(jm x l).length<=l.length+1:=λx l=>by
     induction l with
     |nil=>simp[jm]
     |cons y l ih=>
       unfold jm
       split
       · simp
       · split
         · simp
         · simp only[List.length_cons];omega
   have:=this x (l.foldr jm [])
   simp only[List.length_cons]
   omega
def mO(m:(Int->Int)×List Int)(a:Int):(Int->Int)×List Int:=(λq=>if q=a then m.1 a+1 else m.1 q,if a∈m.2 then m.2 else m.2++[a])
structure oI(bs:List Bd)(k:Nat)(m:(Int->Int)×List Int):Prop where
 f:∀v,m.1 v=(((eD (bs.take k)).count v:Nat):Int)
 d:∀v,v∈m.2↔v∈eD (bs.take k)
theorem oI.start:oI bs 0 ((λ_=>0),[]):=⟨λv=>by simp[eD],λv=>by simp[eD]⟩
theorem xy{l:List Int}{a:Int}(h:∀v,m.1 v=((l.count v:Nat):Int)):∀v,(mO m a).1 v=(((l++[a]).count v:Nat):Int):=λv=>by
 unfold mO
 simp only[List.count_append,List.count_singleton]
 by_cases e:v=a
 · subst e
   rw[if_pos rfl,h]
   simp
 · rw[if_neg e,h]
   have:(a==v)=false:=by simpa using Ne.symm e
   rw[this]
   simp
theorem yd{l:List Int}{a:Int}(h:∀v,v∈m.2↔v∈l):∀v,v∈(mO m a).2↔v∈l++[a]:=λv=>by
 unfold mO
 simp only
 split
 · rename_i ha
   rw[List.mem_append,List.mem_singleton,h]
   exact⟨.inl,λq=>q.elim id λe=>by rw[e];exact(h a).1 ha⟩
 · rw[List.mem_append,List.mem_append,h]
theorem oI.next(h:oI bs k m)(hk:(k:Int)<bs.length):oI bs (k+1) (mO (mO m (gI bs (k:Int)).1) (gI bs (k:Int)).2.1):=by
 have e:eD (bs.take (k+1))=(eD (bs.take k)++[(gI bs (k:Int)).1])++[(gI bs (k:Int)).2.1]:=by rw[<-mc hk];simp
 refine⟨λv=>?_,λv=>?_⟩
 · rw[e];exact xy (xy h.f) v
 · rw[e];exact yd (yd h.d) v
theorem oI.bd(h:oI bs k m):∀v,0<=m.1 v/\m.1 v<=2*(k:Int):=λv=>by
 rw[h.f]
 have h1:=List.count_le_length (a:=v) (l:=eD (bs.take k))
 rw[i6,List.length_take] at h1
 omega
theorem oI.bdd(h:oI bs k m)(a:Int):∀v,0<=(mO m a).1 v/\(mO m a).1 v<=2*(k:Int)+1:=λv=>by
 have h1:=h.bd v
 have h2:=h.bd a
 unfold mO
 simp only
 split<;>omega
theorem oI.all(h:oI bs k m)(hk:¬(k:Int)<bs.length):(∀v,m.1 v=(((eD bs).count v:Nat):Int))/\∀v,v∈m.2↔v∈eD bs:=by
 have h1:=h.f
 have h2:=h.d
 rw[List.take_of_length_le (by omega)] at h1 h2
 exact⟨h1,h2⟩
theorem oI.no(h:oI bs k m)(hk:¬(k:Int)<bs.length)(hy:nb=true->q∈m.2/\q∉SS/\SS.length+1<=m.2.length)(hb:nb=true)(h2:¬m.1 q=2):false=i5 bs:=by
 obtain⟨h3,h4⟩:=h.all hk
 refine(Bool.eq_false_iff.2 λhr=>h2 ?_).symm
 unfold i5 at hr
 have:=List.all_eq_true.1 hr q ((h4 q).1 (hy hb).1)
 rw[h3]
 have:=of_decide_eq_true this
 omega
theorem oI.yes(h:oI bs k m)(hk:¬(k:Int)<bs.length)(hS:∀v∈SS,m.1 v=2)(hz:nb=false->∀v∈m.2,v∈SS)(hb:¬nb=true):true=i5 bs:=by
 obtain⟨h3,h4⟩:=h.all hk
 refine(List.all_eq_true.2 λv hv=>?_).symm
 have h5:=hS v (hz (by cases nb;rfl;exact absurd rfl hb) v ((h4 v).2 hv))
 rw[h3] at h5
 exact decide_eq_true (by omega)
theorem zC(hS:∀v∈SS,m.1 v=2)(hb:nb=true)(h2:m.1 q=2):∀v∈AU nb SS q,m.1 v=2:=by
 rw[xI hb]
 intro v hv
 rcases List.mem_append.1 hv with hv|hv
 · exact hS v hv
 · rw[List.mem_singleton.1 hv];exact h2
def B0(b:Bd):Int×Int:=(b.1,b.2.1)
def d6(bs:List Bd):Int×Int×Bool:=
 match Ar [] bs with
 |some p=>(p.1,p.2,true)
 |none=>(0,0,false)
structure so(bs:List Bd)(k:Nat)(F:Int×Int->Int):Prop where
 f:∀q,F q=((((bs.take k).map B0).count q:Nat):Int)
 one:∀q,F q<=1
 t:Ar [] bs=Ar ((bs.take k).map B0).reverse (bs.drop k)
theorem so.start:so bs 0 (λ_=>0):=⟨λq=>by simp,λq=>by simp,by simp⟩
theorem eV(hk:(k:Int)<bs.length):bs.drop k=gI bs (k:Int)::bs.drop (k+1):=by
 have hl:k<bs.length:=by omega
 rw[List.drop_eq_getElem_cons hl]
 congr 1
 simp[gI,hl]
theorem so.yes(h:so bs k F)(hk:(k:Int)<bs.length)(h2:1<(λq=>if q=((gI bs (k:Int)).1,(gI bs (k:Int)).2.1) then F ((gI bs (k:Int)).1,(gI bs (k:Int)).2.1)+1 else F q) ((gI bs (k:Int)).1,(gI bs (k:Int)).2.1)):d6 bs=((gI bs (k:Int)).1,(gI bs (k:Int)).2.1,true):=by
 simp only[if_pos] at h2
 have hm:((gI bs (k:Int)).1,(gI bs (k:Int)).2.1)∈((bs.take k).map B0).reverse:=by
   rw[h.f] at h2
   rw[List.mem_reverse]
   exact List.count_pos_iff.1 (by omega)
 unfold d6
 rw[h.t,eV hk,Ar,if_pos hm]
theorem so.next(h:so bs k F)(hk:(k:Int)<bs.length)(h2:¬1<(λq=>if q=((gI bs (k:Int)).1,(gI bs (k:Int)).2.1) then F ((gI bs (k:Int)).1,(gI bs (k:Int)).2.1)+1 else F q) ((gI bs (k:Int)).1,(gI bs (k:Int)).2.1)):so bs (k+1) (λq=>if q=((gI bs (k:Int)).1,(gI bs (k:Int)).2.1) then F ((gI bs (k:Int)).1,(gI bs (k:Int)).2.1)+1 else F q):=by
 simp only[if_pos] at h2
 have hm:((gI bs (k:Int)).1,(gI bs (k:Int)).2.1)∉((bs.take k).map B0).reverse:=λhm=>by
   rw[List.mem_reverse] at hm
   have:=List.count_pos_iff.2 hm
   have:=h.f ((gI bs (k:Int)).1,(gI bs (k:Int)).2.1)
   omega
 have et:(bs.take (k+1)).map B0=(bs.take k).map B0++[((gI bs (k:Int)).1,(gI bs (k:Int)).2.1)]:=by rw[aT hk,List.map_append];rfl
 refine⟨λq=>?_,λq=>?_,?_⟩
 · rw[et]
   simp only[List.count_append,List.count_singleton]
   by_cases e:q=((gI bs (k:Int)).1,(gI bs (k:Int)).2.1)
   · rw[if_pos e,h.f,e];simp
   · rw[if_neg e,h.f]
     have:((((gI bs (k:Int)).1,(gI bs (k:Int)).2.1):Int×Int)==q)=false:=by simpa using Ne.symm e
     rw[this];simp
 · by_cases e:q=((gI bs (k:Int)).1,(gI bs (k:Int)).2.1)
   · rw[if_pos e];exact Int.not_lt.1 h2
   · rw[if_neg e];exact h.one q
 · rw[h.t,eV hk,Ar,if_neg hm,et,List.reverse_append]
   rfl
theorem so.none(h:so bs k F)(hk:¬(k:Int)<bs.length):d6 bs=(0,0,false):=by
 unfold d6
 rw[h.t,List.drop_of_length_le (by omega),Ar]
theorem so.bd(h:so bs k F):∀q,0<=F q/\F q<=1:=λq=>⟨by rw[h.f];omega,h.one q⟩
theorem xd(h:ie=(bs.take k).map λb=>(eG (cC bs) b.1,eG (cC bs) b.2.1))(hk:(k:Int)<bs.length):ie++[(eG (cC bs) (gI bs (k:Int)).1,eG (cC bs) (gI bs (k:Int)).2.1)]=(bs.take (k+1)).map λb=>(eG (cC bs) b.1,eG (cC bs) b.2.1):=by
 rw[h,aT hk,List.map_append];rfl
theorem y7(h:ie=(bs.take k).map λb=>(eG (cC bs) b.1,eG (cC bs) b.2.1))(hk:¬(k:Int)<bs.length):(((cC bs).length:Int),ie)=bc bs:=by
 rw[h,List.take_of_length_le (by omega)];rfl
end
end TL
set_option linter.all false
namespace TL
open Go
structure Pp where
  n:Nat
instance:Inhabited Pp:=⟨⟨0⟩⟩
instance:DecidableEq Pp:=λa b=>if h:a.n=b.n then isTrue (by cases a;cases b;simp_all) else isFalse λe=>h (by rw[e])
instance:Rp Pp where
 sz:=1
 rep _ _ _ cs x:=cs=[.pointer (some ⟨x.n,0,none⟩)]
 len h:=by subst h;rfl
 one h:=by subst h;simp[Value.oneCell']
 tr _ _ h:=h
instance:Fl Pp where
 cells x:=[.pointer (some ⟨x.n,0,none⟩)]
 rep_iff:=Iff.rfl
abbrev bY(α:Type):=Int×List α
def d8{α:Type}[Rp α](γ:aw)(k h:Nat)(w:World)(us:List Pp)(xs:List (bY α)):Prop:=
  us.length=xs.length/\∀(j:Nat) (u:Pp) (x:bY α),j≠h->us[j]? =some u->xs[j]? =some x->∃bv,Bx γ (row k (2*j+1)) w u.n [.int .i64 x.1,bv]/\Ow γ (row k (2*j+2)) (row k (2*j+2)) w bv x.2
def eW{α:Type}[Rp α](γ:aw)(k:Nat)(w:World)(us:List Pp)(xs:List (bY α)):Prop:=
 us.length=xs.length/\∀(j:Nat) (u:Pp) (x:bY α),us[j]? =some u->xs[j]? =some x->∃bv,Bx γ (row k (2*j+1)) w u.n [.int .i64 x.1,bv]/\Ow γ (row k (2*j+2)) (row k (2*j+2)) w bv x.2
theorem iR{γ:aw}{J:cx->Prop}{w:World}{b:Nat}{cs:List Value}(h:Bx γ J w b cs):Bx c0 (is 0) w b cs:=⟨rfl,h.2⟩
section
variable{α:Type}[Rp α]{γ γ':aw}{k h j a c:Nat}{w w':World}{us:List Pp}{xs:List (bY α)}{u:Pp}{x:bY α}{b:Nat}{bv:Value}{bs:List α}{i:Int}
theorem eW.nil:eW (α:=α) γ k w [] []:=⟨rfl,λj u x h=>by simp at h⟩
theorem eW.len(hp:eW γ k w us xs):us.length=xs.length:=hp.1
theorem eW.chg{K:cx->Prop}(hp:eW γ k w us xs)(hc:aU K γ w γ' w')(hK:∀c,is k c->¬K c):eW γ' k w' us xs:=by
 refine⟨hp.1,λj u x hu hx=>?_⟩
 obtain⟨bv,h1,h2⟩:=hp.2 j u x hu hx
 have hr:∀r c,row k r c->¬K c:=λr c h=>hK c (dP c h)
 exact⟨bv,h1.chg hc (hr _),h2.chg hc (hr _) (hr _)⟩
theorem d8.chg{K:cx->Prop}(hp:d8 γ k h w us xs)(hc:aU K γ w γ' w')(hK:∀c,is k c->¬K c):d8 γ' k h w' us xs:=by
 refine⟨hp.1,λj u x hj hu hx=>?_⟩
 obtain⟨bv,h1,h2⟩:=hp.2 j u x hj hu hx
 have hr:∀r c,row k r c->¬K c:=λr c h=>hK c (dP c h)
 exact⟨bv,h1.chg hc (hr _),h2.chg hc (hr _) (hr _)⟩
theorem eW.inj(hp:eW γ k w us xs){i j:Nat}(hi:us[i]? =some u)(hj:us[j]? =some u):i=j:=by
  have li:=(List.getElem?_eq_some_iff.1 hi).1
  have lj:=(List.getElem?_eq_some_iff.1 hj).1
  have hl:=hp.1
  obtain⟨_,h1,_⟩:=hp.2 i u _ hi (List.getElem?_eq_getElem (by omega:i<xs.length))
  obtain⟨_,h2,_⟩:=hp.2 j u _ hj (List.getElem?_eq_getElem (by omega:j<xs.length))
  have e1:γ u.n=(k,2*i+1):=h1.1
  have e2:γ u.n=(k,2*j+1):=h2.1
  rw[e1] at e2
  simp at e2
  omega
def jC(γ:aw)(k r1 r2 a c:Nat):aw:=λb=>if γ b=(k,r1) then(a,0) else if γ b=(k,r2) then(c,0) else γ b
theorem jx{r r1 r2:Nat}(h1:r≠r1)(h2:r≠r2)(hb:row k r (γ b)):row k r (jC γ k r1 r2 a c b):=by
 have hb:γ b=(k,r):=hb
 unfold jC row
 rw[hb,if_neg (by simp;omega),if_neg (by simp;omega)]
theorem ra(γ:aw)(w:World)(k r1 r2 a c:Nat):aU (is k) γ w (jC γ k r1 r2 a c) w:=
 ⟨rfl,rfl,rfl,Nat.le_refl _,λb _ hn=>by
   unfold jC
   rw[if_neg (λe=>hn (by rw[e];rfl)),if_neg (λe=>hn (by rw[e];rfl))],λ_ _ _=>rfl,Nat.le_refl _⟩
theorem eW.open_(a c:Nat)(hp:eW γ k w us xs)(hu:us[j]? =some u)(hx:xs[j]? =some x):∃γ' bv,aU (is k) γ w γ' w/\d8 γ' k j w us xs/\Bx γ' (is a) w u.n [.int .i64 x.1,bv]/\Ow γ' (is c) (is c) w bv x.2:=by
  obtain⟨bv,h1,h2⟩:=hp.2 j u x hu hx
  refine⟨jC γ k (2*j+1) (2*j+2) a c,bv,ra _ _ _ _ _ _ _,⟨hp.1,λi u' x' hi hu' hx'=>?_⟩,⟨?_,h1.2⟩,h2.recol ?_ ?_⟩
  · obtain⟨bv',k1,k2⟩:=hp.2 i u' x' hu' hx'
    exact⟨bv',⟨jx (by omega) (by omega) k1.1,k1.2⟩,k2.recol (λb hb=>jx (by omega) (by omega) hb) (λb hb=>jx (by omega) (by omega) hb)⟩
  · have e:γ u.n=(k,2*j+1):=h1.1
    unfold jC is
    rw[if_pos e]
  all_goals
    intro b hb
    have e:γ b=(k,2*j+2):=hb
    unfold jC is
    rw[if_neg (by rw[e];simp),if_pos e]
def gL(γ:aw)(k r1 r2 a c:Nat):aw:=λb=>if(γ b).1=a then(k,r1) else if(γ b).1=c then(k,r2) else γ b
theorem fC{r r1 r2:Nat}(ha:Nat.beq k a=false)(hc:Nat.beq k c=false)(hb:row k r (γ b)):row k r (gL γ k r1 r2 a c b):=by
 have hb:γ b=(k,r):=hb
 have h1:=jD ha
 have h2:=jD hc
 unfold gL row
 rw[hb,if_neg (by simpa using h1),if_neg (by simpa using h2)]
theorem mL(γ:aw)(w:World)(k r1 r2 a c:Nat):aU (Bg a c) γ w (gL γ k r1 r2 a c) w:=
 ⟨rfl,rfl,rfl,Nat.le_refl _,λb _ hn=>by
   unfold gL
   rw[if_neg (λe=>hn (.inl e)),if_neg (λe=>hn (.inr e))],λ_ _ _=>rfl,Nat.le_refl _⟩
theorem mB{r1 r2:Nat}(hb:is a (γ b)):row k r1 (gL γ k r1 r2 a c b):=by
 have hb:(γ b).1=a:=hb
 unfold gL row
 rw[if_pos hb]
theorem ic{r1 r2:Nat}(hac:Nat.beq c a=false)(hb:is c (γ b)):row k r2 (gL γ k r1 r2 a c b):=by
 have hb:(γ b).1=c:=hb
 have h:=jD hac
 unfold gL row
 rw[if_neg (by rw[hb];exact h),if_pos hb]
theorem d8.close(hp:d8 γ k j w us xs)(ha:Nat.beq k a=false)(hc:Nat.beq k c=false)(hac:Nat.beq c a=false)(hu:us[j]? =some u)(hb:Bx γ (is a) w u.n [.int .i64 i,bv])(ho:Ow γ (is c) (is c) w bv bs):∃γ',aU (Bg a c) γ w γ' w/\eW γ' k w us (xs.set j (i,bs)):=by
  refine⟨gL γ k (2*j+1) (2*j+2) a c,mL _ _ _ _ _ _ _,by rw[List.length_set];exact hp.1,λq u' x' hu' hx'=>?_⟩
  by_cases e:q=j
  · subst e
    have hl:=(List.getElem?_eq_some_iff.1 hu).1
    have hl2:=hp.1
    rw[List.getElem?_set_self (by omega)] at hx'
    obtain rfl:=Option.some.inj hx'
    rw[hu] at hu'
    obtain rfl:=Option.some.inj hu'
    exact⟨bv,⟨mB hb.1,hb.2⟩,ho.recol (λb hb=>ic hac hb) (λb hb=>ic hac hb)⟩
  · rw[List.getElem?_set_ne (Ne.symm e)] at hx'
    obtain⟨bv',k1,k2⟩:=hp.2 q u' x' e hu' hx'
    exact⟨bv',⟨fC ha hc k1.1,k1.2⟩,k2.recol (λb hb=>fC ha hc hb) (λb hb=>fC ha hc hb)⟩
theorem eW.add(hp:eW γ k w us xs)(ha:Nat.beq k a=false)(hc:Nat.beq k c=false)(hac:Nat.beq c a=false)(hb:Bx γ (is a) w b [.int .i64 i,bv])(ho:Ow γ (is c) (is c) w bv bs):∃γ',aU (Bg a c) γ w γ' w/\eW γ' k w (us++[⟨b⟩]) (xs++[(i,bs)]):=by
  refine⟨gL γ k (2*us.length+1) (2*us.length+2) a c,mL _ _ _ _ _ _ _,by simp[hp.1],λq u' x' hu' hx'=>?_⟩
  by_cases e:q<us.length
  · have hl:=hp.1
    rw[List.getElem?_append_left e] at hu'
    rw[List.getElem?_append_left (by omega)] at hx'
    obtain⟨bv',k1,k2⟩:=hp.2 q u' x' hu' hx'
    exact⟨bv',⟨fC ha hc k1.1,k1.2⟩,k2.recol (λb hb=>fC ha hc hb) (λb hb=>fC ha hc hb)⟩
  · have hl:=hp.1
    have hq:=(List.getElem?_eq_some_iff.1 hu').1
    simp only[List.length_append,List.length_singleton] at hq
    have e0:q=us.length:=by omega
    subst e0
    rw[List.getElem?_append_right (Nat.le_refl _),Nat.sub_self] at hu'
    rw[hl,List.getElem?_append_right (Nat.le_refl _),Nat.sub_self] at hx'
    obtain rfl:(⟨b⟩:Pp)=u':=by simpa using hu'
    obtain rfl:(i,bs)=x':=by simpa using hx'
    exact⟨bv,⟨mB hb.1,hb.2⟩,ho.recol (λb hb=>ic hac hb) (λb hb=>ic hac hb)⟩
theorem rK(hp:us.length=xs.length)(hu:us[j]? =some u):xs[j]? =some (gI xs (j:Int)):=by
 have:=(List.getElem?_eq_some_iff.1 hu).1
 have h:=ib (xs:=xs) (i:=(j:Int)) (by omega) (by omega)
 simpa using h
theorem eW.opn(a c:Nat)(hp:eW γ k w us xs)(hu:us[j]? =some u):∃γ' bv,aU (is k) γ w γ' w/\d8 γ' k j w us xs/\Bx γ' (is a) w u.n [.int .i64 (gI xs (j:Int)).1,bv]/\Ow γ' (is c) (is c) w bv (gI xs (j:Int)).2:=hp.open_ a c hu (rK hp.1 hu)
end
end TL
namespace TL
open Go
theorem eW.nd{α:Type}[Rp α]{γ:aw}{k:Nat}{w:World}{us:List Pp}{xs:List (bY α)}(hp:eW γ k w us xs):us.Nodup:=by
 rw[List.Nodup,List.pairwise_iff_getElem]
 intro i j hi hj hij e
 have h1:us[i]? =some us[i]:=List.getElem?_eq_getElem hi
 have h2:us[j]? =some us[i]:=by rw[e];exact List.getElem?_eq_getElem hj
 have:=hp.inj h1 h2
 omega
end TL
namespace TL
open Go
def A2{α:Type}[Rp α](w:World)(us:List Pp)(xs:List (bY α)):Prop:=
  us.length=xs.length/\∀(j:Nat) (u:Pp) (x:bY α),us[j]? =some u->xs[j]? =some x->∃bv,Bx c0 (is 0) w u.n [.int .i64 x.1,bv]/\Ro w bv x.2
def fV{α:Type}[Rp α](γ:aw)(w:World)(us:List Pp)(xs:List (bY α)):Prop:=
  us.length=xs.length/\∀(j:Nat) (u:Pp) (x:bY α),us[j]? =some u->xs[j]? =some x->∃bv,Bx γ (is 0) w u.n [.int .i64 x.1,bv]/\Sl γ (is 0) w bv x.2
section
variable{α:Type}[Rp α]{γ γ' δ:aw}{k i j B:Nat}{w w':World}{us:List Pp}{xs:List (bY α)}{u:Pp}
theorem eW.ro[Fl α](hp:eW γ k w us xs):A2 w us xs:=by
 refine⟨hp.1,λj u x hu hx=>?_⟩
 obtain⟨bv,h1,h2⟩:=hp.2 j u x hu hx
 exact⟨bv,⟨rfl,h1.2⟩,h2.flat.ro⟩
theorem fV.ro(hp:fV γ w us xs):A2 w us xs:=by
 refine⟨hp.1,λj u x hu hx=>?_⟩
 obtain⟨bv,h1,h2⟩:=hp.2 j u x hu hx
 exact⟨bv,⟨rfl,h1.2⟩,h2.ro⟩
theorem A2.start(hp:A2 w us xs):fV c0 w us xs:=by
 refine⟨hp.1,λj u x hu hx=>?_⟩
 obtain⟨bv,h1,h2⟩:=hp.2 j u x hu hx
 exact⟨bv,h1,h2.sl⟩
theorem fV.chg{K:cx->Prop}(hp:fV γ w us xs)(hc:aU K γ w γ' w')(hK:∀c,is 0 c->¬K c):fV γ' w' us xs:=by
 refine⟨hp.1,λj u x hu hx=>?_⟩
 obtain⟨bv,h1,h2⟩:=hp.2 j u x hu hx
 exact⟨bv,h1.chg hc hK,h2.chg hc hK⟩
theorem fV.gt(hp:fV γ w us xs)(hu:us[j]? =some u):∃bv,Bx γ (is 0) w u.n [.int .i64 (gI xs (j:Int)).1,bv]/\Sl γ (is 0) w bv (gI xs (j:Int)).2:=hp.2 j u _ hu (rK hp.1 hu)
theorem eW.glue{ren:Nat->Nat}(hp:eW δ i w us xs)(hδ:∀b,b<B->(δ b).1=0)(hi:Nat.beq i 0=false)(hr:ren i=k):eW (TL.glue B γ δ ren) k w us xs:=by
 refine⟨hp.1,λj u x hu hx=>?_⟩
 obtain⟨bv,h1,h2⟩:=hp.2 j u x hu hx
 exact⟨bv,⟨fc hδ hi hr _ h1.1,h1.2⟩,h2.recol (fc hδ hi hr) (fc hδ hi hr)⟩
end
end TL
