/- Plain texts of this claim, part 4. By an AI agent. -/
import Derived.Test.YtgneelmmomohdaaSaTlP3
import Derived.Maps.RangeRun
import Derived.Shelf.SlSortCmp.WholeK
/-
  TlSep: nodes joined by edges over some nodes; components, cut nodes.
  By an AI agent.
-/
set_option linter.all false
namespace TL
inductive Js (E:List (Int×Int)) (A:Int->Prop):Int->Int->Prop
  |refl {x:Int}:A x->Js E A x x
  |fw {x:Int} {e:Int×Int}:Js E A x e.1->e∈E->A e.2->Js E A x e.2
  |bw {x:Int} {e:Int×Int}:Js E A x e.2->e∈E->A e.1->Js E A x e.1
section
variable{E E':List (Int×Int)}{A B:Int->Prop}{x y z v u n:Int}{g:bz}{gone:List Bool}
theorem Js.right(h:Js E A x y):A y:=by cases h<;>assumption
theorem Js.left(h:Js E A x y):A x:=by
 induction h with
 |refl a=>exact a
 |fw _ _ _ ih=>exact ih
 |bw _ _ _ ih=>exact ih
theorem Js.trans(h:Js E A x y)(k:Js E A y z):Js E A x z:=by
 induction k with
 |refl _=>exact h
 |fw _ he a ih=>exact .fw ih he a
 |bw _ he a ih=>exact .bw ih he a
theorem Js.symm(h:Js E A x y):Js E A y x:=by
 induction h with
 |refl a=>exact .refl a
 |fw k he a ih=>exact(Js.bw (.refl a) he k.right).trans ih
 |bw k he a ih=>exact(Js.fw (.refl a) he k.right).trans ih
theorem Js.edge{e:Int×Int}(he:e∈E)(a:A e.1)(b:A e.2):Js E A e.1 e.2:=.fw (.refl a) he b
theorem Js.map(h:Js E A x y)(hx:A x->B x)(he:∀e∈E,A e.1->A e.2->Js E' B e.1 e.2):Js E' B x y:=by
  induction h with
  |refl a=>exact .refl (hx a)
  |fw k he' a ih=>exact ih.trans (he _ he' k.right a)
  |bw k he' a ih=>exact ih.trans (he _ he' a k.right).symm
theorem Js.mono(h:Js E A x y)(hx:B x)(hE:∀e∈E,e∈E')(hAB:∀e∈E,(A e.1->B e.1)/\(A e.2->B e.2)):Js E' B x y:=
 h.map (λ_=>hx) λe he a b=>.edge (hE e he) ((hAB e he).1 a) ((hAB e he).2 b)
def Cj(E:List (Int×Int))(n:Int)(A:Int->Prop):Prop:=∀x y,0<=x->x<n->0<=y->y<n->A x->A y->Js E A x y
theorem Cj.iff(hE:∀e∈E,qw n e)(hAB:∀z,0<=z->z<n->(A z↔B z)):Cj E n A↔Cj E n B:=by
 have key:∀{A B:Int->Prop},(∀z,0<=z->z<n->(A z↔B z))->Cj E n A->Cj E n B:=λhAB h x y x0 x1 y0 y1 a b=>
   (h x y x0 x1 y0 y1 ((hAB x x0 x1).2 a) ((hAB y y0 y1).2 b)).mono a (λ_ q=>q) λe he=>⟨(hAB _ (hE e he).1.1 (hE e he).1.2).1,(hAB _ (hE e he).2.1 (hE e he).2.2).1⟩
 exact⟨key hAB,key λz z0 z1=>(hAB z z0 z1).symm⟩
theorem uB(hm:aX g)(hx:fI g x)(ax:¬gI gone x=true):Cn (d6 g gone []) x y↔Js g.2 (λz=>¬gI gone z=true) x y:=by
  constructor
  · intro h
    have:=h (λa b=>a=b\/Js g.2 (λz=>¬gI gone z=true) a b) ⟨λ_ _=>.inl rfl,λa b _ _ h=>h.elim (λe=>.inl e.symm) (λq=>.inr q.symm),λa b c _ _ _ h k=>by
      rcases h with rfl|h
      · exact k
      · rcases k with rfl|k
        · exact .inr h
        · exact .inr (h.trans k)⟩ λe he=>by
      obtain⟨i,hi,rfl⟩:=List.mem_map.1 he
      obtain⟨⟨i0,i1⟩,a,b,_⟩:=ii.1 hi
      exact .inr (.edge (br i0 i1) a b)
    rcases this with rfl|h
    · exact .refl ax
    · exact h
  · intro h
    have hq:=Cn.eqv (d6 g gone [])
    have hnd:∀z,fI (d6 g gone []) z↔fI g z:=λz=>Iff.rfl
    have hin:∀e∈g.2,¬gI gone e.1=true->¬gI gone e.2=true->e∈(d6 g gone []).2:=λe he a b=>by
      obtain⟨i,hi,rfl⟩:=List.mem_iff_getElem.1 he
      have e1:gI g.2 (i:Int)=g.2[i]:=by simp[gI,hi]
      exact List.mem_map.2 ⟨(i:Int),ii.2 ⟨⟨by omega,by omega⟩,by rw[e1];exact a,by rw[e1];exact b,by simp[gI]⟩,e1⟩
    have key:Cn (d6 g gone []) x y/\fI g y:=by
      induction h with
      |refl _=>exact⟨hq.rfl _ hx,hx⟩
      |fw k he a ih=>
        obtain⟨o1,o2⟩:=hm.2.2.2 _ he
        exact⟨hq.trans _ _ _ hx o1 o2 ih.1 (Cn.edge (hin _ he k.right a)),o2⟩
      |bw k he a ih=>
        obtain⟨o1,o2⟩:=hm.2.2.2 _ he
        exact⟨hq.trans _ _ _ hx o2 o1 ih.1 (hq.symm _ _ o1 o2 (Cn.edge (hin _ he a k.right))),o1⟩
    exact key.1
theorem yS:d6 g [] []=g:=by
 have e:mN g [] []=bp g.2.length:=by
   unfold mN
   rw[List.filter_eq_self]
   intro a _;simp[gI]
 unfold d6
 rw[e]
 refine Prod.ext rfl ?_
 refine List.ext_getElem (by simp[bp]) λi h1 h2=>?_
 simp[bp,gI,h2]
theorem sx:aU g [] []=cS g g.1.toNat:=by
 unfold aU bJ cS
 rw[yS]
 refine congrArg (λf=>(bp g.1.toNat).foldl f (List.replicate g.1.toNat (-1),0)) ?_
 funext p v
 unfold iz jD
 by_cases c:0<=gI p.1 v
 · rw[if_pos (.inl c),if_pos c]
 · rw[if_neg (by rintro(q|q);exact c q;simp[gI] at q),if_neg c]
theorem qF(hm:aX g):(bt g).1=(aU g [] []).1/\(bt g).2.1=(aU g [] []).2:=by
 unfold bt;rw[if_pos hm,sx];exact⟨rfl,rfl⟩
theorem n9(hm:aX g):(aU g gone []).2<=1↔Cj g.2 g.1 (λz=>¬gI gone z=true):=by
  obtain⟨l,hi⟩:=dJ (gone:=gone) (cut:=[]) hm
  have hq:=Cn.eqv (d6 g gone [])
  rw[hi.num]
  constructor
  · intro h x y x0 x1 y0 y1 ax ay
    have hx':=hi.all x.toNat (by omega) (by omega) (by rwa[Int.toNat_of_nonneg x0])
    have hy':=hi.all y.toNat (by omega) (by omega) (by rwa[Int.toNat_of_nonneg y0])
    rw[Int.toNat_of_nonneg x0] at hx'
    rw[Int.toNat_of_nonneg y0] at hy'
    obtain⟨a,ha,ca⟩:=hx'
    obtain⟨b,hb,cb⟩:=hy'
    have e:a=b:=by
      match l,h,ha,hb with
      |[c],_,ha,hb=>rw[List.mem_singleton.1 ha,List.mem_singleton.1 hb]
      |[],_,ha,_=>exact absurd ha List.not_mem_nil
      |c::d::l,h,_,_=>simp at h;omega
    subst e
    exact(uB hm ⟨x0,x1⟩ ax).1 (hq.trans _ _ _ ⟨x0,x1⟩ (hi.dom a ha).1 ⟨y0,y1⟩ ca (hq.symm _ _ ⟨y0,y1⟩ (hi.dom a ha).1 cb))
  · intro h
    match l,hi.nd,hi.dom,hi.one with
    |[],_,_,_=>simp
    |[c],_,_,_=>simp
    |c::d::l,hn,hd,ho=>
      exfalso
      obtain⟨⟨c0,c1⟩,c2⟩:=hd c (by simp)
      obtain⟨⟨d0,d1⟩,d2⟩:=hd d (by simp)
      have:=ho c (by simp) d (by simp) ((uB hm ⟨c0,c1⟩ c2).2 (h c d c0 c1 d0 d1 c2 d2))
      subst this
      simp at hn
theorem tZ(hm:aX g)(hx:fI g x)(ax:¬gI gone x=true):1<=(aU g gone []).2:=by
 obtain⟨l,hi⟩:=dJ (gone:=gone) (cut:=[]) hm
 rw[hi.num]
 have hx':=hi.all x.toNat (by have:=hx.1;have:=hx.2;omega) (by have:=hx.1;have:=hx.2;omega) (by rwa[Int.toNat_of_nonneg hx.1])
 obtain⟨a,ha,_⟩:=hx'
 have:=List.length_pos_of_mem ha
 omega
theorem yj(hm:aX g):(bt g).2.1<=1↔Cj g.2 g.1 (λ_=>True):=by
 rw[(qF hm).2,n9 hm]
 exact Cj.iff hm.2.2.2 λz _ _=>⟨λ_=>trivial,λ_ q=>by simp[gI] at q⟩
theorem qr(hm:aX g):Js (bU g).1.2 A x y↔Js g.2 A x y:=by
  have eb:=ga hm
  have hsub:∀e∈(bU g).1.2,e∈g.2:=λe he=>by
    rw[eb] at he
    obtain⟨i,hi,rfl⟩:=List.mem_map.1 he
    unfold fK at hi
    have:=ch.1 (List.mem_filter.1 hi).1
    exact br this.1 this.2
  constructor
  · exact λh=>h.mono h.left hsub λe _=>⟨id,id⟩
  · intro h
    have key:∀m:Nat,∀i:Nat,i<m->(i:Int)<(g.2.length:Int)->A (gI g.2 (i:Int)).1->A (gI g.2 (i:Int)).2->Js (bU g).1.2 A (gI g.2 (i:Int)).1 (gI g.2 (i:Int)).2:=by
      intro m
      induction m with
      |zero=>intro i hi;omega
      |succ m ih=>
        intro i hi hl a b
        by_cases hlp:(gI g.2 (i:Int)).1=(gI g.2 (i:Int)).2
        · rw[<-hlp];exact .refl a
        · by_cases hp:im g (i:Int)=true
          · refine .edge ?_ a b
            rw[eb]
            exact List.mem_map.2 ⟨(i:Int),List.mem_filter.2 ⟨ch.2 ⟨by omega,hl⟩,hp⟩,rfl⟩
          · rw[uQ hl] at hp
            have hmem:fZ (gI g.2 (i:Int))∈(g.2.map fZ).take i:=Classical.byContradiction λq=>hp ⟨hlp,q⟩
            obtain⟨j,hj,ej⟩:=List.mem_iff_getElem.1 hmem
            have hj':j<i/\j<g.2.length:=by simp at hj;omega
            have e1:((g.2.map fZ).take i)[j]=fZ (gI g.2 (j:Int)):=by simp[gI,hj'.2]
            rw[e1] at ej
            have hmm:min (gI g.2 (j:Int)).1 (gI g.2 (j:Int)).2=min (gI g.2 (i:Int)).1 (gI g.2 (i:Int)).2:=congrArg Prod.fst ej
            have hMM:max (gI g.2 (j:Int)).1 (gI g.2 (j:Int)).2=max (gI g.2 (i:Int)).1 (gI g.2 (i:Int)).2:=congrArg Prod.snd ej
            have hor:((gI g.2 (j:Int)).1=(gI g.2 (i:Int)).1/\(gI g.2 (j:Int)).2=(gI g.2 (i:Int)).2)\/((gI g.2 (j:Int)).1=(gI g.2 (i:Int)).2/\(gI g.2 (j:Int)).2=(gI g.2 (i:Int)).1):=by omega
            rcases hor with⟨q1,q2⟩|⟨q1,q2⟩
            · have:=ih j (by omega) (by omega) (by rw[q1];exact a) (by rw[q2];exact b)
              rw[q1,q2] at this;exact this
            · have:=ih j (by omega) (by omega) (by rw[q1];exact b) (by rw[q2];exact a)
              rw[q1,q2] at this;exact this.symm
    refine h.map id λe he a b=>?_
    obtain⟨i,hi,rfl⟩:=List.mem_iff_getElem.1 he
    have e1:gI g.2 (i:Int)=g.2[i]:=by simp[gI,hi]
    have:=key (i+1) i (by omega) (by omega) (by rw[e1];exact a) (by rw[e1];exact b)
    rw[e1] at this;exact this
theorem px(hm:aX g):Cj (bU g).1.2 (bU g).1.1 A↔Cj g.2 g.1 A:=by
 have e1:(bU g).1.1=g.1:=by rw[ga hm]
 unfold Cj
 rw[e1]
 exact⟨λh x y a b c d e f=>(qr hm).1 (h x y a b c d e f),λh x y a b c d e f=>(qr hm).2 (h x y a b c d e f)⟩
def c9(g:bz):List Int:=(da (bU g).1).1.2.1
theorem lu(hm:aX g)(hc:Cj g.2 g.1 (λ_=>True)):v∈c9 g↔fI g v/\¬Cj g.2 g.1 (λz=>z≠v):=by
 have hmb:=kj hm
 have e1:(bU g).1.1=g.1:=by rw[ga hm]
 have eb:(da (bU g).1).1.2.1=gJ (bU g).1:=by unfold da;rw[if_pos hmb]
 have hnl:∀h,hf (bU g).1 h->aA (bU g).1 h=v->bg (bU g).1 h≠v:=λh hh hfr hto=>by
   have h0:=hh.1
   have h1:=hh.2
   have:=(yc hm (h/2).toNat (by omega)).1
   rw[Int.toNat_of_nonneg (by omega)] at this
   rcases jg (g:=(bU g).1) h0 with⟨q1,q2⟩|⟨q1,q2⟩<;> · rw[q1] at hfr;rw[q2] at hto;exact this (by rw[hfr,hto])
 unfold c9
 rw[eb]
 unfold gJ
 rw[List.mem_filter,ch]
 show(_/\gI (hG (bU g).1) v=true)↔_
 constructor
 · rintro⟨⟨v0,v1⟩,hcut⟩
   have v1':v<(bU g).1.1:=by have:=hmb.1;omega
   obtain⟨h1,h2⟩:=(tV hmb v0 v1' hnl).1 hcut
   refine⟨⟨v0,by rw[<-e1];exact v1'⟩,λh=>?_⟩
   have h3:=(n9 (gone:=fH (bU g).1 v) hmb).2 ((Cj.iff hmb.2.2.2 λz z0 z1=>by rw[not_congr (jx hmb v0 v1' z0)]).2 ((px hm).2 h))
   have h4:=tZ (gone:=[]) hmb (x:=v) ⟨v0,v1'⟩ (by simp[gI])
   omega
 · rintro⟨⟨v0,v1⟩,hno⟩
   have v1':v<(bU g).1.1:=by rw[e1];exact v1
   refine⟨⟨v0,by omega⟩,(tV hmb v0 v1' hnl).2 ⟨?_,?_⟩⟩
   · refine Classical.byContradiction λhz=>hno λx y x0 x1 y0 y1 hx hy=>?_
     exfalso
     have hj:=(qr hm).2 (hc x v x0 x1 v0 v1 trivial trivial)
     have hout:∀e∈(bU g).1.2,e.1=v\/e.2=v->False:=λe he hv=>by
       obtain⟨i,hi,rfl⟩:=List.mem_iff_getElem.1 he
       have e2:gI (bU g).1.2 (i:Int)=(bU g).1.2[i]:=by simp[gI,hi]
       obtain⟨o1,o2,_⟩:=xH (g:=(bU g).1) (i:=i) (by omega)
       rw[e2] at o1 o2
       rcases hv with q|q
       · rw[q] at o1;exact hz (List.length_pos_of_mem o1)
       · rw[q] at o2;exact hz (List.length_pos_of_mem o2)
     generalize hvv:v=w at hj
     cases hj with
     |refl _=>exact hx hvv.symm
     |fw _ he _=>exact hout _ he (.inr hvv.symm)
     |bw _ he _=>exact hout _ he (.inl hvv.symm)
   · have h3:=(n9 (gone:=[]) hmb).2 ((Cj.iff hmb.2.2.2 λz z0 z1=>⟨λ_=>trivial,λ_ q=>by simp[gI] at q⟩).2 ((px hm).2 hc))
     refine Classical.byContradiction λhz=>hno ?_
     have h4:(aU (bU g).1 (fH (bU g).1 v) []).2<=1:=by omega
     exact(px hm).1 ((Cj.iff hmb.2.2.2 λz z0 z1=>by rw[not_congr (jx hmb v0 v1' z0)]).1 ((n9 hmb).1 h4))
end
end TL
/-
  TlRange: a map of the call's own that is gone through, in whatever order is drawn.
  By an AI agent.
-/
set_option linter.all false
namespace TL
open Go Go.ChangeMaps
def j7{K:Type}[DecidableEq K](D:List K)(k:K):List K:=if k∈D then D else D++[k]
def sc{K:Type}(b:Bool)(S:List K)(k:K):List K:=bif b then S++[k] else S
theorem ni{K:Type}{b:Bool}{S:List K}{k:K}(h:b=true):sc b S k=S++[k]:=by subst h;rfl
def Mi{K:Type}[DecidableEq K][Ky K](γ:aG)(J:cH->Prop)(w:World)(v u:Value)(F:K->Int)(D S:List K):Prop:=
  ∃(r ri:Nat) (es:List (db K)) (clock since:Nat) (L:List (db K)),v= .map (some r)/\u= .pointer (some ⟨ri,0,none⟩)/\r≠ri/\J (γ r)/\J (γ ri)/\w.heap[r]? =some (.map (es.map cP).toArray clock)/\BH es clock/\F=eI es/\D=es.map (·.key)/\
    w.heap[ri]? =some (.mapIter (some r) since (L.map (·.born)).toArray clock)/\(∀e∈es,e.born<since)/\since<=clock/\(∀e∈L,e∈es)/\L.map (·.key)=S/\S.Nodup
section
variable{K:Type}[DecidableEq K][Ky K]
theorem Mi.chg{γ γ':aG}{J J':cH->Prop}{w w':World}{v u:Value}{F:K->Int}{D S:List K}(h:Mi γ J w v u F D S)(hc:bD J' γ w γ' w')(hJ:∀c,J c->¬J' c):Mi γ' J w' v u F D S:=by
 obtain⟨r,ri,es,clock,since,L,h1,h2,hne,h3,h4,h5,h6,h7,h8,h9,h10⟩:=h
 exact⟨r,ri,es,clock,since,L,h1,h2,hne,by rw[hc.col r (cG h5) (hJ _ h3)];exact h3,by rw[hc.col ri (cG h9) (hJ _ h4)];exact h4,by rw[hc.keep r (cG h5) (hJ _ h3)];exact h5,h6,h7,h8,by rw[hc.keep ri (cG h9) (hJ _ h4)];exact h9,h10⟩
theorem Mi.ca{γ γ':aG}{j:Nat}{L:List Nat}{w w':World}{v u:Value}{F:K->Int}{D S:List K}(h:Mi γ (is j) w v u F D S)(hc:bD (inl L) γ w γ' w')(hj:L.contains j=false:=by exact rfl):Mi γ' (is j) w' v u F D S:=h.chg hc (cN hj)
theorem Mi.ce{γ γ':aG}{j k:Nat}{w w':World}{v u:Value}{F:K->Int}{D S:List K}(h:Mi γ (is j) w v u F D S)(hc:bD (is k) γ w γ' w')(hj:Nat.beq j k=false:=by exact rfl):Mi γ' (is j) w' v u F D S:=h.chg hc (eZ hj)
theorem Mi.cn{γ γ':aG}{J:cH->Prop}{w w':World}{v u:Value}{F:K->Int}{D S:List K}(h:Mi γ J w v u F D S)(hc:bD no γ w γ' w'):Mi γ' J w' v u F D S:=h.chg hc (dp _)
theorem Mi.bel{γ:aG}{J:cH->Prop}{w w':World}{v u:Value}{F:K->Int}{D S:List K}(h:Mi γ J w v u F D S)(hc:ep w.heap.size w w'):Mi γ J w' v u F D S:=by
 obtain⟨r,ri,es,clock,since,L,h1,h2,hne,h3,h4,h5,h6,h7,h8,h9,h10⟩:=h
 exact⟨r,ri,es,clock,since,L,h1,h2,hne,h3,h4,by rw[hc.block r (cG h5)];exact h5,h6,h7,h8,by rw[hc.block ri (cG h9)];exact h9,h10⟩
theorem Mi.cnt{γ:aG}{J:cH->Prop}{w:World}{v u:Value}{F:K->Int}{D S:List K}(h:Mi γ J w v u F D S):S.Nodup/\D.Nodup/\∀k∈S,k∈D:=by
 obtain⟨r,ri,es,clock,since,L,h1,h2,hne,h3,h4,h5,h6,h7,h8,h9,h10,h11,h12,h13,h14⟩:=h
 refine⟨h14,by rw[h8];exact h6.keys,λk hk=>?_⟩
 rw[<-h13] at hk
 obtain⟨e,he,rfl⟩:=List.mem_map.1 hk
 rw[h8]
 exact List.mem_map.2 ⟨e,h12 e he,rfl⟩
variable{P:Program}{f:Fr}{w:World}{dst:Option Tmp}{ty:TypeId}{pos:String}{after:Array Edge}{g:Option (Nat×Bool)}{t:TypeId}{x y z:Operand}{N:Value->World->Prop}
theorem mP:∀(D A:List K),D.Nodup->(∀p∈D,p∈A)->D.length<=A.length
 |[],A,_,_=>Nat.zero_le _
 |a::D,A,hn,hs=>by
   have hn':=List.nodup_cons.1 hn
   have ha:=hs a (List.mem_cons_self ..)
   have h3:=mP D (A.erase a) hn'.2 (λx hx=>by
     have hne:x≠a:=λe=>hn'.1 (by rw[<-e];exact hx)
     exact(List.mem_erase_of_ne hne).2 (hs x (List.mem_cons_of_mem _ hx)))
   have h4:=List.length_erase_of_mem ha
   have h5:=List.length_pos_of_mem ha
   rw[List.length_cons];omega
theorem uk{γ:aG}{J:cH->Prop}{v:Value}{F:K->Int}{D:List K}{kt et:Nat}(c:cH)(hJ:J c)(ht:P.underlying t=some (.map kt et))(hx:ev f x=v)(hm:Md γ J w v F D)
   (hk:∀γ' w' u,bD no γ w γ' w'->Mi γ' J w' v u F D []->N u w'):fS P ⟨dst,.range t x,ty,pos,after,g⟩ f w N:=by
 obtain⟨r,es,clock,rfl,hJ0,hb,hok,rfl,rfl⟩:=hm
 have hlt:=cG hb
 have hc:=fQ γ w (.mapIter (some r) clock #[] clock) c
 refine aL (v:=.pointer (some ⟨w.heap.size,0,none⟩)) (w':=w.alloc (.mapIter (some r) clock #[] clock)) ?_ (hk (iw γ w.heap.size c) _ _ hc ⟨r,w.heap.size,es,clock,clock,[],rfl,rfl,by omega,by rw[hc.col r hlt (λq=>q)];exact hJ0,by simpa[iw] using hJ,by rw[hc.keep r hlt (λq=>q)];exact hb,hok,rfl,rfl,dB ..,hok.lt,Nat.le_refl _,by simp,rfl,List.nodup_nil⟩)
 have:=run_range_map (P:=P) w t kt et r (es.map cP).toArray clock ht hb
 simp only[execOp,hx]
 simp[this]
theorem wA{es:List (db K)}{clock:Nat}(hok:BH es clock){a b:db K}(ha:a∈es)(hb:b∈es)(e:a.born=b.born):a=b:=by
 obtain⟨i,hi,rfl⟩:=List.mem_iff_getElem.1 ha
 obtain⟨j,hj,rfl⟩:=List.mem_iff_getElem.1 hb
 have h:=hok.born
 have:i=j:=(List.getElem_inj (h₀:=by simpa using hi) (h₁:=by simpa using hj) h).1 (by simpa using e)
 subst this;rfl
theorem uq{es:List (db K)}{clock:Nat}(hok:BH es clock){a b:db K}(ha:a∈es)(hb:b∈es)(e:a.key=b.key):a=b:=by
 obtain⟨i,hi,rfl⟩:=List.mem_iff_getElem.1 ha
 obtain⟨j,hj,rfl⟩:=List.mem_iff_getElem.1 hb
 have h:=hok.keys
 have:i=j:=(List.getElem_inj (h₀:=by simpa using hi) (h₁:=by simpa using hj) h).1 (by simpa using e)
 subst this;rfl
theorem zc{γ:aG}{J:cH->Prop}{v u:Value}{F:K->Int}{D S:List K}[Inhabited K](hx:ev f x=u)(hm:Mi γ J w v u F D S)
   (hk:∀w' nv nb k,bD J γ w γ w'->(∃a,nv= .tuple a/\a[0]? =some (.bool nb))->(nb=true->k∈D/\k∉S/\S.length+1<=D.length)->(nb=false->∀q∈D,q∈S)->Mi γ J w' v u F D (sc nb S k)->N nv w'):fS P ⟨dst,.next x false,ty,pos,after,g⟩ f w N:=by
 have hcnt:=hm.cnt
 obtain⟨r,ri,es,clock,since,L,rfl,rfl,hne,h3,h4,h5,h6,rfl,rfl,h9,h10,h11,h12,rfl,h14⟩:=hm
 have hmem:∀a:MapEntry,a∈(es.map cP).toArray.toList->∃e∈es,cP e=a:=λa ha=>by simpa using ha
 rcases run_next_at (P:=P) w ty ri r since clock (L.map (·.born)).toArray (es.map cP).toArray clock h9 h5 (λa ha=>by obtain⟨e,he,rfl⟩:=hmem a ha;exact h10 e he) h11 with⟨h0,hrun⟩|⟨a,ha,w1,hal,hrun⟩
 · refine aL (v:=.tuple #[.bool false]) (w':=w) (by simp only[execOp,hx];simp[hrun]) (hk _ _ false default (bD.refl _ _ _) ⟨_,rfl,rfl⟩ (λq=>by cases q) (λ_ q hq=>?_) ⟨r,ri,es,clock,since,L,rfl,rfl,hne,h3,h4,h5,h6,rfl,rfl,h9,h10,h11,h12,rfl,h14⟩)
   obtain⟨e,he,rfl⟩:=List.mem_map.1 hq
   have hall:¬(!(L.map (·.born)).toArray.contains e.born)=true:=λhh=>by
     have:cP e∈(leftOf (es.map cP).toArray (L.map (·.born)).toArray).toList:=by
       unfold leftOf
       simp only[Array.toList_filter,List.mem_filter]
       exact⟨by simpa using⟨e,he,rfl⟩,hh⟩
     have h2:=List.length_pos_of_mem this
     simp only[Array.length_toList] at h2
     omega
   have hin:e.born∈L.map (·.born):=by simpa using hall
   obtain⟨e',he',hb⟩:=List.mem_map.1 hin
   rw[<-wA h6 (h12 e' he') he hb]
   exact List.mem_map.2 ⟨e',he',rfl⟩
 · unfold leftOf at ha
   simp only[Array.toList_filter,List.mem_filter] at ha
   obtain⟨e,he,rfl⟩:=hmem a ha.1
   have hnb:e.born∉L.map (·.born):=by simpa[cP] using ha.2
   have hns:e.key∉L.map (·.key):=λhh=>by
     obtain⟨e',he',hk'⟩:=List.mem_map.1 hh
     rw[uq h6 (h12 e' he') he hk'] at he'
     exact hnb (List.mem_map.2 ⟨e,he',rfl⟩)
   have hlri:=cG h9
   have hch:bD J γ w γ (setBlock w1 ri (.mapIter (some r) since ((L.map (·.born)).toArray.push (cP e).born) clock)):=by
     rcases hal with rfl|rfl
     · refine⟨rfl,rfl,rfl,by simp[setBlock],λ_ _ _=>rfl,λk _ hk=>?_,Nat.le_refl _⟩
       have:ri≠k:=λh=>hk (h▸h4)
       simp[setBlock,Array.getElem?_setIfInBounds_ne this]
     · refine⟨rfl,rfl,rfl,by simp[setBlock,World.drew_eq],λ_ _ _=>rfl,λk _ hk=>?_,Nat.le_succ _⟩
       have:ri≠k:=λh=>hk (h▸h4)
       show(w.heap.setIfInBounds ri _)[k]? =_
       rw[Array.getElem?_setIfInBounds_ne this]
   have hh1:w1.heap=w.heap:=by rcases hal with rfl|rfl<;>rfl
   have hnd:(L.map (·.key)++[e.key]).Nodup:=by
     rw[List.nodup_append]
     exact⟨h14,by simp,λa ha b hb=>by obtain rfl:=List.mem_singleton.1 hb;exact λq=>hns (q▸ha)⟩
   refine aL (v:=.tuple #[.bool true,(cP e).key,(cP e).val]) (w':=setBlock w1 ri (.mapIter (some r) since ((L.map (·.born)).toArray.push (cP e).born) clock)) (by simp only[execOp,hx];simp[hrun]) (hk _ _ true e.key hch ⟨_,rfl,rfl⟩ (λ_=>⟨List.mem_map.2 ⟨e,he,rfl⟩,hns,?_⟩) (λq=>by cases q) ⟨r,ri,es,clock,since,L++[e],rfl,rfl,hne,h3,h4,?_,h6,rfl,rfl,?_,h10,h11,λq hq=>?_,by rw[List.map_append];rfl,hnd⟩)
   · have hsub:∀q∈L.map (·.key)++[e.key],q∈es.map (·.key):=λq hq=>by
       rcases List.mem_append.1 hq with hq|hq
       · exact hcnt.2.2 q hq
       · rw[List.mem_singleton.1 hq];exact List.mem_map.2 ⟨e,he,rfl⟩
     have:=mP _ _ hnd hsub
     simpa using this
   · show(w1.heap.setIfInBounds ri _)[r]? =_
     rw[Array.getElem?_setIfInBounds_ne (λq=>hne q.symm),hh1];exact h5
   · show(w1.heap.setIfInBounds ri _)[ri]? =_
     rw[hh1]
     simp[hlri,cP]
   · rcases List.mem_append.1 hq with hq|hq
     · exact h12 q hq
     · rw[List.mem_singleton.1 hq];exact he
theorem tD{nv:Value}{nb:Bool}(hx:ev f x=nv)(h:∃a,nv= .tuple a/\a[0]? =some (.bool nb)):(execOp (ev f) ⟨dst,.extract x 0,ty,pos,after,g⟩).run P w= .ok (.value (.bool nb)) w:=by
 obtain⟨a,rfl,h0⟩:=h
 simp[execOp,hx,Instr.extract,h0]
theorem uN{γ:aG}{J:cH->Prop}{v u:Value}{F:K->Int}{D S:List K}{nb:Bool}{k:K}(hx:ev f x=u)(hm:Mi γ J w v u F D (sc nb S k))(hb:nb=true):(execOp (ev f) ⟨dst,.entry x,ty,pos,after,g⟩).run P w= .ok (.value (.tuple (List.toArray [Ky.val k,.int .i64 (F k)]))) w:=by
 rw[ni hb] at hm
 obtain⟨r,ri,es,clock,since,L,rfl,rfl,hne,h3,h4,h5,h6,rfl,rfl,h9,h10,h11,h12,h13,h14⟩:=hm
 obtain⟨L0,e,rfl⟩:∃L0 e,L=L0++[e]:=by
   refine⟨L.dropLast,L.getLast (λq=>by rw[q] at h13;simp at h13),(List.dropLast_concat_getLast _).symm⟩
 rw[List.map_append] at h13
 obtain⟨e1,e2⟩:=List.append_inj' h13 rfl
 have ek:e.key=k:=by simpa using e2
 subst ek
 have he:e∈es:=h12 e (by simp)
 have e3:((L0++[e]).map (·.born)).toArray=((L0.map (·.born)).toArray).push (cP e).born:=by simp[cP]
 rw[e3] at h9
 have hrun:=run_entry_at (P:=P) w ri r since (L0.map (·.born)).toArray (es.map cP).toArray clock (cP e) h9 h5 (by simpa using⟨e,he,rfl⟩) (by
   have:=h6.born
   simpa[cP,Function.comp_def] using this)
 have hF:(cP e).val= .int .i64 (eI es e.key):=by
   show Value.int .i64 e.val=_
   unfold eI
   have:es.find? (λa=>decide (a.key=e.key))=some e:=by
     cases hf:es.find? (λa=>decide (a.key=e.key)) with
     |none=>exact absurd (List.find?_eq_none.1 hf e he) (by simp)
     |some a=>
       have h1:=List.mem_of_find?_eq_some hf
       have h2:=List.find?_some hf
       rw[uq h6 h1 he (by simpa using h2)]
   rw[this];rfl
 rw[hF] at hrun
 simp only[execOp,hx]
 simp[hrun,cP]
end
end TL
/-
  TlSepI: what layer 15 answers.
  By an AI agent.
-/
set_option linter.all false
namespace TL
section
variable{g:bz}{u v x y n:Int}{k i j m:Nat}{l:List (Int×Int)}
def ua(u:Int)(k:Nat):List Int:=(bp k).filter λx=> !decide (x=u)
def e7(n u:Int):List Int:=ua u n.toNat
theorem zB(h:¬(k:Int)=u):ua u k++[(k:Int)]=ua u (k+1):=by
 unfold ua
 rw[cv,List.filter_append,List.filter_cons_of_pos (by simpa using h)];rfl
theorem Br(h:(k:Int)=u):ua u k=ua u (k+1):=by
 unfold ua
 rw[cv,List.filter_append,List.filter_cons_of_neg (by simpa using h),List.filter_nil,List.append_nil]
theorem ul:(ua u k).length<=k:=by
 unfold ua
 have:=List.length_filter_le (λx=> !decide (x=u)) (bp k)
 rw[eY] at this;exact this
def fy(g:bz)(u:Int):bz:=(du g (e7 g.1 u)).1
theorem sA:cX (e7 n u) n=0:=by
 refine pP (λi hi=>?_) ((fm _).sublist List.filter_sublist)
 have:=ch.1 (List.mem_filter.1 hi).1
 omega
theorem rS(hm:aX g):(fy g u).1=((e7 g.1 u).length:Int):=by
 unfold fy du
 rw[if_pos hm,if_pos sA]
theorem jw(hm:aX g):aX (fy g u):=by
 have hl:(e7 g.1 u).length<=g.1.toNat:=ul
 obtain⟨m1,m2,m3,m4⟩:=id hm
 unfold fy du
 rw[if_pos hm,if_pos sA]
 refine⟨by show(0:Int)<=((e7 g.1 u).length:Int);omega,by show((e7 g.1 u).length:Int)<=1024;omega,?_,λe he=>?_⟩
 · show(List.map _ (n8 g (e7 g.1 u))).length<=3072
   rw[List.length_map]
   have:(n8 g (e7 g.1 u)).length<=((List.range g.2.length).map (λ(i:Nat)=>(i:Int))).length:=List.length_filter_le ..
   simp at this;omega
 · obtain⟨i,hi,rfl⟩:=List.mem_map.1 he
   have h2:=(List.mem_filter.1 hi).2
   simp only[Bool.and_eq_true,decide_eq_true_eq] at h2
   have p1:=gT.2 h2.1
   have p2:=gT.2 h2.2
   have q1:=kJ (e7 g.1 u) (gI g.2 i).1
   have q2:=kJ (e7 g.1 u) (gI g.2 i).2
   exact⟨⟨by omega,by show _<((e7 g.1 u).length:Int);omega⟩,by omega,by show _<((e7 g.1 u).length:Int);omega⟩
theorem yL(hm:aX g)(h:x∈c9 g):0<=x/\x<g.1:=by
 have hmb:=kj hm
 have e1:(bU g).1.1=g.1:=by rw[ga hm]
 unfold c9 da at h
 rw[if_pos hmb] at h
 have:=ch.1 (List.mem_filter.1 h).1
 have:=hm.1
 omega
theorem lB(hm:aX g):((c9 g).length:Int)<=g.1:=by
 have hmb:=kj hm
 have e1:(bU g).1.1=g.1:=by rw[ga hm]
 unfold c9 da
 rw[if_pos hmb]
 show((gJ (bU g).1).length:Int)<=_
 unfold gJ
 have h1:=List.length_filter_le (λv=>gI (fA (fJ (bU g).1) (bU g).1 (2*(bU g).1.2.length)).2 v) (bp (bU g).1.1.toNat)
 rw[eY] at h1
 have:=hm.1
 omega
def gU(g:bz):Bool:=decide ((bt g).2.1<=1)
def fx(g:bz):Bool:=decide (2<g.1)&&(gU g&&decide (((c9 g).length:Int)=0))
def jO(g:bz)(u:Int)(j:Nat):List (Int×Int):=(((c9 (fy g u)).take j).filter λx=>decide (u<gI (e7 g.1 u) x)).map λx=>(u,gI (e7 g.1 u) x)
def oA(g:bz)(u:Int):List (Int×Int):=jO g u (c9 (fy g u)).length
theorem yO(hj:(j:Int)<((c9 (fy g u)).length:Int))(h:u<gI (e7 g.1 u) (gI (c9 (fy g u)) (j:Int))):jO g u j++[(u,gI (e7 g.1 u) (gI (c9 (fy g u)) (j:Int)))]=jO g u (j+1):=by
 unfold jO
 rw[bC hj,List.filter_append,List.filter_cons_of_pos (by simpa using h),List.map_append];rfl
theorem zL(hj:(j:Int)<((c9 (fy g u)).length:Int))(h:¬u<gI (e7 g.1 u) (gI (c9 (fy g u)) (j:Int))):jO g u j=jO g u (j+1):=by
 unfold jO
 rw[bC hj,List.filter_append,List.filter_cons_of_neg (by simpa using h),List.filter_nil,List.append_nil]
theorem x5(hj:¬(j:Int)<((c9 (fy g u)).length:Int)):jO g u j=oA g u:=by
 unfold oA jO
 rw[List.take_of_length_le (by omega),List.take_length]
theorem nr:(jO g u j).length<=j:=by
 unfold jO
 rw[List.length_map]
 refine Nat.le_trans (List.length_filter_le _ _) ?_
 rw[List.length_take];omega
def dr(g:bz)(k:Nat):List (Int×Int):=(bp k).flatMap (oA g)
theorem iF:dr g (k+1)=dr g k++oA g (k:Int):=by
 unfold dr;rw[cv,List.flatMap_append];simp
theorem jH(hm:aX g):∀k:Nat,((dr g k).length:Int)<=(k:Int)*1024
 |0=>by simp[dr,bp]
 |k+1=>by
   have h1:=jH hm k
   have h2:=lB (jw (u:=(k:Int)) hm)
   have h3:=jw (u:=(k:Int)) hm
   have h4:(oA g (k:Int)).length<=(c9 (fy g (k:Int))).length:=nr
   rw[iF,List.length_append]
   have:=h3.2.1
   omega
def jM(g:bz)(most:Int):Nat->Nat->List (Int×Int)
 |0,k=>dr g k
 |f+1,k=>if most<=((dr g (k+1)).length:Int) then dr g (k+1) else jM g most f (k+1)
def cJ(g:bz)(most:Int):List (Int×Int):=jM g most g.1.toNat 0
theorem yh{most:Int}(h:jM g most (g.1.toNat-k) k=cJ g most)(hk:(k:Int)<g.1)(hb:¬most<=((dr g (k+1)).length:Int)):jM g most (g.1.toNat-(k+1)) (k+1)=cJ g most:=by
 rw[<-h,show g.1.toNat-k=(g.1.toNat-(k+1))+1 by omega]
 simp only[jM]
 rw[if_neg hb]
theorem vl{most:Int}(h:jM g most (g.1.toNat-k) k=cJ g most)(hk:(k:Int)<g.1)(hb:most<=((dr g (k+1)).length:Int)):dr g (k+1)=cJ g most:=by
 rw[<-h,show g.1.toNat-k=(g.1.toNat-(k+1))+1 by omega]
 simp only[jM]
 rw[if_pos hb]
theorem wu{most:Int}(h:jM g most (g.1.toNat-k) k=cJ g most)(hk:¬(k:Int)<g.1):dr g k=cJ g most:=by
 rw[<-h,show g.1.toNat-k=0 by omega];rfl
theorem rv(hm:aX g){most:Int}:∀(f k:Nat),f+k<=1024->((jM g most f k).length:Int)<=1048576
 |0,k,h=>by have:=jH hm k;show((dr g k).length:Int)<=_;omega
 |f+1,k,h=>by
   have:=jH hm (k+1)
   show((if most<=((dr g (k+1)).length:Int) then dr g (k+1) else jM g most f (k+1)).length:Int)<=_
   split
   · omega
   · exact rv hm f (k+1) (by omega)
theorem nW(hm:aX g){most:Int}:((cJ g most).length:Int)<=1048576:=rv hm _ _ (by have:=hm.1;have:=hm.2.1;omega)
def eK(g:bz):Int:=if g.1<2\/¬gU g=true then 0 else if fx g=true then(if g.1<4\/0<((cJ g 1).length:Int) then 2 else 3) else 1
def bc(g:bz):Int×Int:=if aX g then(eK g,0) else(0,1)
def b6(g:bz):List (Int×Int)×Int:=if aX g then if fx g=true then(cJ g (g.1*g.1),0) else([],7) else([],1)
theorem sD(h:¬aX g):bc g=(0,1):=by unfold bc;rw[if_neg h]
theorem xE(hm:aX g)(h:g.1<2):bc g=(0,0):=by unfold bc eK;rw[if_pos hm,if_pos (.inl h)]
theorem xK(hm:aX g)(h:¬gU g=true):bc g=(0,0):=by unfold bc eK;rw[if_pos hm,if_pos (.inr h)]
theorem B4(hm:aX g)(h1:¬g.1<2)(h2:gU g=true)(h3:¬fx g=true):bc g=(1,0):=by unfold bc eK;rw[if_pos hm,if_neg (by rintro(q|q);exact h1 q;exact q h2),if_neg h3]
theorem uf(hm:aX g)(h1:¬g.1<2)(h2:gU g=true)(h3:fx g=true)(h4:g.1<4\/0<((cJ g 1).length:Int)):bc g=(2,0):=by unfold bc eK;rw[if_pos hm,if_neg (by rintro(q|q);exact h1 q;exact q h2),if_pos h3,if_pos h4]
theorem Bo(hm:aX g)(h1:¬g.1<2)(h2:gU g=true)(h3:fx g=true)(h4:¬(g.1<4\/0<((cJ g 1).length:Int))):bc g=(3,0):=by unfold bc eK;rw[if_pos hm,if_neg (by rintro(q|q);exact h1 q;exact q h2),if_pos h3,if_neg h4]
theorem sL(h:¬aX g):b6 g=([],1):=by unfold b6;rw[if_neg h]
theorem uE(hm:aX g)(h:¬fx g=true):b6 g=([],7):=by unfold b6;rw[if_pos hm,if_neg h]
theorem k8(hm:aX g)(h:fx g=true):b6 g=(cJ g (g.1*g.1),0):=by unfold b6;rw[if_pos hm,if_pos h]
def ow(u v:Int)(e:Int×Int):Bool:=decide (¬e.1=u/\¬e.1=v/\¬e.2=u/\¬e.2=v)
def j6(g:bz)(u v:Int)(k:Nat):List (Int×Int):=(g.2.take k).filter (ow u v)
def lz(g:bz)(u v:Int):bz:=(g.1,j6 g u v g.2.length)
theorem yn(hk:(k:Int)<(g.2.length:Int))(h:ow u v (gI g.2 (k:Int))=true):j6 g u v k++[gI g.2 (k:Int)]=j6 g u v (k+1):=by
 unfold j6
 rw[bC hk,List.filter_append,List.filter_cons_of_pos h];rfl
theorem mF(hk:(k:Int)<(g.2.length:Int))(h:¬ow u v (gI g.2 (k:Int))=true):j6 g u v k=j6 g u v (k+1):=by
 unfold j6
 rw[bC hk,List.filter_append,List.filter_cons_of_neg h,List.filter_nil,List.append_nil]
theorem rB:(j6 g u v k).length<=k:=by
 unfold j6
 refine Nat.le_trans (List.length_filter_le _ _) ?_
 rw[List.length_take];omega
theorem xL(hk:¬(k:Int)<(g.2.length:Int)):(g.1,j6 g u v k)=lz g u v:=by
 unfold lz j6
 rw[List.take_of_length_le (by omega),List.take_length]
theorem rm(hm:aX g):aX (lz g u v):=by
 obtain⟨m1,m2,m3,m4⟩:=hm
 refine⟨m1,m2,Nat.le_trans rB m3,λe he=>?_⟩
 have h1:e∈g.2.take g.2.length:=(List.mem_filter.1 he).1
 rw[List.take_length] at h1
 exact m4 e h1
def dH(u v:Int)(e:Int×Int):Int:=if e.1=u\/e.1=v then e.2 else e.1
def pX(u v:Int)(e:Int×Int):Prop:=e.1=e.2\/dH u v e=u\/dH u v e=v
instance {e:Int×Int}:Decidable (pX u v e):=by unfold pX;infer_instance
abbrev Do:=List (List Int)×((Int->Int)×List Int)
def iW(p:List Int)(g:bz)(u v:Int)(s:Do)(i:Int):Do:=
  if pX u v (gI g.2 i) then(s.1++[[i]],s.2)
  else if gI p (dH u v (gI g.2 i))∈s.2.2 then(s.1.set (s.2.1 (gI p (dH u v (gI g.2 i)))).toNat (gI s.1 (s.2.1 (gI p (dH u v (gI g.2 i))))++[i]),s.2)
  else(s.1++[[i]],((λq=>if q=gI p (dH u v (gI g.2 i)) then(s.1.length:Int) else s.2.1 q),s.2.2++[gI p (dH u v (gI g.2 i))]))
def jZ(p:List Int)(g:bz)(u v:Int)(k:Nat):Do:=(bp k).foldl (iW p g u v) ([],(λ_=>0,[]))
theorem ic{p:List Int}:jZ p g u v (k+1)=iW p g u v (jZ p g u v k) (k:Int):=by
 unfold jZ;rw[cv,List.foldl_append];rfl
def bE(g:bz)(u v:Int):List (List Int):=(jZ (bt (lz g u v)).1 g u v g.2.length).1
structure jJ(p:List Int)(g:bz)(u v:Int)(k:Nat)(l:List (List Int))(at_:(Int->Int)×List Int):Prop where
 eq:(l,at_)=jZ p g u v k
 len:l.length<=k
 rg:∀q∈at_.2,0<=at_.1 q/\at_.1 q<(l.length:Int)
 sm:∀r∈l,r.length<=k
variable{p:List Int}{ls ls':List (List Int)}{at_ at2:(Int->Int)×List Int}
theorem jJ.start:jJ p g u v 0 [] (λ_=>0,[]):=⟨rfl,by simp,λq hq=>absurd hq List.not_mem_nil,λr hr=>absurd hr List.not_mem_nil⟩
theorem jJ.alone(h:jJ p g u v k ls at_)(ha:pX u v (gI g.2 (k:Int))):jJ p g u v (k+1) (ls++[[(k:Int)]]) at_:=by
 refine⟨?_,by rw[List.length_append];have:=h.len;simp;omega,λq hq=>?_,λr hr=>?_⟩
 · rw[ic,<-h.eq];unfold iW;rw[if_pos ha]
 · have:=h.rg q hq
   rw[List.length_append];simp;omega
 · rcases List.mem_append.1 hr with hr|hr
   · have:=h.sm r hr;omega
   · rw[List.mem_singleton.1 hr];simp
theorem jJ.old(h:jJ p g u v k ls at_)(ha:¬pX u v (gI g.2 (k:Int)))(hin:gI p (dH u v (gI g.2 (k:Int)))∈at_.2)(e:ls'=ls.set (at_.1 (gI p (dH u v (gI g.2 (k:Int))))).toNat (gI ls (at_.1 (gI p (dH u v (gI g.2 (k:Int)))))++[(k:Int)])):jJ p g u v (k+1) ls' at_:=by
 have hr0:=h.rg _ hin
 subst e
 refine⟨?_,by rw[List.length_set];have:=h.len;omega,λq hq=>by rw[List.length_set];exact h.rg q hq,λr hr=>?_⟩
 · rw[ic,<-h.eq];unfold iW;rw[if_neg ha,if_pos hin]
 · rcases List.mem_or_eq_of_mem_set hr with hr|hr
   · have:=h.sm r hr;omega
   · rw[hr,List.length_append]
     have:=h.sm _ (br (xs:=ls) hr0.1 hr0.2)
     simp;omega
theorem jJ.new(h:jJ p g u v k ls at_)(ha:¬pX u v (gI g.2 (k:Int)))(hin:¬gI p (dH u v (gI g.2 (k:Int)))∈at_.2)(e:ls'=ls++[[(k:Int)]])(e2:at2=((λq=>if q=gI p (dH u v (gI g.2 (k:Int))) then(ls.length:Int) else at_.1 q),at_.2++[gI p (dH u v (gI g.2 (k:Int)))])):jJ p g u v (k+1) ls' at2:=by
 subst e e2
 refine⟨?_,by rw[List.length_append];have:=h.len;simp;omega,λq hq=>?_,λr hr=>?_⟩
 · rw[ic,<-h.eq];unfold iW;rw[if_neg ha,if_neg hin]
 · show 0<=(if q=_ then _ else _)/\(if q=_ then _ else _)<_
   rw[List.length_append]
   split
   · simp;omega
   · rcases List.mem_append.1 hq with hq|hq
     · have:=h.rg q hq
       simp;omega
     · exact absurd (List.mem_singleton.1 hq) (by assumption)
 · rcases List.mem_append.1 hr with hr|hr
   · have:=h.sm r hr;omega
   · rw[List.mem_singleton.1 hr];simp
theorem jJ.done(h:jJ (bt (lz g u v)).1 g u v k ls at_)(h0:(k:Int)<=(g.2.length:Int))(hk:¬(k:Int)<(g.2.length:Int)):ls=bE g u v:=by
 have e:k=g.2.length:=by omega
 subst e
 exact congrArg Prod.fst h.eq
theorem wG(e:Int×Int)(h1:e.1=u\/e.1=v):dH u v e=e.2:=if_pos h1
theorem CI(e:Int×Int)(h1:¬e.1=u)(h2:¬e.1=v):dH u v e=e.1:=if_neg (by rintro(q|q);exact h1 q;exact h2 q)
theorem jJ.alone'{w:Int}(h:jJ p g u v k ls at_)(hw:dH u v (gI g.2 (k:Int))=w)(ha:(gI g.2 (k:Int)).1=(gI g.2 (k:Int)).2\/w=u\/w=v):jJ p g u v (k+1) (ls++[[(k:Int)]]) at_:=h.alone (by subst hw;exact ha)
theorem jJ.old'{w:Int}(h:jJ p g u v k ls at_)(hw:dH u v (gI g.2 (k:Int))=w)(ha:¬((gI g.2 (k:Int)).1=(gI g.2 (k:Int)).2\/w=u\/w=v))(hin:gI p w∈at_.2)(e:ls'=ls.set (at_.1 (gI p w)).toNat (gI ls (at_.1 (gI p w))++[(k:Int)])):jJ p g u v (k+1) ls' at_:=by
 subst hw;exact h.old ha hin e
theorem uD{x:Int}:(ls++[[]]).set (Int.toNat (ls.length:Int)) (gI (ls++[[]]) (ls.length:Int)++[x])=ls++[[x]]:=by
 simp[gI]
theorem jJ.new'{w:Int}(h:jJ p g u v k ls at_)(hw:dH u v (gI g.2 (k:Int))=w)(ha:¬((gI g.2 (k:Int)).1=(gI g.2 (k:Int)).2\/w=u\/w=v))(hin:¬gI p w∈at_.2)(e:ls'=(ls++[[]]).set (Int.toNat (ls.length:Int)) (gI (ls++[[]]) (ls.length:Int)++[(k:Int)]))(e2:at2=((λq=>if q=gI p w then(ls.length:Int) else at_.1 q),if gI p w∈at_.2 then at_.2 else at_.2++[gI p w])):jJ p g u v (k+1) ls' at2:=by
 subst hw
 rw[if_neg hin] at e2
 exact h.new ha hin (e.trans uD) e2
theorem qD(hm:aX g):((bt g).1.length:Int)=g.1:=by
 unfold bt
 rw[if_pos hm]
 have:=(pp g g.1.toNat).1
 have:=hm.1
 show((cS g g.1.toNat).1.length:Int)=_
 omega
def aF(g:bz)(u v:Int):List (List Int)×Int:=if aX g then if(0<=u/\u<g.1)/\(0<=v/\v<g.1)/\¬u=v then(bE g u v,0) else([],2) else([],1)
theorem sQ(h:¬aX g):aF g u v=([],1):=by unfold aF;rw[if_neg h]
theorem j8(hm:aX g)(h:¬((0<=u/\u<g.1)/\(0<=v/\v<g.1)/\¬u=v)):aF g u v=([],2):=by unfold aF;rw[if_pos hm,if_neg h]
theorem ta(hm:aX g)(h:(0<=u/\u<g.1)/\(0<=v/\v<g.1)/\¬u=v):aF g u v=(bE g u v,0):=by unfold aF;rw[if_pos hm,if_pos h]
def ss(ls:List (List Int))(k:Nat):Int:=(ls.take k).foldl (λm l=>max m (l.length:Int)) 0
theorem kx{a:Int}(h:a=ss ls k)(hk:(k:Int)<(ls.length:Int)):max a ((gI ls (k:Int)).length:Int)=ss ls (k+1):=by
 unfold ss at*
 rw[bC hk,List.foldl_append,<-h];rfl
theorem CX(hm:aX g):0<=g.1*g.1/\g.1*g.1<=1048576:=by
 obtain⟨h0,h1,_⟩:=hm
 exact⟨Int.mul_nonneg h0 h0,Int.le_trans (Int.mul_le_mul_of_nonneg_right h1 h0) (show 1024*g.1<=1048576 by omega)⟩
theorem nS(hm:aX g){p:List Int}:∀k:Nat,jJ p g u v k (jZ p g u v k).1 (jZ p g u v k).2
 |0=>jJ.start
 |k+1=>by
   have h:=nS hm (p:=p) k
   have e:=ic (p:=p) (g:=g) (u:=u) (v:=v) (k:=k)
   by_cases ha:pX u v (gI g.2 (k:Int))
   · have:=h.alone ha
     rw[e];unfold iW;rw[if_pos ha];exact this
   · by_cases hin:gI p (dH u v (gI g.2 (k:Int)))∈(jZ p g u v k).2.2
     · have:=h.old ha hin rfl
       rw[e];unfold iW;rw[if_neg ha,if_pos hin];exact this
     · have:=h.new ha hin rfl rfl
       rw[e];unfold iW;rw[if_neg ha,if_neg hin];exact this
theorem zK(hm:aX g):(bE g u v).length<=g.2.length/\∀r∈bE g u v,r.length<=g.2.length:=⟨(nS hm _).len,(nS hm _).sm⟩
theorem BD{a:Int}(hm:aX g)(h:a=ss (bE g u v) k)(hk:(k:Int)<=((bE g u v).length:Int)):0<=a/\a<=3072:=by
 have key:∀k:Nat,(k:Int)<=((bE g u v).length:Int)->0<=ss (bE g u v) k/\ss (bE g u v) k<=3072:=by
   intro k
   induction k with
   |zero=>intro _;exact⟨Int.le_refl _,by show(0:Int)<=3072;decide⟩
   |succ k ih=>
     intro hk
     have h1:=ih (by omega)
     have h2:=(zK (u:=u) (v:=v) hm).2 _ (br (xs:=bE g u v) (i:=(k:Int)) (by omega) (by omega))
     have h3:=hm.2.2.1
     rw[<-kx rfl (by omega)]
     omega
 rw[h];exact key k hk
theorem pD{a:Int}(h:a=ss ls k)(hk:¬(k:Int)<(ls.length:Int)):a=ss ls ls.length:=by
 rw[h];unfold ss;rw[List.take_of_length_le (by omega),List.take_length]
def eD(g:bz)(u v:Int):Bool:=decide (4<=(g.2.length:Int)/\(ss (bE g u v) (bE g u v).length=1\/2<=(g.2.length:Int)-ss (bE g u v) (bE g u v).length))
def dK(g:bz):List (Int×Int):=if 2<g.1 then cJ g (g.1*g.1) else[]
def eT(l:List (Int×Int))(D:List (Int×Int))(k:Nat):List (Int×Int):=(l.take k).foldl j7 D
theorem iU{D D':List (Int×Int)}(h:D'=eT l D k)(hk:(k:Int)<(l.length:Int)):j7 D' (gI l (k:Int))=eT l D (k+1):=by
 unfold eT at*
 rw[bC hk,List.foldl_append,<-h];rfl
def gP(g:bz):List (Int×Int):=eT (g.2.map fZ) (eT (dK g) [] (dK g).length) g.2.length
end
end TL
/-
  TlSep2: pairs that separate, by nodes taken out.
  By an AI agent.
-/
set_option linter.all false
namespace TL
section
variable{E E':List (Int×Int)}{A B:Int->Prop}{x y z v u n:Int}{g:bz}{k i:Nat}
theorem Js.img(f:Int->Int)(h:Js E A x y)(hx:A x->B (f x))(he:∀e∈E,A e.1->A e.2->Js E' B (f e.1) (f e.2)):Js E' B (f x) (f y):=by
 induction h with
 |refl a=>exact .refl (hx a)
 |fw k he' a ih=>exact ih.trans (he _ he' k.right a)
 |bw k he' a ih=>exact ih.trans (he _ he' a k.right).symm
theorem gk:z∈e7 n u↔(0<=z/\z<n)/\z≠u:=by
 unfold e7 ua
 rw[List.mem_filter,ch]
 simp only[Bool.not_eq_true',decide_eq_false_iff_not]
 constructor
 · rintro⟨⟨a,b⟩,c⟩;exact⟨⟨a,by omega⟩,c⟩
 · rintro⟨⟨a,b⟩,c⟩;exact⟨⟨a,by omega⟩,c⟩
theorem nX:(e7 n u).Nodup:=(fm _).sublist List.filter_sublist
theorem ko(hz:z∈e7 n u):gI (e7 n u) (dW (e7 n u) z-1)=z/\0<=dW (e7 n u) z-1/\dW (e7 n u) z-1<((e7 n u).length:Int):=by
 obtain⟨i,hi,rfl⟩:=List.mem_iff_getElem.1 hz
 have e1:gI (e7 n u) (i:Int)=(e7 n u)[i]:=by simp[gI,hi]
 have:=uy nX (l:=e7 n u) (i:=(i:Int)) (by omega) (by omega)
 rw[e1] at this
 rw[this,show(i:Int)+1-1=(i:Int) by omega]
 exact⟨e1,by omega,by omega⟩
theorem xN{i:Int}(h0:0<=i)(h1:i<((e7 n u).length:Int)):dW (e7 n u) (gI (e7 n u) i)-1=i/\gI (e7 n u) i∈e7 n u:=by
 have:=uy nX (l:=e7 n u) h0 h1
 exact⟨by omega,br h0 h1⟩
theorem tT(hm:aX g){e:Int×Int}:e∈(fy g u).2↔∃d∈g.2,d.1∈e7 g.1 u/\d.2∈e7 g.1 u/\e=(dW (e7 g.1 u) d.1-1,dW (e7 g.1 u) d.2-1):=by
 unfold fy du
 rw[if_pos hm,if_pos sA]
 constructor
 · intro he
   obtain⟨i,hi,rfl⟩:=List.mem_map.1 he
   obtain⟨h1,h2⟩:=List.mem_filter.1 hi
   simp only[Bool.and_eq_true,decide_eq_true_eq] at h2
   obtain⟨j,hj,rfl⟩:=List.mem_map.1 h1
   exact⟨gI g.2 (j:Int),br (by omega) (by have:=List.mem_range.1 hj;omega),h2.1,h2.2,rfl⟩
 · rintro⟨d,hd,h1,h2,rfl⟩
   obtain⟨i,hi,rfl⟩:=List.mem_iff_getElem.1 hd
   have e1:gI g.2 (i:Int)=g.2[i]:=by simp[gI,hi]
   refine List.mem_map.2 ⟨(i:Int),List.mem_filter.2 ⟨List.mem_map.2 ⟨i,List.mem_range.2 hi,rfl⟩,?_⟩,by rw[e1]⟩
   rw[e1]
   simp only[Bool.and_eq_true,decide_eq_true_eq]
   exact⟨h1,h2⟩
theorem Bg(hm:aX g):Cj (fy g u).2 (fy g u).1 B↔Cj g.2 g.1 (λz=>z≠u/\B (dW (e7 g.1 u) z-1)):=by
 rw[rS hm]
 constructor
 · intro h x y x0 x1 y0 y1 ax ay
   have hx:x∈e7 g.1 u:=gk.2 ⟨⟨x0,x1⟩,ax.1⟩
   have hy:y∈e7 g.1 u:=gk.2 ⟨⟨y0,y1⟩,ay.1⟩
   obtain⟨bx,DF,Dx⟩:=ko hx
   obtain⟨by_,by0,by1⟩:=ko hy
   have hj:=(h _ _ DF Dx by0 by1 ax.2 ay.2).img (B:=λz=>z≠u/\B (dW (e7 g.1 u) z-1)) (E':=g.2) (gI (e7 g.1 u)) (λ_=>by rw[bx];exact ax) λe he a b=>by
     obtain⟨d,hd,h1,h2,rfl⟩:=(tT hm).1 he
     show Js g.2 _ (gI (e7 g.1 u) (dW (e7 g.1 u) d.1-1)) (gI (e7 g.1 u) (dW (e7 g.1 u) d.2-1))
     rw[(ko h1).1,(ko h2).1]
     exact .edge hd ⟨(gk.1 h1).2,a⟩ ⟨(gk.1 h2).2,b⟩
   rw[bx,by_] at hj;exact hj
 · intro h i j i0 i1 j0 j1 bi bj
   obtain⟨pi,mi⟩:=xN i0 i1
   obtain⟨pj,mj⟩:=xN j0 j1
   obtain⟨⟨a0,a1⟩,a2⟩:=gk.1 mi
   obtain⟨⟨b0,b1⟩,b2⟩:=gk.1 mj
   have hj:=(h _ _ a0 a1 b0 b1 ⟨a2,by rw[pi];exact bi⟩ ⟨b2,by rw[pj];exact bj⟩).img (B:=B) (E':=(fy g u).2) (λz=>dW (e7 g.1 u) z-1) (λq=>q.2) λe he a b=>by
     obtain⟨o1,o2⟩:=hm.2.2.2 _ he
     exact .edge (e:=(dW (e7 g.1 u) e.1-1,dW (e7 g.1 u) e.2-1)) ((tT hm).2 ⟨e,he,gk.2 ⟨o1,a.1⟩,gk.2 ⟨o2,b.1⟩,rfl⟩) a.2 b.2
   rw[show dW (e7 g.1 u) (gI (e7 g.1 u) i)-1=i from pi,show dW (e7 g.1 u) (gI (e7 g.1 u) j)-1=j from pj] at hj
   exact hj
def mb(g:bz)(l:List Int):List Bool:=l.foldl (λs v=>s.set v.toNat true) (List.replicate g.1.toNat false)
theorem wJ{s:List Bool}{l:List Int}(hs:(s.length:Int)=g.1)(hl:∀v∈l,0<=v/\v<g.1)(x0:0<=x):gI (l.foldl (λs v=>s.set v.toNat true) s) x=true↔gI s x=true\/x∈l:=by
 induction l generalizing s with
 |nil=>simp
 |cons a l ih=>
   obtain⟨a0,a1⟩:=hl a (by simp)
   rw[List.foldl_cons,ih (by rw[List.length_set];exact hs) (λv hv=>hl v (by simp[hv])),bT a0 (by omega) x0,List.mem_cons]
   by_cases c:x=a
   · rw[if_pos c];simp[c]
   · rw[if_neg c];simp[c]
theorem qt{l:List Int}(hm:aX g)(hl:∀v∈l,0<=v/\v<g.1)(x0:0<=x)(x1:x<g.1):gI (mb g l) x=true↔x∈l:=by
 have:=hm.1
 unfold mb
 rw[wJ (g:=g) (by rw[List.length_replicate];omega) hl x0,fM x0 (by omega)]
 simp
def cV(g:bz)(l:List Int):Int:=(aU g (mb g l) []).2
theorem gw{l:List Int}(hm:aX g)(hl:∀v∈l,0<=v/\v<g.1):cV g l<=1↔Cj g.2 g.1 (λz=>z∉l):=by
 unfold cV
 rw[n9 hm]
 exact Cj.iff hm.2.2.2 λz z0 z1=>not_congr (qt hm hl z0 z1)
theorem nE{l:List Int}(hm:aX g)(hl:∀v∈l,0<=v/\v<g.1)(x0:0<=x)(x1:x<g.1)(hx:x∉l):1<=cV g l:=
 tZ hm ⟨x0,x1⟩ (λq=>hx ((qt hm hl x0 x1).1 q))
theorem iL:∀(D A:List Int),D.Nodup->(∀p∈D,p∈A)->D.length<=A.length
 |[],A,_,_=>Nat.zero_le _
 |a::D,A,hn,hs=>by
   have hn':=List.nodup_cons.1 hn
   have ha:=hs a (List.mem_cons_self ..)
   have h3:=iL D (A.erase a) hn'.2 (λx hx=>by
     have hne:x≠a:=λe=>hn'.1 (by rw[<-e];exact hx)
     exact(List.mem_erase_of_ne hne).2 (hs x (List.mem_cons_of_mem _ hx)))
   have h4:=List.length_erase_of_mem ha
   have h5:=List.length_pos_of_mem ha
   rw[List.length_cons];omega
theorem mQ{l:List Int}(h:(l.length:Int)<n):∃x,0<=x/\x<n/\x∉l:=by
  refine Classical.byContradiction λhno=>?_
  have hsub:∀x∈bp n.toNat,x∈l:=λx hx=>Classical.byContradiction λq=>hno ⟨x,by have:=ch.1 hx;omega,by have:=ch.1 hx;omega,q⟩
  have:=iL _ _ (fm n.toNat) hsub
  rw[eY] at this
  omega
theorem jE(hm:aX g):fx g=true↔2<g.1/\Cj g.2 g.1 (λ_=>True)/\∀u,0<=u->u<g.1->Cj g.2 g.1 (λz=>z≠u):=by
 unfold fx gU
 simp only[Bool.and_eq_true,decide_eq_true_eq]
 rw[yj hm]
 refine and_congr Iff.rfl ⟨λ⟨h1,h2⟩=>⟨h1,λu u0 u1=>Classical.byContradiction λhno=>?_⟩,λ⟨h1,h2⟩=>⟨h1,?_⟩⟩
 · have:=List.length_pos_of_mem ((lu hm h1).2 ⟨⟨u0,u1⟩,hno⟩)
   omega
 · cases h:c9 g with
   |nil=>rfl
   |cons a l=>
     have:=(lu hm h1).1 (show a∈c9 g by rw[h];simp)
     exact absurd (h2 a this.1.1 this.1.2) this.2
def i5(g:bz)(u:Int):List (Int×Int):=((bp g.1.toNat).filter λv=>decide (u<v)&&decide (1<cV g [u,v])).map λv=>(u,v)
theorem tB(hm:aX g):c9 g=(bp g.1.toNat).filter λx=>decide (x∈c9 g):=by
 have hmb:=kj hm
 have e1:(bU g).1.1=g.1:=by rw[ga hm]
 have e:c9 g=(bp g.1.toNat).filter λv=>gI (fA (fJ (bU g).1) (bU g).1 (2*(bU g).1.2.length)).2 v:=by
   unfold c9 da;rw[if_pos hmb]
   show gJ (bU g).1=_
   unfold gJ;rw[e1]
 have key:∀(l m:List Int) (p:Int->Bool),m=l.filter p->m=l.filter λx=>decide (x∈m):=λl m p h=>by
   conv=>lhs;rw[h]
   refine List.filter_congr λx hx=>?_
   rw[h]
   by_cases c:p x=true
   · rw[c,decide_eq_true (List.mem_filter.2 ⟨hx,c⟩)]
   · rw[Bool.eq_false_iff.2 c,decide_eq_false λq=>c (List.mem_filter.1 q).2]
 exact key _ _ _ e
theorem B3(u0:0<=u)(u1:u<n):(bp (e7 n u).length).map (gI (e7 n u))=e7 n u:=by
 refine List.ext_getElem (by simp[bp]) λi h1 h2=>?_
 simp[bp,gI,h2]
theorem Ae(hm:aX g)(u0:0<=u)(u1:u<g.1)(hc:Cj g.2 g.1 (λz=>z≠u)):oA g u=i5 g u:=by
 have hn:(fy g u).1.toNat=(e7 g.1 u).length:=by rw[rS hm];omega
 have hcw:Cj (fy g u).2 (fy g u).1 (λ_=>True):=(Bg hm).2 ((Cj.iff hm.2.2.2 λz _ _=>⟨λq=>⟨q,trivial⟩,λq=>q.1⟩).1 hc)
 have hin:∀x,x∈c9 (fy g u)↔(0<=x/\x<((e7 g.1 u).length:Int))/\1<cV g [u,gI (e7 g.1 u) x]:=λx=>by
   rw[lu (jw hm) hcw]
   have e:fI (fy g u) x↔0<=x/\x<((e7 g.1 u).length:Int):=by unfold fI;rw[rS hm]
   rw[e]
   refine and_congr_right λhx=>?_
   obtain⟨p1,p2⟩:=xN hx.1 hx.2
   obtain⟨p3,p4⟩:=gk.1 p2
   rw[Bg hm]
   have hl:∀w∈[u,gI (e7 g.1 u) x],0<=w/\w<g.1:=λw hw=>by
     rcases List.mem_cons.1 hw with q|q
     · rw[q];exact⟨u0,u1⟩
     · rw[List.mem_singleton.1 q];exact p3
   have h2:=gw hm hl
   have h3:Cj g.2 g.1 (λz=>z≠u/\dW (e7 g.1 u) z-1≠x)↔Cj g.2 g.1 (λz=>z∉[u,gI (e7 g.1 u) x]):=Cj.iff hm.2.2.2 λz z0 z1=>by
     simp only[List.mem_cons,List.not_mem_nil,or_false,not_or]
     refine and_congr_right λhz=>not_congr ?_
     have hzm:z∈e7 g.1 u:=gk.2 ⟨⟨z0,z1⟩,hz⟩
     constructor
     · intro q;rw[<-q];exact(ko hzm).1.symm
     · intro q;rw[q];exact p1
   rw[h3,<-h2]
   omega
 unfold oA jO i5
 rw[List.take_length]
 conv=>lhs;rw[tB (jw hm)]
 rw[hn,List.filter_filter]
 have e1:(bp g.1.toNat).filter (λv=>decide (u<v)&&decide (1<cV g [u,v]))=(e7 g.1 u).filter (λv=>decide (u<v)&&decide (1<cV g [u,v])):=by
   unfold e7 ua
   rw[List.filter_filter]
   refine List.filter_congr λv _=>?_
   by_cases c:v=u
   · rw[c];simp
   · simp[c]
 rw[e1]
 conv=>rhs;rw[<-B3 u0 u1]
 rw[List.filter_map,List.map_map]
 refine congrArg (List.map _) (List.filter_congr λx hx=>?_)
 have hx2:=ch.1 hx
 show(decide (u<gI (e7 g.1 u) x)&&decide (x∈c9 (fy g u)))=(decide (u<gI (e7 g.1 u) x)&&decide (1<cV g [u,gI (e7 g.1 u) x]))
 congr 1
 rw[decide_eq_decide,hin x]
 exact⟨λq=>q.2,λq=>⟨⟨hx2.1,by omega⟩,q⟩⟩
def d3(g:bz):List (Int×Int):=(bp g.1.toNat).flatMap (i5 g)
theorem kZ(hm:aX g)(h2:fx g=true):dr g g.1.toNat=d3 g:=by
 unfold dr d3
 have h:=((jE hm).1 h2).2.2
 have:∀l:List Int,(∀u∈l,0<=u/\u<g.1)->l.flatMap (oA g)=l.flatMap (i5 g):=λl hl=>by
   induction l with
   |nil=>rfl
   |cons a l ih=>
     obtain⟨a0,a1⟩:=hl a (by simp)
     rw[List.flatMap_cons,List.flatMap_cons,Ae hm a0 a1 (h a a0 a1),ih λu hu=>hl u (by simp[hu])]
 exact this _ λu hu=>by have:=ch.1 hu;omega
end
end TL
/-
  TlSep3: levels; an edge more.
  By an AI agent.
-/
set_option linter.all false
namespace TL
section
variable{A B:Int->Prop}{x y z v u n:Int}{g h:bz}{k i f:Nat}{most:Int}
theorem C4(u0:0<=u)(u1:u<n):((e7 n u).length:Int)<=n-1:=by
 have:=iL (u::e7 n u) (bp n.toNat) (List.nodup_cons.2 ⟨λq=>(gk.1 q).2 rfl,nX⟩) λp hp=>by
   rcases List.mem_cons.1 hp with q|q
   · rw[q];exact ch.2 ⟨u0,by omega⟩
   · have:=(gk.1 q).1;exact ch.2 ⟨this.1,by omega⟩
 rw[eY,List.length_cons] at this
 omega
theorem n4(hm:aX g):∀k:Nat,(k:Int)<=g.1->((dr g k).length:Int)<=(k:Int)*(g.1-1)
 |0,_=>by simp[dr,bp]
 |k+1,hk=>by
   have h1:=n4 hm k (by omega)
   have h2:=lB (jw (u:=(k:Int)) hm)
   rw[rS hm] at h2
   have h3:=C4 (u:=(k:Int)) (n:=g.1) (by omega) (by omega)
   have h4:(oA g (k:Int)).length<=(c9 (fy g (k:Int))).length:=nr
   rw[iF,List.length_append]
   have e:((k+1:Nat):Int)*(g.1-1)=(k:Int)*(g.1-1)+(g.1-1):=by rw[Int.natCast_add,Int.add_mul];simp
   omega
theorem rx(hm:aX g)(hN:0<g.1):∀(f k:Nat),((k+f:Nat):Int)<=g.1->jM g (g.1*g.1) f k=dr g (k+f)
 |0,k,_=>rfl
 |f+1,k,hk=>by
   have h1:=n4 hm (k+1) (by omega)
   have h2:((k+1:Nat):Int)*(g.1-1)<=g.1*(g.1-1):=Int.mul_le_mul_of_nonneg_right (by omega) (by omega)
   have h3:g.1*(g.1-1)=g.1*g.1-g.1:=by rw[Int.mul_sub,Int.mul_one]
   show(if g.1*g.1<=((dr g (k+1)).length:Int) then dr g (k+1) else jM g (g.1*g.1) f (k+1))=_
   rw[if_neg (by omega),rx hm hN f (k+1) (by omega),show k+1+f=k+(f+1) by omega]
theorem qO(hm:aX g)(hN:0<g.1):cJ g (g.1*g.1)=dr g g.1.toNat:=by
 have:=rx hm hN g.1.toNat 0 (by omega)
 rw[Nat.zero_add] at this;exact this
theorem po:∀f:Nat,∃t,dr g (k+f)=dr g k++t
 |0=>⟨[],by simp⟩
 |f+1=>by
   obtain⟨t,ht⟩:=po f
   exact⟨t++oA g ((k+f:Nat):Int),by rw[show k+(f+1)=k+f+1 by omega,iF,ht,List.append_assoc]⟩
theorem rd:∀(f k:Nat),0<(jM g 1 f k).length↔0<(dr g (k+f)).length
 |0,k=>Iff.rfl
 |f+1,k=>by
   show 0<(if 1<=((dr g (k+1)).length:Int) then dr g (k+1) else jM g 1 f (k+1)).length↔_
   by_cases c:1<=((dr g (k+1)).length:Int)
   · rw[if_pos c]
     obtain⟨t,ht⟩:=po (g:=g) (k:=k+1) f
     rw[show k+(f+1)=k+1+f by omega,ht,List.length_append]
     omega
   · rw[if_neg c,rd f (k+1),show k+1+f=k+(f+1) by omega]
theorem xM:0<((cJ g 1).length:Int)↔0<(dr g g.1.toNat).length:=by
 have:=rd (g:=g) g.1.toNat 0
 rw[Nat.zero_add] at this
 unfold cJ
 omega
theorem mE{p:Int×Int}:p∈d3 g↔(0<=p.1/\p.1<g.1)/\(0<=p.2/\p.2<g.1)/\p.1<p.2/\1<cV g [p.1,p.2]:=by
  unfold d3 i5
  rw[List.mem_flatMap]
  constructor
  · rintro⟨u,hu,hp⟩
    obtain⟨v,hv,rfl⟩:=List.mem_map.1 hp
    obtain⟨hv1,hv2⟩:=List.mem_filter.1 hv
    have h1:=ch.1 hu
    have h2:=ch.1 hv1
    simp only[Bool.and_eq_true,decide_eq_true_eq] at hv2
    exact⟨⟨h1.1,by show u<g.1;omega⟩,⟨h2.1,by show v<g.1;omega⟩,hv2.1,hv2.2⟩
  · rintro⟨⟨a,b⟩,⟨c,d⟩,e,f⟩
    refine⟨p.1,ch.2 ⟨a,by omega⟩,List.mem_map.2 ⟨p.2,List.mem_filter.2 ⟨ch.2 ⟨c,by omega⟩,?_⟩,rfl⟩⟩
    simp only[Bool.and_eq_true,decide_eq_true_eq]
    exact⟨e,f⟩
theorem iG(hx:0<=x/\x<n)(hy:0<=y/\y<n):∀w∈[x,y],0<=w/\w<n:=λw hw=>by
 rcases List.mem_cons.1 hw with q|q
 · rw[q];exact hx
 · rw[List.mem_singleton.1 q];exact hy
theorem tC(hm:aX g):d3 g=[]↔∀u v,0<=u->u<v->v<g.1->Cj g.2 g.1 (λz=>z∉[u,v]):=by
  constructor
  · intro h u v u0 uv v1
    have hl:=iG (x:=u) (y:=v) (n:=g.1) ⟨u0,by omega⟩ ⟨by omega,v1⟩
    refine(gw hm hl).1 (Classical.byContradiction λhno=>?_)
    have:(u,v)∈d3 g:=mE.2 ⟨⟨u0,by show u<g.1;omega⟩,⟨by show 0<=v;omega,v1⟩,uv,by show 1<cV g [u,v];omega⟩
    rw[h] at this
    exact absurd this List.not_mem_nil
  · intro h
    cases hd:d3 g with
    |nil=>rfl
    |cons p l=>
      obtain⟨⟨a,b⟩,⟨c,d⟩,e,f⟩:=mE.1 (show p∈d3 g by rw[hd];simp)
      have:=(gw hm (iG ⟨a,b⟩ ⟨c,d⟩)).2 (h _ _ a e d)
      omega
def L1(g:bz):Prop:=2<=g.1/\Cj g.2 g.1 (λ_=>True)
def L2(g:bz):Prop:=2<g.1/\Cj g.2 g.1 (λ_=>True)/\∀u,0<=u->u<g.1->Cj g.2 g.1 (λz=>z≠u)
def L3(g:bz):Prop:=L2 g/\4<=g.1/\∀u v,0<=u->u<v->v<g.1->Cj g.2 g.1 (λz=>z∉[u,v])
theorem gC(hm:aX g):(L3 g/\eK g=3)\/(¬L3 g/\L2 g/\eK g=2)\/(¬L2 g/\L1 g/\eK g=1)\/(¬L1 g/\eK g=0):=by
 have hc:gU g=true↔Cj g.2 g.1 (λ_=>True):=by unfold gU;rw[decide_eq_true_eq];exact yj hm
 have h2:fx g=true↔L2 g:=jE hm
 unfold eK
 by_cases c1:g.1<2\/¬gU g=true
 · rw[if_pos c1]
   refine .inr (.inr (.inr ⟨λq=>?_,rfl⟩))
   rcases c1 with c1|c1
   · have:=q.1;omega
   · exact c1 (hc.2 q.2)
 · rw[if_neg c1]
   have hL1:L1 g:=⟨by omega,hc.1 (Classical.byContradiction λq=>c1 (.inr q))⟩
   by_cases c2:fx g=true
   · rw[if_pos c2]
     have hL2:=h2.1 c2
     have hp:0<((cJ g 1).length:Int)↔¬d3 g=[]:=by
       rw[xM,kZ hm c2]
       cases d3 g<;>simp
     by_cases c3:g.1<4\/0<((cJ g 1).length:Int)
     · rw[if_pos c3]
       refine .inr (.inl ⟨λq=>?_,hL2,rfl⟩)
       rcases c3 with c3|c3
       · have:=q.2.1;omega
       · exact(hp.1 c3) ((tC hm).2 q.2.2)
     · rw[if_neg c3]
       refine .inl ⟨⟨hL2,by omega,(tC hm).1 (Classical.byContradiction λq=>c3 (.inr (hp.2 q)))⟩,rfl⟩
   · rw[if_neg c2]
     exact .inr (.inr (.inl ⟨λq=>c2 (h2.2 q),hL1,rfl⟩))
end
end TL
/-
  TlConv: whole numbers turned to another kind, a string's byte, functions that bear values.
  By an AI agent.
-/
set_option linter.all false
namespace TL
open Go
section
variable{P:Program}{w:World}{f:Fr}{dst:Option Tmp}{ty:TypeId}{pos:String}{after:Array Edge}{g:Option (Nat×Bool)}{x y:Operand}{s d t:TypeId}{m:Int}{k k0:IntKind}
theorem jY{fid:Nat}{cs:List Operand}{vals:List Value}(h:cs.map (ev f)=vals):(execOp (ev f) ⟨dst,.makeFunc (.func fid) #[] cs.toArray,ty,pos,after,g⟩).run P w= .ok (.value (.func (.func fid) #[] vals.toArray)) w:=by
 have h:cs.toArray.map (ev f)=vals.toArray:=by rw[<-h];simp
 simp[execOp,Instr.makeFunc,h]
theorem hU{fid:Nat}{fn:Func}{c:Operand}{args:List Operand}{at_:Array TypeId}{vals caps:List Value}(hc:ev f c= .func (.func fid) #[] caps.toArray)(hf:P.funcs[fid]? =some fn)(hb:fn.body.isNone=false)(hn:(fn.name== "runtime.NumGoroutine")=false)(ha:args.map (ev f)=vals):
   (execOp (ev f) ⟨dst,.call {callee:=.value c,args:=args.toArray,argTypes:=at_},ty,pos,after,g⟩).run P w= .ok (.enter fid (vals++caps).toArray) w:=by
 have ha:args.toArray.map (ev f)=vals.toArray:=by rw[<-ha];simp
 simp only[execOp,resolve,hc,Deferred.ofValue,invoke,callFunc,ha,Sem.run_bind,Sem.run_pure,Result.andThen_ok,run_program,hf,hn,hb,Bool.false_eq_true,if_false,Array.append_empty,Array.empty_append]
 simp
end
end TL
namespace TL
open Go
section
variable{P:Program}{w:World}{f:Fr}{dst:Option Tmp}{ty:TypeId}{pos:String}{after:Array Edge}{g:Option (Nat×Bool)}{x y:Operand}{t t':TypeId}
end
end TL
namespace TL
open Go
section
variable{P:Program}{w:World}{f:Fr}{dst:Option Tmp}{ty:TypeId}{pos:String}{after:Array Edge}{g:Option (Nat×Bool)}{x y:Operand}{t t':TypeId}
end
end TL
/-
  TlArr2: a variable that holds two numbers, as a list; lengths of small numbers in bits.
  By an AI agent.
-/
set_option linter.all false
namespace TL
open Go
section
variable{P:Program}{f:Fr}{w:World}{dst:Option Tmp}{ty:TypeId}{pos:String}{after:Array Edge}{g:Option (Nat×Bool)}{t e:TypeId}{x y:Operand}
end
def Dl(i:Int):Int:=gI [0,1,2,2,3,3,3,3,4,4,4,4,4] i
end TL
/-
  TlBlk7: the tree of blocks, as the program makes it, with the library's sort of few elements.
  By an AI agent.
-/
set_option linter.all false
namespace TL
def zs:List Int->List Int->Int
  |[],[]=>0
  |[],_::_=> -1
  |_::_,[]=>1
  |a::l,b::m=>if eX a b=0 then zs l m else eX a b
section
variable{s t:List Int}{k:Nat}
end
def oz(x y:Int×Int):Int:=zs [x.1,x.2] [y.1,y.2]
section
variable{x0 xs:List (Int×Int)}{i j:Int}
end
section
variable{g:bz}
end
end TL
/-
  TlSortP: the library's sort by a function, of pairs, met in this frame; pairs in order.
  By an AI agent.
-/
set_option linter.all false
namespace TL
open Go Go.Proofs Go.Shelf Go.Sort Go.Lib
theorem ep.grown2{w w':World}(h:ep w.heap.size w w'):∃q os,w'=grow (w.drewN q) os:=by
 obtain⟨h1,h2,h3,h4,h5,h6⟩:=h
 refine⟨w'.drawn-w.drawn,w'.heap.extract w.heap.size w'.heap.size,?_⟩
 have hh:w'.heap=w.heap++w'.heap.extract w.heap.size w'.heap.size:=by
   apply Array.ext_getElem?
   intro k
   rw[Array.getElem?_append]
   by_cases hk:k<w.heap.size
   · rw[if_pos hk];exact h5 k hk
   · rw[if_neg hk,Array.getElem?_extract]
     split
     · rw[show w.heap.size+(k-w.heap.size)=k by omega]
     · exact Array.getElem?_eq_none (by omega)
 have hd:w'.drawn=w.drawn+(w'.drawn-w.drawn):=by omega
 cases w with
 |mk a b c d e=>
   cases w' with
   |mk a' b' c' d' e'=>
     simp only[grow,World.drewN] at*
     subst h1 h2 h3
     simp only[World.mk.injEq,true_and,and_true]
     exact⟨hh,hd⟩
def gW(x:Int×Int):List Value:=[.int .i64 x.1,.int .i64 x.2]
section
variable{γ:aG}{w:World}{j b:Nat}
theorem oG(hb:is j (γ b))(m:Nat)(d:Array (Int×Int))(os:Array Obj):bD (is j) γ w γ (sortWorldK gW 2 w b 0 m d os):=by
 refine⟨rfl,rfl,rfl,?_,λ_ _ _=>rfl,λk hk hn=>?_,?_⟩
 · unfold sortWorldK putRowK;rw[size_grow,Go.Sort.size_putRow];simp only[heap_ahead];omega
 · unfold sortWorldK putRowK
   rw[heap_grow_old _ _ (by rw[Go.Sort.size_putRow];exact hk)]
   have:b≠k:=λe=>hn (by subst e;exact hb)
   simp[putRow,mapBlock,Array.getElem?_modify,this]
 · show w.drawn<=w.drawn+m
   omega
theorem t7{c:Array Value}{e:TypeId}{fr:Nat×Nat}(h:w.heap[b]? =some (.cells c e fr))(m:Nat)(d:Array (Int×Int))(os:Array Obj):(sortWorldK gW 2 w b 0 m d os).heap[b]? =some (.cells (putCells id 0 (flatK gW 2 d) c) e fr):=by
 unfold sortWorldK putRowK
 rw[heap_grow_old _ _ (by rw[Go.Sort.size_putRow];exact cG h)]
 simp[putRow,mapBlock,Array.getElem?_modify,h,onCells]
theorem qa{d:Array Value}{c:Array Value}{k:Nat}(h:k<d.size)(hc:k<c.size):(putCells id 0 d c)[k]? =some d[k]! :=by
 simp[putCells,h,hc]
theorem tP{d:Array (Int×Int)}{i q:Nat}(hi:i<d.size)(hq:q<2):(flatK gW 2 d)[i*2+q]! =(gW d[i]!)[q]! :=by
 rw[get_flatK _ _ _ _ (by omega),show(i*2+q)/2=i by omega,show(i*2+q)%2=q by omega]
end
theorem tt{P:Program}{ρ:Ren}(L:SlLaysF0.n6 P ρ)(aE:∀w,(isAgg (ρ.t 24)).run P w= .ok true w)(zE:∀w,(Go.sizeOf (ρ.t 24)).run P w= .ok 2 w)(cf:Int×Int->Int×Int->Int)(hO:SWO (ltOf cf))(g:Nat)(cb:Array Value)(eg:∀args w,(callFunc g args).run P w= .ok (.enter g args) w)
   {γ:aG}{w:World}{j:Nat}{v:Value}{ds:List (Int×Int)}(hne:ds≠[])(hl:Ow γ (is j) (is j) w v ds)
   (hc:∀W,bD (is j) γ w γ W->∀x y,Calls P g (#[.agg (gW x).toArray,.agg (gW y).toArray]++cb) W λe w'=>e= .returned (.int .i64 (cf x y))/\ep W.heap.size W w'):
   Calls P (ρ.f 6) #[v,.func (.func g) #[] cb] w λe w'=>e= .returned (.tuple #[])/\∃ds':List (Int×Int),ds'.Perm ds/\ds'.Pairwise (λx y=>ltOf cf y x=false)/\bD (is j) γ w γ w'/\Ow γ (is j) (is j) w' v ds':=by
 rcases hl with⟨_,h⟩|⟨b,cap,c,e,rfl,hcap,hm,hJ,hb,hcs,hx⟩
 · exact absurd h hne
 · have hsz1:Rp.sz (Int×Int)=2:=rfl
   rw[hsz1] at hcs
   have hbs:=cG hb
   have hlen:ds.length=ds.toArray.size:=by simp
   have hget:∀i,i<ds.length->∀q,q<2->c[i*2+q]? =some (gW ds.toArray[i]!)[q]! :=λi hi q hq=>by
     obtain⟨cs,h1,h2⟩:=hx i ds[i] (by simp[hi])
     have h2:cs=gW ds[i]:=by
       obtain⟨c1,c2,e0,e1,e2⟩:=h2
       have e1:c1=[Value.int .i64 ds[i].1]:=e1
       have e2:c2=[Value.int .i64 ds[i].2]:=e2
       rw[e0,e1,e2];rfl
     have h1:=h1 q hq
     rw[h2] at h1
     rw[hsz1] at h1
     rw[h1]
     have e3:ds.toArray[i]! =ds[i]:=by simp[hi]
     rw[e3]
     have:q<(gW ds[i]).length:=hq
     rw[List.getElem?_eq_getElem this,getElem!_pos (gW ds[i]) q this]
   have hH:HoldsK gW 2 w b 0 ds.toArray:=λt ht=>by
     have ht:t<ds.length*2:=by simpa using ht
     constructor
     · have:=hget (t/2) (by omega) (t%2) (by omega)
       rw[show t/2*2+t%2=t by omega] at this
       simp only[World.cell?,hb,Nat.zero_add]
       rw[this]
       have e4:=tP (d:=ds.toArray) (i:=t/2) (q:=t%2) (by simp;omega) (by omega)
       rw[show t/2*2+t%2=t by omega] at e4
       rw[e4];rfl
     · simp[World.frozen?,hb]
   have hcmp:CmpLays P g cb gW 2 cf b 0 ds.toArray.size w:=λm os dk hs x y=>
     (hc _ (oG hJ m dk os) x y).mono λe w' ⟨h1,h2⟩=>⟨h1,h2.grown2⟩
   have key:=AnyQ.slices_SortFunc L 2 aE zE gW (λ_=>rfl) (λx v hv=>by
     unfold gW at hv
     rcases List.mem_cons.1 hv with q|q
     · rw[q];rfl
     · rw[List.mem_singleton.1 q];rfl) cf hO g cb b 0 cap ds.toArray w eg hcmp hH hbs (by simp;omega)
   rw[hlen]
   refine key.mono λe' w' ⟨h1,d',n,os,hp,hs,hw⟩=>⟨h1,d'.toList,?_,?_,?_,?_⟩
   · obtain⟨q1,_,q3⟩:=hp
     rw[<-q1] at q3
     have e1:(d'.extract 0 d'.size)=d':=by simp
     rw[e1,q1] at q3
     have e2:(ds.toArray.extract 0 ds.toArray.size)=ds.toArray:=Array.extract_size
     rw[e2] at q3
     simpa using q3
   · rw[List.pairwise_iff_getElem]
     intro i k hi hk hik
     have hi:i<d'.size:=by simpa using hi
     have hk:k<d'.size:=by simpa using hk
     have:=hs i k (Nat.zero_le _) hik (by rw[<-hp.1];exact hk)
     rw[getElem!_pos d' k hk,getElem!_pos d' i hi] at this
     simpa using this
   · rw[hw];exact oG hJ n d' os
   · have hs':d'.size=ds.length:=by rw[hp.1];simp
     have hd:d'.toList.length=ds.length:=by simpa using hs'
     refine .inr ⟨b,cap,_,e,by rw[hd];simp,by rw[hd];exact hcap,hm,hJ,by rw[hw];exact t7 hb n d' os,by rw[hsz1];simpa[putCells] using hcs,λi x hi=>?_⟩
     have hi':i<d'.size:=by
       have:=(List.getElem?_eq_some_iff.1 hi).1
       simpa using this
     have hx':d'[i]! =x:=by
       rw[getElem!_pos d' i hi']
       have:=List.getElem?_eq_some_iff.1 hi
       obtain⟨p1,p2⟩:=this
       simpa using p2
     refine⟨gW x,λq hq=>?_,⟨[.int .i64 x.1],[.int .i64 x.2],rfl,rfl,rfl⟩⟩
     have hq2:q<2:=hq
     have hl2:q<(gW x).length:=hq2
     rw[hsz1,qa (by rw[size_flatK];omega) (by rw[hcs];omega),tP hi' hq2,hx',List.getElem?_eq_getElem hl2,getElem!_pos (gW x) q hl2]
def l7(x y:Int×Int):Prop:=x.1<y.1\/(x.1=y.1/\x.2<y.2)
instance (x y:Int×Int):Decidable (l7 x y):=by unfold l7;infer_instance
def tf(x:Int×Int):List (Int×Int)->List (Int×Int)
 |[]=>[x]
 |y::t=>if l7 y x then y::tf x t else x::y::t
def jL(l:List (Int×Int)):List (Int×Int):=l.foldr tf []
theorem sN{x y z:Int×Int}(h:l7 x y)(h2:l7 y z):l7 x z:=by unfold l7 at*;omega
theorem mD{x:Int×Int}:¬l7 x x:=by unfold l7;omega
theorem AC{x y:Int×Int}(h:¬l7 x y)(h2:¬l7 y x):x=y:=by
 unfold l7 at*
 exact Prod.ext (by omega) (by omega)
theorem uw{x y z:Int×Int}(h:¬l7 y x)(h2:¬l7 z y):¬l7 z x:=by unfold l7 at*;omega
theorem lD(x:Int×Int):∀l,(tf x l).Perm (x::l)
 |[]=>List.Perm.refl _
 |y::t=>by
   unfold tf
   split
   · exact((lD x t).cons y).trans (List.Perm.swap x y t)
   · exact List.Perm.refl _
theorem gA:∀l,(jL l).Perm l
 |[]=>List.Perm.refl _
 |x::t=>(lD x (jL t)).trans ((gA t).cons x)
theorem lP(x:Int×Int):∀l,l.Pairwise (λa b=>¬l7 b a)->(tf x l).Pairwise λa b=>¬l7 b a
 |[],_=>by simp[tf]
 |y::t,h=>by
   obtain⟨h1,h2⟩:=List.pairwise_cons.1 h
   unfold tf
   split
   · rename_i c
     refine List.pairwise_cons.2 ⟨λz hz=>?_,lP x t h2⟩
     rcases List.mem_cons.1 ((lD x t).mem_iff.1 hz) with q|q
     · rw[q];exact λk=>mD (sN c k)
     · exact h1 z q
   · rename_i c
     refine List.pairwise_cons.2 ⟨λz hz=>?_,h⟩
     rcases List.mem_cons.1 hz with q|q
     · rw[q];exact c
     · exact uw c (h1 z q)
theorem gf:∀l,(jL l).Pairwise λa b=>¬l7 b a
 |[]=>.nil
 |x::t=>lP x _ (gf t)
theorem kA:∀(l m:List (Int×Int)),l.Perm m->l.Pairwise (λa b=>¬l7 b a)->m.Pairwise (λa b=>¬l7 b a)->l=m
 |[],m,hp,_,_=>(List.nil_perm.1 hp).symm▸rfl
 |x::t,[],hp,_,_=>absurd (List.perm_nil.1 hp) (by simp)
 |x::t,y::u,hp,h1,h2=>by
   obtain⟨a1,a2⟩:=List.pairwise_cons.1 h1
   obtain⟨b1,b2⟩:=List.pairwise_cons.1 h2
   have e:x=y:=by
     have hx:x∈y::u:=hp.mem_iff.1 (List.mem_cons_self ..)
     have hy:y∈x::t:=hp.mem_iff.2 (List.mem_cons_self ..)
     rcases List.mem_cons.1 hx with q|q
     · exact q
     · rcases List.mem_cons.1 hy with q2|q2
       · exact q2.symm
       · exact AC (b1 x q) (a1 y q2)
   subst e
   rw[kA t u (List.Perm.cons_inv hp) a2 b2]
theorem AK{l m:List (Int×Int)}(hp:m.Perm l)(hs:m.Pairwise λa b=>¬l7 b a):m=jL l:=
 kA m (jL l) (hp.trans (gA l).symm) hs (gf l)
end TL
/-
  TlSepS: split pairs, put in order.
  By an AI agent.
-/
set_option linter.all false
namespace TL
section
variable{l:List Int}{k:Nat}{g:bz}
theorem BN(x y:Int×Int):sG [eX x.1 y.1,eX x.2 y.2]=oz x y:=by
 unfold oz
 simp only[sG,zs]
structure rV(g:bz)(l:List (Int×Int))(D:List (Int×Int))(k n:Nat)(m:(Int×Int->Int)×List (Int×Int)):Prop where
 eq:m.2=eT l D k
 bd:∀q,0<=m.1 q/\m.1 q<=(n:Int)
variable{L D:List (Int×Int)}{n:Nat}{m m2:(Int×Int->Int)×List (Int×Int)}
theorem rV.next(h:rV g L D k n m)(hk:(k:Int)<(L.length:Int)){p:Int×Int}(hp:p=gI L (k:Int))(e1:m2.1=λq=>if q=p then m.1 p+1 else m.1 q)(e2:m2.2=j7 m.2 p):rV g L D (k+1) (n+1) m2:=by
 subst hp
 refine⟨by rw[e2];exact iU h.eq hk,λq=>?_⟩
 rw[e1]
 show 0<=(if q=_ then _ else _)/\(if q=_ then _ else _)<=_
 have h1:=h.bd q
 have h2:=h.bd (gI L (k:Int))
 split<;>omega
def kB(g:bz):List (Int×Int):=jL ((gP g).filter λp=>eD g p.1 p.2)
def aW(g:bz):List (Int×Int)×Int:=if aX g then if bY g=true then(kB g,0) else([],7) else([],1)
theorem Aq{S:List (Int×Int)}(hn:S.Nodup)(hd:(gP g).Nodup)(h1:∀q∈S,q∈gP g)(h2:∀q∈gP g,q∈S):jL (S.filter λp=>eD g p.1 p.2)=kB g:=by
  have hp:S.Perm (gP g):=(List.perm_ext_iff_of_nodup hn hd).2 λq=>⟨h1 q,h2 q⟩
  exact kA _ _ ((gA _).trans ((hp.filter _).trans (gA _).symm)) (gf _) (gf _)
theorem AD{S:List (Int×Int)}{q:Int×Int}(h:eD g q.1 q.2=true):(S.filter λp=>eD g p.1 p.2)++[q]=(S++[q]).filter λp=>eD g p.1 p.2:=by
 rw[List.filter_append,List.filter_cons_of_pos (p:=λp:Int×Int=>eD g p.1 p.2) (a:=q) h];rfl
theorem Cb{S:List (Int×Int)}{q:Int×Int}(h:¬eD g q.1 q.2=true):(S.filter λp=>eD g p.1 p.2)=(S++[q]).filter λp=>eD g p.1 p.2:=by
 rw[List.filter_append,List.filter_cons_of_neg (p:=λp:Int×Int=>eD g p.1 p.2) (a:=q) h,List.filter_nil,List.append_nil]
theorem l9{l:List (Int×Int)}{D:List (Int×Int)}:∀k:Nat,(k:Int)<=(l.length:Int)->(eT l D k).length<=D.length+k
 |0,_=>by simp[eT]
 |k+1,h=>by
   have ih:=l9 (l:=l) (D:=D) k (by omega)
   rw[<-iU rfl (by omega)]
   unfold j7
   split
   · omega
   · rw[List.length_append];simp;omega
theorem lK{K:Type}{nb:Bool}{q:K}{D S:List K}(h:nb=true->q∈D/\q∉S/\S.length+1<=D.length)(hb:nb=true):S.length+1<=D.length:=(h hb).2.2
theorem rV.base(h:rV g (cJ g (g.1*g.1)) [] k k m)(h1:(k:Int)<=((cJ g (g.1*g.1)).length:Int))(hk:¬(k:Int)<((cJ g (g.1*g.1)).length:Int))(hm:aX g)(hN:2<g.1):rV g (g.2.map fZ) (eT (dK g) [] (dK g).length) 0 1048576 m:=by
 have e:k=(cJ g (g.1*g.1)).length:=by omega
 have hb:dK g=cJ g (g.1*g.1):=if_pos hN
 have hl:=nW (most:=g.1*g.1) hm
 refine⟨by rw[h.eq,hb,e];rfl,λq=>?_⟩
 have:=h.bd q
 omega
theorem rV.none(hN:¬2<g.1):rV g (g.2.map fZ) (eT (dK g) [] (dK g).length) 0 1048576 (λ_=>0,[]):=by
 have hb:dK g=[]:=if_neg hN
 exact⟨by rw[hb];rfl,λq=>⟨Int.le_refl _,by show(0:Int)<=_;omega⟩⟩
theorem rV.done(h:rV g (g.2.map fZ) (eT (dK g) [] (dK g).length) k n m)(h1:(k:Int)<=(g.2.length:Int))(hk:¬(k:Int)<(g.2.length:Int)):m.2=gP g:=by
 have e:k=g.2.length:=by omega
 rw[h.eq,e];rfl
theorem jn{l D:List (Int×Int)}(h:D.Nodup):∀k:Nat,(k:Int)<=(l.length:Int)->(eT l D k).Nodup
 |0,_=>by simpa[eT] using h
 |k+1,hk=>by
   have ih:=jn (l:=l) h k (by omega)
   rw[<-iU rfl (by omega)]
   unfold j7
   split
   · exact ih
   · rw[List.nodup_append]
     refine⟨ih,by simp,λa ha b hb=>?_⟩
     rw[List.mem_singleton.1 hb]
     intro e;rw[e] at ha;exact absurd ha (by assumption)
theorem lW:(gP g).Nodup:=jn (jn List.nodup_nil _ (Int.le_refl _)) _ (by rw[List.length_map];omega)
theorem vD(hm:aX g):((gP g).length:Int)<=1051648:=by
 have h1:=l9 (l:=g.2.map fZ) (D:=eT (dK g) [] (dK g).length) g.2.length (by rw[List.length_map];omega)
 have h2:=l9 (l:=dK g) (D:=[]) (dK g).length (Int.le_refl _)
 have h3:((dK g).length:Int)<=1048576:=by
   unfold dK
   split
   · exact nW hm
   · simp
 have h4:=hm.2.2.1
 have h5:(gP g).length=(eT (g.2.map fZ) (eT (dK g) [] (dK g).length) g.2.length).length:=rfl
 simp at h2
 omega
structure ou(g:bz)(D S l:List (Int×Int)):Prop where
  eq:l=S.filter λp=>eD g p.1 p.2
  nd:S.Nodup
  sub:∀q∈S,q∈D
variable{S ll:List (Int×Int)}{nb:Bool}{q:Int×Int}
theorem ou.start:ou g D [] []:=⟨rfl,List.nodup_nil,λq h=>absurd h List.not_mem_nil⟩
theorem ou.nd'(h:ou g D S ll)(hy:nb=true->q∈D/\q∉S/\S.length+1<=D.length)(hb:nb=true):(S++[q]).Nodup/\∀z∈S++[q],z∈D:=by
 refine⟨?_,λz hz=>?_⟩
 · rw[List.nodup_append]
   exact⟨h.nd,by simp,λa ha b hb'=>by rw[List.mem_singleton.1 hb'];intro e;exact(hy hb).2.1 (e▸ha)⟩
 · rcases List.mem_append.1 hz with hz|hz
   · exact h.sub z hz
   · rw[List.mem_singleton.1 hz];exact(hy hb).1
theorem ou.yes(h:ou g D S ll)(hy:nb=true->q∈D/\q∉S/\S.length+1<=D.length)(hb:nb=true)(hh:eD g q.1 q.2=true):ou g D (sc nb S q) (ll++[q]):=by
 rw[ni hb]
 exact⟨by rw[h.eq];exact AD hh,(h.nd' hy hb).1,(h.nd' hy hb).2⟩
theorem ou.no(h:ou g D S ll)(hy:nb=true->q∈D/\q∉S/\S.length+1<=D.length)(hb:nb=true)(hh:¬eD g q.1 q.2=true):ou g D (sc nb S q) ll:=by
 rw[ni hb]
 exact⟨by rw[h.eq];exact Cb hh,(h.nd' hy hb).1,(h.nd' hy hb).2⟩
theorem ou.len(h:ou g D S ll):ll.length<=S.length:=by rw[h.eq];exact List.length_filter_le _ _
theorem ou.done(h:ou g D S ll)(hD:D=gP g)(hz:nb=false->∀q∈D,q∈S)(hb:¬nb=true):jL ll=kB g:=by
 subst hD
 rw[h.eq]
 exact Aq h.nd lW h.sub (hz (by cases nb;rfl;exact absurd rfl hb))
theorem qn(h:(cC g).2=0):aX g:=by
 unfold cC at h
 by_cases c:aX g
 · exact c
 · rw[if_neg c] at h;exact absurd h (by decide)
theorem yo(h:¬(cC g).2=0):aW g=([],(cC g).2):=by
 unfold cC at h ⊢
 unfold aW
 by_cases c:aX g
 · rw[if_pos c] at h;exact absurd rfl h
 · rw[if_neg c,if_neg c]
theorem Bd(h:(cC g).2=0)(h2:¬(cC g).1=true):aW g=([],7):=by
 have hm:=qn h
 unfold cC at h2
 rw[if_pos hm] at h2
 unfold aW;rw[if_pos hm,if_neg h2]
theorem qb(h:(cC g).2=0)(h2:(cC g).1=true):aW g=(kB g,0):=by
 have hm:=qn h
 unfold cC at h2
 rw[if_pos hm] at h2
 unfold aW;rw[if_pos hm,if_pos h2]
end
end TL
/-
  TlSep4: classes of edges, seen from two nodes.
  By an AI agent.
-/
set_option linter.all false
namespace TL
section
variable{g:bz}{p:List Int}{u v x y q:Int}{k m i j:Nat}{l ls:List (List Int)}{at_:(Int->Int)×List Int}
def zm(g:bz)(u v:Int)(e:Int):Prop:=pX u v (gI g.2 e)
def j5(p:List Int)(g:bz)(u v:Int)(e:Int):Int:=gI p (dH u v (gI g.2 e))
theorem sg:∀(l:List (List Int)) (j:Nat) (x:Int),j<l.length->(l.set j (gI l (j:Int)++[x])).flatten.Perm (l.flatten++[x])
 |[],j,x,h=>by simp at h
 |a::l,0,x,_=>by
   simp only[List.set_cons_zero,List.flatten_cons]
   have:gI (a::l) ((0:Nat):Int)=a:=by simp[gI]
   rw[this]
   simp only[List.append_assoc]
   exact List.Perm.append_left a List.perm_append_comm
 |a::l,j+1,x,h=>by
   have h1:j<l.length:=by simpa using h
   have:=sg l j x h1
   have e:gI (a::l) ((j+1:Nat):Int)=gI l (j:Int):=by simp[gI]
   rw[e]
   simp only[List.set_cons_succ,List.flatten_cons,List.append_assoc]
   exact List.Perm.append_left a this
structure ml(p:List Int)(g:bz)(u v:Int)(k:Nat)(l:List (List Int))(at_:(Int->Int)×List Int):Prop where
  pm:l.flatten.Perm (bp k)
  ne:∀r∈l,0<r.length/\r.Pairwise (· < ·)
  hd:(l.map λr=>gI r 0).Pairwise (· < ·)
  al:∀i:Nat,i<k->zm g u v (i:Int)->[(i:Int)]∈l
  rg:∀q∈at_.2,(0<=at_.1 q/\at_.1 q<(l.length:Int))/\∀e∈gI l (at_.1 q),¬zm g u v e/\j5 p g u v e=q
  cm:∀i:Nat,i<k->¬zm g u v (i:Int)->j5 p g u v (i:Int)∈at_.2/\(i:Int)∈gI l (at_.1 (j5 p g u v (i:Int)))
  kd:∀r∈l,(∃e,r=[e]/\zm g u v e)\/∃q∈at_.2,r=gI l (at_.1 q)
theorem ml.lt(h:ml p g u v k l at_){r:List Int}(hr:r∈l){e:Int}(he:e∈r):0<=e/\e<(k:Int):=
 ch.1 (h.pm.mem_iff.1 (List.mem_flatten.2 ⟨r,hr,he⟩))
theorem ml.hds(h:ml p g u v k l at_):∀z∈l.map λr=>gI r 0,z<(k:Int):=λz hz=>by
 obtain⟨r,hr,rfl⟩:=List.mem_map.1 hz
 exact(h.lt hr (br (Int.le_refl 0) (by have:=(h.ne r hr).1;omega))).2
theorem kX{r:List Int}{i:Int}(h0:0<=i)(h1:i<(l.length:Int)):gI (l++[r]) i=gI l i:=by
 obtain⟨n,rfl⟩:∃n:Nat,i=(n:Int):=⟨i.toNat,by omega⟩
 have:n<l.length:=by omega
 simp[gI,List.getElem?_append_left this]
theorem tm{r:List Int}:gI (l++[r]) (l.length:Int)=r:=by simp[gI]
theorem Cf{r:List Int}{x:Int}(h:0<r.length):gI (r++[x]) 0=gI r 0:=by
 cases r with
 |nil=>simp at h
 |cons a r=>simp[gI]
theorem ml.start:ml p g u v 0 [] (λ_=>0,[]):=
 ⟨by simp[bp],λr h=>absurd h List.not_mem_nil,by simp,λi h=>by omega,λq h=>absurd h List.not_mem_nil,λi h=>by omega,λr h=>absurd h List.not_mem_nil⟩
theorem ml.pmn(h:ml p g u v k l at_):(l++[[(k:Int)]]).flatten.Perm (bp (k+1)):=by
 rw[List.flatten_append,cv]
 simpa using h.pm.append_right [(k:Int)]
theorem ml.hdn(h:ml p g u v k l at_):((l++[[(k:Int)]]).map λr=>gI r 0).Pairwise (· < ·):=by
 rw[List.map_append,List.pairwise_append]
 refine⟨h.hd,by simp,λa ha b hb=>?_⟩
 simp[gI] at hb
 rw[hb];exact h.hds a ha
theorem ml.nen(h:ml p g u v k l at_):∀r∈l++[[(k:Int)]],0<r.length/\r.Pairwise (· < ·):=λr hr=>by
 rcases List.mem_append.1 hr with hr|hr
 · exact h.ne r hr
 · rw[List.mem_singleton.1 hr];simp
theorem ml.alone(h:ml p g u v k l at_)(ha:zm g u v (k:Int)):ml p g u v (k+1) (l++[[(k:Int)]]) at_:=by
 refine⟨h.pmn,h.nen,h.hdn,λi hi hai=>?_,λq hq=>?_,λi hi hni=>?_,λr hr=>?_⟩
 · by_cases c:i=k
   · rw[c];simp
   · exact List.mem_append.2 (.inl (h.al i (by omega) hai))
 · obtain⟨⟨a,b⟩,c⟩:=h.rg q hq
   rw[kX a b]
   exact⟨⟨a,by rw[List.length_append];simp;omega⟩,c⟩
 · have hk:i<k:=by
     rcases Nat.lt_or_ge i k with z|z
     · exact z
     · exact absurd (by rw[show i=k by omega];exact ha) hni
   obtain⟨a,b⟩:=h.cm i hk hni
   obtain⟨⟨c,d⟩,_⟩:=h.rg _ a
   exact⟨a,by rw[kX c d];exact b⟩
 · rcases List.mem_append.1 hr with hr|hr
   · rcases h.kd r hr with z|⟨q,hq,e⟩
     · exact .inl z
     · exact .inr ⟨q,hq,by rw[kX (h.rg q hq).1.1 (h.rg q hq).1.2];exact e⟩
   · exact .inl ⟨(k:Int),List.mem_singleton.1 hr,ha⟩
theorem ml.new(h:ml p g u v k l at_)(ha:¬zm g u v (k:Int))(hin:¬j5 p g u v (k:Int)∈at_.2):ml p g u v (k+1) (l++[[(k:Int)]]) ((λq=>if q=j5 p g u v (k:Int) then(l.length:Int) else at_.1 q),at_.2++[j5 p g u v (k:Int)]):=by
 have hold:∀q∈at_.2,(if q=j5 p g u v (k:Int) then(l.length:Int) else at_.1 q)=at_.1 q:=λq hq=>if_neg (λe:q=j5 p g u v (k:Int)=>hin (by rw[<-e];exact hq))
 refine⟨h.pmn,h.nen,h.hdn,λi hi hai=>?_,λq hq=>?_,λi hi hni=>?_,λr hr=>?_⟩
 · by_cases c:i=k
   · rw[c];simp
   · exact List.mem_append.2 (.inl (h.al i (by omega) hai))
 · show(0<=(if q=_ then _ else _)/\(if q=_ then _ else _)<_)/\∀e∈gI _ (if q=_ then _ else _),_
   rcases List.mem_append.1 hq with hq|hq
   · rw[hold q hq]
     obtain⟨⟨a,b⟩,c⟩:=h.rg q hq
     rw[kX a b]
     exact⟨⟨a,by rw[List.length_append];simp;omega⟩,c⟩
   · have e:=List.mem_singleton.1 hq
     rw[if_pos e,tm]
     refine⟨⟨by omega,by rw[List.length_append];simp;omega⟩,λz hz=>?_⟩
     rw[List.mem_singleton.1 hz];exact⟨ha,e.symm⟩
 · show _/\_∈gI _ (if _=_ then _ else _)
   by_cases c:i=k
   · subst c
     rw[if_pos rfl,tm]
     exact⟨List.mem_append.2 (.inr (by simp)),by simp⟩
   · obtain⟨a,b⟩:=h.cm i (by omega) hni
     obtain⟨⟨c,d⟩,_⟩:=h.rg _ a
     rw[hold _ a,kX c d]
     exact⟨List.mem_append.2 (.inl a),b⟩
 · rcases List.mem_append.1 hr with hr|hr
   · rcases h.kd r hr with z|⟨q,hq,e⟩
     · exact .inl z
     · exact .inr ⟨q,List.mem_append.2 (.inl hq),by show r=gI _ (if q=_ then _ else _);rw[hold q hq,kX (h.rg q hq).1.1 (h.rg q hq).1.2];exact e⟩
   · exact .inr ⟨j5 p g u v (k:Int),List.mem_append.2 (.inr (by simp)),by show r=gI _ (if j5 p g u v (k:Int)=j5 p g u v (k:Int) then(l.length:Int) else _);rw[if_pos rfl,tm];exact List.mem_singleton.1 hr⟩
theorem ml.inj(h:ml p g u v k l at_){q q':Int}(hq:q∈at_.2)(hq':q'∈at_.2)(e:at_.1 q=at_.1 q'):q=q':=by
 obtain⟨⟨a,b⟩,c⟩:=h.rg q hq
 obtain⟨_,c'⟩:=h.rg q' hq'
 have hr:=br (xs:=l) a b
 have hz:=br (xs:=gI l (at_.1 q)) (i:=0) (Int.le_refl 0) (by have:=(h.ne _ hr).1;omega)
 have h1:=(c _ hz).2
 rw[e] at hz
 have h2:=(c' _ hz).2
 rw[e] at h1
 exact h1.symm.trans h2
theorem ml.old(h:ml p g u v k l at_)(ha:¬zm g u v (k:Int))(hin:j5 p g u v (k:Int)∈at_.2):ml p g u v (k+1) (l.set (at_.1 (j5 p g u v (k:Int))).toNat (gI l (at_.1 (j5 p g u v (k:Int)))++[(k:Int)])) at_:=by
 obtain⟨⟨a,b⟩,c⟩:=h.rg _ hin
 have hr:=br (xs:=l) a b
 have hgs:∀i,0<=i->gI (l.set (at_.1 (j5 p g u v (k:Int))).toNat (gI l (at_.1 (j5 p g u v (k:Int)))++[(k:Int)])) i=if i=at_.1 (j5 p g u v (k:Int)) then gI l (at_.1 (j5 p g u v (k:Int)))++[(k:Int)] else gI l i:=λi i0=>bT a b i0
 have hh:=(h.ne _ hr).1
 have hg0:gI (gI l (at_.1 (j5 p g u v (k:Int)))++[(k:Int)]) 0=gI (gI l (at_.1 (j5 p g u v (k:Int)))) 0:=by
   exact Cf hh
 refine⟨?_,λr hr'=>?_,?_,λi hi hai=>?_,λq hq=>?_,λi hi hni=>?_,λr hr'=>?_⟩
 · have h2:=sg l (at_.1 (j5 p g u v (k:Int))).toNat (k:Int) (by omega)
   rw[Int.toNat_of_nonneg a] at h2
   rw[cv]
   exact h2.trans (h.pm.append_right _)
 · rcases List.mem_or_eq_of_mem_set hr' with z|z
   · exact h.ne r z
   · rw[z]
     refine⟨by rw[List.length_append];simp,?_⟩
     rw[List.pairwise_append]
     exact⟨(h.ne _ hr).2,by simp,λx hx y hy=>by rw[List.mem_singleton.1 hy];exact(h.lt hr hx).2⟩
 · have e:(l.set (at_.1 (j5 p g u v (k:Int))).toNat (gI l (at_.1 (j5 p g u v (k:Int)))++[(k:Int)])).map (λr=>gI r 0)=l.map λr=>gI r 0:=by
     rw[List.map_set,hg0]
     refine List.ext_getElem (by simp) λn h1 h2=>?_
     rw[List.getElem_set]
     split
     · rename_i q
       have h3:n<l.length:=by simpa using h2
       have e2:gI l (at_.1 (j5 p g u v (k:Int)))=l[n]:=by
         rw[show at_.1 (j5 p g u v (k:Int))=(n:Int) by omega];simp[gI,h3]
       rw[e2,List.getElem_map]
     · rfl
   rw[e];exact h.hd
 · have hk:i<k:=by
     rcases Nat.lt_or_ge i k with z|z
     · exact z
     · exact absurd (by rw[show k=i by omega];exact hai) ha
   have hm:=h.al i hk hai
   obtain⟨n,hn,e⟩:=List.mem_iff_getElem.1 hm
   refine List.mem_iff_getElem.2 ⟨n,by rw[List.length_set];exact hn,?_⟩
   rw[List.getElem_set,if_neg]
   · exact e
   · intro q
     have e2:gI l (at_.1 (j5 p g u v (k:Int)))=l[n]:=by
       rw[show at_.1 (j5 p g u v (k:Int))=(n:Int) by omega];simp[gI,hn]
     rw[e2,e] at c
     exact(c (i:Int) (by simp)).1 hai
 · obtain⟨⟨a',b'⟩,c'⟩:=h.rg q hq
   refine⟨⟨a',by rw[List.length_set];exact b'⟩,λe he=>?_⟩
   rw[hgs _ a'] at he
   by_cases z:at_.1 q=at_.1 (j5 p g u v (k:Int))
   · rw[if_pos z] at he
     have hqq:=h.inj hq hin z
     rcases List.mem_append.1 he with he|he
     · rw[hqq];exact c e he
     · rw[List.mem_singleton.1 he];exact⟨ha,hqq.symm⟩
   · rw[if_neg z] at he;exact c' e he
 · by_cases ci:i=k
   · subst ci
     exact⟨hin,by rw[hgs _ a,if_pos rfl];simp⟩
   · obtain⟨a',b'⟩:=h.cm i (by omega) hni
     refine⟨a',?_⟩
     rw[hgs _ (h.rg _ a').1.1]
     split
     · rename_i z;rw[z] at b';exact List.mem_append.2 (.inl b')
     · exact b'
 · rcases List.mem_or_eq_of_mem_set hr' with z|z
   · rcases h.kd r z with y|⟨q,hq,e⟩
     · exact .inl y
     · by_cases y:at_.1 q=at_.1 (j5 p g u v (k:Int))
       · -- the row itself stands elsewhere in the list only if it is the same place
         exfalso
         obtain⟨n,hn,en⟩:=List.mem_iff_getElem.1 hr'
         rw[List.getElem_set] at en
         split at en
         · rename_i zz
           have:=congrArg List.length en
           rw[e,y,List.length_append] at this
           simp at this
         · rename_i zz
           have hn':n<l.length:=by simpa using hn
           have hnd:l.flatten.Nodup:=h.pm.nodup_iff.2 (fm _)
           have e2:gI l (at_.1 (j5 p g u v (k:Int)))=l[(at_.1 (j5 p g u v (k:Int))).toNat]'(by omega):=by
             have:(at_.1 (j5 p g u v (k:Int))).toNat<l.length:=by omega
             simp[gI,this]
           have hpw:=List.pairwise_iff_getElem.1 h.hd
           have e3:gI (l[n]) 0=gI (l[(at_.1 (j5 p g u v (k:Int))).toNat]'(by omega)) 0:=by rw[en,e,y,e2]
           rcases Nat.lt_trichotomy n (at_.1 (j5 p g u v (k:Int))).toNat with w|w|w
           · have:=hpw n _ (by simpa using hn') (by simp;omega) w
             simp only[List.getElem_map] at this
             omega
           · exact zz w.symm
           · have:=hpw _ n (by simp;omega) (by simpa using hn') w
             simp only[List.getElem_map] at this
             omega
       · exact .inr ⟨q,hq,by rw[hgs _ (h.rg q hq).1.1,if_neg y];exact e⟩
   · exact .inr ⟨_,hin,by rw[hgs _ a,if_pos rfl];exact z⟩
theorem mA(p:List Int)(g:bz)(u v:Int):∀k:Nat,ml p g u v k (jZ p g u v k).1 (jZ p g u v k).2
 |0=>ml.start
 |k+1=>by
   have h:=mA p g u v k
   rw[ic]
   unfold iW
   by_cases ha:pX u v (gI g.2 (k:Int))
   · rw[if_pos ha];exact h.alone ha
   · rw[if_neg ha]
     by_cases hin:gI p (dH u v (gI g.2 (k:Int)))∈(jZ p g u v k).2.2
     · rw[if_pos hin];exact h.old ha hin
     · rw[if_neg hin];exact h.new ha hin
end
end TL
/-
  TlSep5: pairs that separate are split pairs.
  By an AI agent.
-/
set_option linter.all false
namespace TL
section
variable{E:List (Int×Int)}{A:Int->Prop}{g:bz}{p:List Int}{u v x y q:Int}{k m i j:Nat}{l ls:List (List Int)}{at_:(Int->Int)×List Int}
theorem Js.exit(h:Js E A x y)(S:Int->Prop)(hx:S x)(hy:¬S y):∃e∈E,A e.1/\A e.2/\((S e.1/\¬S e.2)\/(S e.2/\¬S e.1)):=by
  induction h with
  |refl a=>exact absurd hx hy
  | @fw e k he a ih=>
    by_cases c:S e.1
    · exact⟨e,he,k.right,a,.inl ⟨c,hy⟩⟩
    · exact ih c
  | @bw e k he a ih=>
    by_cases c:S e.2
    · exact⟨e,he,a,k.right,.inr ⟨c,hy⟩⟩
    · exact ih c
theorem xI:∀{k:Nat} {i:Nat},i<k->(k:Int)<=(l.length:Int)->((gI l (i:Int)).length:Int)<=ss l k
 |0,i,h,_=>by omega
 |k+1,i,h,hk=>by
   rw[<-kx rfl (by omega)]
   by_cases c:i=k
   · rw[c];exact Int.le_max_right _ _
   · exact Int.le_trans (xI (by omega) (by omega)) (Int.le_max_left _ _)
theorem tX:∀{k:Nat},0<k->(k:Int)<=(l.length:Int)->∃i:Nat,i<k/\ss l k=((gI l (i:Int)).length:Int)
 |k+1,_,hk=>by
   rw[<-kx rfl (by omega)]
   by_cases c:k=0
   · subst c
     refine⟨0,by omega,?_⟩
     show max (0:Int) _=_
     exact Int.max_eq_right (by omega)
   · obtain⟨i,hi,e⟩:=tX (k:=k) (by omega) (by omega)
     rw[e]
     by_cases z:((gI l (i:Int)).length:Int)<=((gI l (k:Int)).length:Int)
     · exact⟨k,by omega,Int.max_eq_right z⟩
     · exact⟨i,by omega,Int.max_eq_left (by omega)⟩
theorem tQ:∀(l:List (List Int)) (i:Nat),i<l.length->(gI l (i:Int)).length<=l.flatten.length
 |[],i,h=>by simp at h
 |a::l,0,_=>by simp[gI]
 |a::l,i+1,h=>by
   have:=tQ l i (by simpa using h)
   have e:gI (a::l) ((i+1:Nat):Int)=gI l (i:Int):=by simp[gI]
   rw[e,List.flatten_cons,List.length_append];omega
theorem km:∀(l:List (List Int)) (i j:Nat),i<j->j<l.length->(gI l (i:Int)).length+(gI l (j:Int)).length<=l.flatten.length
 |[],i,j,_,h=>by simp at h
 |a::l,0,j+1,_,h=>by
   have:=tQ l j (by simpa using h)
   have e:gI (a::l) ((j+1:Nat):Int)=gI l (j:Int):=by simp[gI]
   have e0:gI (a::l) ((0:Nat):Int)=a:=by simp[gI]
   rw[e,e0,List.flatten_cons,List.length_append];omega
 |a::l,i+1,j+1,h1,h=>by
   have:=km l i j (by omega) (by simpa using h)
   have e:gI (a::l) ((j+1:Nat):Int)=gI l (j:Int):=by simp[gI]
   have e0:gI (a::l) ((i+1:Nat):Int)=gI l (i:Int):=by simp[gI]
   rw[e,e0,List.flatten_cons,List.length_append];omega
theorem vU{i j:Int}(i0:0<=i)(i1:i<(l.length:Int))(j0:0<=j)(j1:j<(l.length:Int))(h:i≠j):(gI l i).length+(gI l j).length<=l.flatten.length:=by
 rcases Int.lt_or_gt_of_ne h with c|c
 · have:=km l i.toNat j.toNat (by omega) (by omega)
   rwa[Int.toNat_of_nonneg i0,Int.toNat_of_nonneg j0] at this
 · have:=km l j.toNat i.toNat (by omega) (by omega)
   rw[Int.toNat_of_nonneg i0,Int.toNat_of_nonneg j0] at this
   omega
def pE(g:bz)(u v:Int):List Int:=(bt (lz g u v)).1
theorem mB{e:Int×Int}:e∈(lz g u v).2↔e∈g.2/\e.1∉[u,v]/\e.2∉[u,v]:=by
 unfold lz j6
 rw[List.take_length]
 show e∈g.2.filter (ow u v)↔_
 rw[List.mem_filter]
 unfold ow
 rw[decide_eq_true_eq]
 simp only[List.mem_cons,List.not_mem_nil,or_false,not_or]
 exact⟨λ⟨a,b,c,d,f⟩=>⟨a,⟨b,c⟩,d,f⟩,λ⟨a,⟨b,c⟩,d,f⟩=>⟨a,b,c,d,f⟩⟩
theorem C5(hx:x∉[u,v]):Js (lz g u v).2 (λ_=>True) x y↔Js g.2 (λz=>z∉[u,v]) x y:=by
 constructor
 · exact λh=>h.map (λ_=>hx) λe he _ _=>.edge (mB.1 he).1 (mB.1 he).2.1 (mB.1 he).2.2
 · exact λh=>h.map (λ_=>trivial) λe he a b=>.edge (mB.2 ⟨he,a,b⟩) trivial trivial
theorem pV(hm:aX g)(hx:0<=x/\x<g.1)(hy:0<=y/\y<g.1)(nx:x∉[u,v]):gI (pE g u v) x=gI (pE g u v) y↔Js g.2 (λz=>z∉[u,v]) x y:=by
 have hmi:=rm (u:=u) (v:=v) hm
 have hP:=i7 (gone:=[]) (cut:=[]) hmi
 obtain⟨l,hi⟩:=dJ (gone:=[]) (cut:=[]) hmi
 have hdx:fI (lz g u v) x:=hx
 have hdy:fI (lz g u v) y:=hy
 have hall:=hi.all x.toNat (by show x.toNat<g.1.toNat;omega) (by show(x.toNat:Int)<g.1;omega) (by simp[gI])
 rw[Int.toNat_of_nonneg hx.1] at hall
 have h0:=(hi.iff x hdx).2 hall
 have h1:=hi.lab x y hdx hdy h0
 have e1:pE g u v=(aU (lz g u v) [] []).1:=(qF hmi).1
 rw[e1,h1,uB hmi hdx (by simp[gI]),<-C5 nx]
 constructor
 · exact λh=>h.map (λ_=>trivial) λe he _ _=>.edge he trivial trivial
 · exact λh=>h.map (λ_=>by simp[gI]) λe he _ _=>.edge he (by simp[gI]) (by simp[gI])
theorem sX(hm:aX g){e:Int}(e0:0<=e)(e1:e<(g.2.length:Int)):0<=dH u v (gI g.2 e)/\dH u v (gI g.2 e)<g.1:=by
 obtain⟨o1,o2⟩:=hm.2.2.2 _ (br (xs:=g.2) (i:=e) e0 e1)
 unfold dH
 split
 · exact o2
 · exact o1
theorem qc{e:Int}(h:¬zm g u v e):dH u v (gI g.2 e)∉[u,v]:=λq=>h (by
 simp only[List.mem_cons,List.not_mem_nil,or_false] at q
 exact .inr q)
end
end TL
/-
  TlSep6: SepaPairs.
  By an AI agent.
-/
set_option linter.all false
namespace TL
section
variable{g:bz}{p:List Int}{u v x y q n:Int}{k m i j:Nat}{L:List (List Int)}{seen:List Bool}
theorem C8(h:i<L.length):gI L (i:Int)=L[i]:=by simp[gI,h]
theorem Cr(hb:bY g=true):∀e∈g.2,¬e.1=e.2:=by
 unfold bY at hb
 exact(of_decide_eq_true hb).2.1
theorem zq{e:Int×Int}{a b:Int}(hab:a<b)(h1:e.1=a\/e.1=b)(h2:e.2=a\/e.2=b)(hn:¬e.1=e.2):fZ e=(a,b):=by
 unfold fZ
 refine Prod.ext ?_ ?_
 · show min e.1 e.2=a;omega
 · show max e.1 e.2=b;omega
theorem rX(hm:aX g)(h2:L2 g):dK g=d3 g:=by
 have ht:=(jE hm).2 h2
 unfold dK
 rw[if_pos h2.1,qO hm (by have:=h2.1;omega),kZ hm ht]
theorem lI{l D:List (Int×Int)}{z:Int×Int}:∀k:Nat,(k:Int)<=(l.length:Int)->(z∈eT l D k↔z∈D\/z∈l.take k)
 |0,_=>by simp[eT]
 |k+1,h=>by
   have ih:=lI (l:=l) (D:=D) (z:=z) k (by omega)
   rw[<-iU rfl (by omega),bC (by omega),List.mem_append,List.mem_singleton]
   unfold j7
   split
   · rw[ih]
     rename_i c
     constructor
     · rintro(w|w)
       · exact .inl w
       · exact .inr (.inl w)
     · rintro(w|w|w)
       · exact .inl w
       · exact .inr w
       · exact ih.1 (by rw[w];exact c)
   · rw[List.mem_append,List.mem_singleton,ih,or_assoc]
theorem lj{z:Int×Int}:z∈gP g↔z∈dK g\/z∈g.2.map fZ:=by
 unfold gP
 rw[lI _ (by rw[List.length_map];omega),lI _ (Int.le_refl _),List.take_length,List.take_of_length_le (by rw[List.length_map];omega)]
 simp
theorem oE(n:Nat):(bp n).Pairwise (· < ·):=by
 unfold bp
 rw[List.pairwise_map]
 exact(List.pairwise_lt_range).imp λh=>by omega
variable{s l:List (Int×Int)}{a:Nat}
theorem t8(hm:aX g):(bc g).2=0/\(((aW g).2=0->bY g=true/\(aW g).1=kB g)/\(¬(aW g).2=0->((aW g).1.length:Int)=0))/\((b6 g).2=0->L2 g/\(b6 g).1=d3 g)/\(¬(b6 g).2=0->(bc g).1<2):=by
  have e1:bc g=(eK g,0):=by unfold bc;rw[if_pos hm]
  refine⟨by rw[e1],⟨λh=>?_,λh=>?_⟩,λh=>?_,λh=>?_⟩
  · unfold aW at h ⊢
    rw[if_pos hm] at h ⊢
    by_cases c:bY g=true
    · rw[if_pos c];exact⟨c,rfl⟩
    · rw[if_neg c] at h;exact absurd (show(7:Int)=0 from h) (by decide)
  · unfold aW at h ⊢
    rw[if_pos hm] at h ⊢
    by_cases c:bY g=true
    · rw[if_pos c] at h;exact absurd rfl h
    · rw[if_neg c];rfl
  · have h2:fx g=true:=Classical.byContradiction λq=>by rw[uE hm q] at h;exact absurd (show(7:Int)=0 from h) (by decide)
    have hL:=(jE hm).1 h2
    refine⟨hL,?_⟩
    rw[k8 hm h2]
    show cJ g (g.1*g.1)=_
    rw[qO hm (by have:=hL.1;omega),kZ hm h2]
  · rw[e1]
    show eK g<2
    rcases gC hm with⟨q,_⟩|⟨_,q,_⟩|⟨_,_,e⟩|⟨_,e⟩
    · exact absurd (by rw[k8 hm ((jE hm).2 q.1)]) h
    · exact absurd (by rw[k8 hm ((jE hm).2 q)]) h
    · rw[e];decide
    · rw[e];decide
end
end TL
/-
  TlSep7: levels, pairs and split pairs by the document.
  By an AI agent.
-/
set_option linter.all false
namespace TL
section
variable{E:List (Int×Int)}{A:Int->Prop}{g:bz}{p:List Int}{u v x y w q n:Int}{k m i j:Nat}{L:List (List Int)}
theorem B8(h:Wy g A x y):Js g.2 A x y:=by
 induction h with
 |refl a=>exact .refl a
 | @step h p q r ih=>
   have h0:=q.1
   have h1:=q.2
   have hmem:=br (xs:=g.2) (i:=h/2) (by omega) (by omega)
   rcases jg (g:=g) h0 with⟨a,b⟩|⟨a,b⟩
   · rw[a] at ih;rw[b] at r ⊢;exact .fw ih hmem r
   · rw[a] at ih;rw[b] at r ⊢;exact .bw ih hmem r
theorem oX{h:Int}(hh:hf g h):mn g (h/2) (aA g h):=by
 have h0:=hh.1
 have h1:=hh.2
 have hm2:h%2=0\/h%2=1:=by omega
 rcases hm2 with c|c
 · refine⟨h+1,⟨by omega,by omega⟩,by omega,?_⟩
   unfold bg aA
   rw[show(h+1)/2=h/2 by omega,show(h+1)%2=1 by omega,c]
   simp[pI]
 · refine⟨h-1,⟨by omega,by omega⟩,by omega,?_⟩
   unfold bg aA
   rw[show(h-1)/2=h/2 by omega,show(h-1)%2=0 by omega,c]
   simp[pI]
theorem lH(hm:aX g)(hb:bY g=true)(hx:0<=x/\x<g.1):∃h,hf g h/\aA g h=x:=by
 unfold bY at hb
 have h3:=(of_decide_eq_true hb).2.2.1
 have ht:=jp hm hx.1 hx.2 g.2.length (Nat.le_refl _)
 refine ht.2 (Classical.byContradiction λq=>h3 ?_)
 have hmem:=br (xs:=e8 g g.2.length) (i:=x) hx.1 (by have:=ht.1;have:=hm.1;omega)
 rw[Bool.not_eq_true] at q
 rw[q] at hmem;exact hmem
theorem z6(hm:aX g)(hb:bY g=true)(w:Int):Cj g.2 g.1 (λz=>z≠w):=λx y x0 x1 y0 y1 hx hy=>by
 obtain⟨h,hh,ex⟩:=lH hm hb ⟨x0,x1⟩
 obtain⟨h',hh',ey⟩:=lH hm hb ⟨y0,y1⟩
 have hc:gm g=1:=by unfold bY at hb;exact(of_decide_eq_true hb).2.2.2
 have a0:=hh.1
 have a1:=hh.2
 have b0:=hh'.1
 have b1:=hh'.2
 have e1:=oX hh
 have e2:=oX hh'
 rw[ex] at e1
 rw[ey] at e2
 have ho:gI (fJ g) (h/2)=gI (fJ g) (h'/2):=by
   have r1:=iN g (i:=h/2) (by omega) (by omega)
   have r2:=iN g (i:=h'/2) (by omega) (by omega)
   omega
 rcases uJ ((nC hm (by omega) (by omega) (by omega) (by omega)).1 ho) with q|⟨_,_,q⟩
 · rw[<-q] at e2
   exact B8 (kC e1 e2 hx hy)
 · exact B8 (q w x y e1 e2 hx hy)
theorem yI(hm:aX g)(hb:bY g=true)(hN:2<g.1):L2 g:=by
 refine⟨hN,λx y x0 x1 y0 y1 _ _=>?_,λu _ _=>z6 hm hb u⟩
 obtain⟨z,z0,z1,hz⟩:=mQ (l:=[x,y]) (n:=g.1) (by simp;omega)
 simp only[List.mem_cons,List.not_mem_nil,or_false,not_or] at hz
 exact(z6 hm hb z x y x0 x1 y0 y1 (λq=>hz.1 q.symm) (λq=>hz.2 q.symm)).mono trivial (λ_ h=>h) λ_ _=>⟨λ_=>trivial,λ_=>trivial⟩
def fR(g:bz)(u:Int):List (Int×Int):=((bp g.1.toNat).filter λv=>decide (u<v)&&eD g u v).map λv=>(u,v)
def dQ(g:bz):List (Int×Int):=(bp g.1.toNat).flatMap (fR g)
theorem xO{z:Int×Int}:z∈dQ g↔(0<=z.1/\z.1<g.1)/\(0<=z.2/\z.2<g.1)/\z.1<z.2/\eD g z.1 z.2=true:=by
 unfold dQ fR
 rw[List.mem_flatMap]
 constructor
 · rintro⟨u,hu,hp⟩
   obtain⟨v,hv,rfl⟩:=List.mem_map.1 hp
   obtain⟨hv1,hv2⟩:=List.mem_filter.1 hv
   have h1:=ch.1 hu
   have h2:=ch.1 hv1
   simp only[Bool.and_eq_true,decide_eq_true_eq] at hv2
   exact⟨⟨h1.1,by show u<g.1;omega⟩,⟨h2.1,by show v<g.1;omega⟩,hv2.1,hv2.2⟩
 · rintro⟨⟨a,b⟩,⟨c,d⟩,e,f⟩
   refine⟨z.1,ch.2 ⟨a,by omega⟩,List.mem_map.2 ⟨z.2,List.mem_filter.2 ⟨ch.2 ⟨c,by omega⟩,?_⟩,rfl⟩⟩
   simp only[Bool.and_eq_true,decide_eq_true_eq]
   exact⟨e,f⟩
theorem qY(g:bz):(dQ g).Pairwise l7:=by
 unfold dQ
 rw[List.pairwise_flatMap]
 refine⟨λu _=>?_,?_⟩
 · unfold fR
   rw[List.pairwise_map]
   exact(List.Pairwise.filter _ (oE _)).imp λh=>.inr ⟨rfl,h⟩
 · refine(oE _).imp λ {a b} h=>?_
   intro x hx y hy
   unfold fR at hx hy
   obtain⟨_,_,rfl⟩:=List.mem_map.1 hx
   obtain⟨_,_,rfl⟩:=List.mem_map.1 hy
   exact .inl h
theorem Ci(hm:aX g)(hnl:∀e∈g.2,¬e.1=e.2)(hn:u<v)(hc:Cj g.2 g.1 (λz=>z∉[u,v]))(he:∀e∈g.2,fZ e≠(u,v)):¬eD g u v=true:=by
  intro hh
  unfold eD at hh
  rw[decide_eq_true_eq] at hh
  have hC:=mA (pE g u v) g u v g.2.length
  rw[show(jZ (pE g u v) g u v g.2.length).1=bE g u v from rfl] at hC
  have hal:∀i:Nat,i<g.2.length->¬zm g u v (i:Int):=λi hi hal=>by
    have hmi:=br (xs:=g.2) (i:=(i:Int)) (by omega) (by omega)
    have hni:=hnl _ hmi
    refine he _ hmi (zq hn ?_ ?_ hni)
    · rcases hal with z|z|z
      · exact absurd z hni
      · unfold dH at z;split at z
        · assumption
        · exact .inl z
      · unfold dH at z;split at z
        · assumption
        · exact .inr z
    · rcases hal with z|z|z
      · exact absurd z hni
      · unfold dH at z;split at z
        · exact .inl z
        · rename_i w;exact absurd (.inl z) w
      · unfold dH at z;split at z
        · exact .inr z
        · rename_i w;exact absurd (.inr z) w
  have hlab:∀i j:Nat,i<g.2.length->j<g.2.length->j5 (pE g u v) g u v (i:Int)=j5 (pE g u v) g u v (j:Int):=λi j hi hj=>by
    have r1:=sX (u:=u) (v:=v) hm (e:=(i:Int)) (by omega) (by omega)
    have r2:=sX (u:=u) (v:=v) hm (e:=(j:Int)) (by omega) (by omega)
    exact(pV hm r1 r2 (qc (hal i hi))).2 (hc _ _ r1.1 r1.2 r2.1 r2.2 (qc (hal i hi)) (qc (hal j hj)))
  obtain⟨hq,_⟩:=hC.cm 0 (by omega) (hal 0 (by omega))
  obtain⟨⟨t0,t1⟩,_⟩:=hC.rg _ hq
  generalize hX:(jZ (pE g u v) g u v g.2.length).2.1 (j5 (pE g u v) g u v ((0:Nat):Int))=X at*
  have hall:∀i:Nat,i<g.2.length->(i:Int)∈gI (bE g u v) X:=λi hi=>by
    have:=(hC.cm i hi (hal i hi)).2
    rw[hlab i 0 hi (by omega),hX] at this;exact this
  have hlen:=iL (bp g.2.length) (gI (bE g u v) X) (fm _) λz hz=>by
    have h2:=ch.1 hz
    have:=hall z.toNat (by omega)
    rwa[Int.toNat_of_nonneg h2.1] at this
  rw[eY] at hlen
  have hge:=xI (l:=bE g u v) (k:=(bE g u v).length) (i:=X.toNat) (by omega) (Int.le_refl _)
  rw[Int.toNat_of_nonneg t0] at hge
  omega
theorem Ab(hm:aX g)(hb:bY g=true):kB g=dQ g:=by
 have hN:2<=g.1:=by unfold bY at hb;exact(of_decide_eq_true hb).1
 have hnl:=Cr hb
 have hmem:∀z,z∈kB g↔z∈dQ g:=λz=>by
   have e1:z∈kB g↔z∈gP g/\eD g z.1 z.2=true:=by unfold kB;rw[(gA _).mem_iff,List.mem_filter]
   rw[e1,xO]
   constructor
   · rintro⟨hk,hh⟩
     rcases lj.1 hk with c|c
     · have hb2:2<g.1:=Classical.byContradiction λq=>by unfold dK at c;rw[if_neg q] at c;exact absurd c List.not_mem_nil
       rw[rX hm (yI hm hb hb2)] at c
       obtain⟨a,b,d,_⟩:=mE.1 c
       exact⟨a,b,d,hh⟩
     · obtain⟨e,he,rfl⟩:=List.mem_map.1 c
       obtain⟨o1,o2⟩:=hm.2.2.2 e he
       have:=hnl e he
       unfold fZ at hh ⊢
       exact⟨⟨by show 0<=min e.1 e.2;omega,by show min e.1 e.2<g.1;omega⟩,⟨by show 0<=max e.1 e.2;omega,by show max e.1 e.2<g.1;omega⟩,by show min e.1 e.2<max e.1 e.2;omega,hh⟩
   · rintro⟨a,b,c,hh⟩
     refine⟨Classical.byContradiction λhno=>?_,hh⟩
     have hno':z∉dK g/\z∉g.2.map fZ:=⟨λq=>hno (lj.2 (.inl q)),λq=>hno (lj.2 (.inr q))⟩
     have hedge:∀e∈g.2,fZ e≠(z.1,z.2):=λe he q=>hno'.2 (List.mem_map.2 ⟨e,he,q⟩)
     by_cases hN2:2<g.1
     · have hL:=yI hm hb hN2
       rw[rX hm hL] at hno'
       refine Ci hm hnl c ((gw hm (iG a b)).1 (Classical.byContradiction λq=>hno'.1 (mE.2 ⟨a,b,c,by omega⟩))) hedge hh
     · obtain⟨h,hh1,ex⟩:=lH hm hb (x:=0) ⟨by omega,by omega⟩
       have hme:=br (xs:=g.2) (i:=h/2) (by have:=hh1.1;omega) (by have:=hh1.1;have:=hh1.2;omega)
       obtain⟨o1,o2⟩:=hm.2.2.2 _ hme
       have hne:=hnl _ hme
       refine hedge _ hme ?_
       unfold fZ
       refine Prod.ext ?_ ?_
       · show min _ _=z.1;omega
       · show max _ _=z.2;omega
 have hn1:(kB g).Nodup:=(gA _).nodup_iff.2 (lW.sublist List.filter_sublist)
 have hn2:(dQ g).Nodup:=(qY g).imp λh e=>by subst e;exact mD h
 have hp:(kB g).Perm (dQ g):=(List.perm_ext_iff_of_nodup hn1 hn2).2 hmem
 exact kA _ _ hp (gf _) ((qY g).imp λ {a b} h q=>mD (sN h q))
def oB(L:List (List Int))(k:Nat):Int:=((L.take k).flatten.length:Int)
theorem vo{a:Int}(h:a=oB L k)(hk:(k:Int)<(L.length:Int)):a+((gI L (k:Int)).length:Int)=oB L (k+1):=by
 unfold oB at*
 rw[bC hk,List.flatten_append,List.length_append,h];simp
theorem iI(g:bz)(u v:Int):(bE g u v).flatten.length=g.2.length:=by
 have hC:=mA (pE g u v) g u v g.2.length
 rw[show(jZ (pE g u v) g u v g.2.length).1=bE g u v from rfl] at hC
 rw[hC.pm.length_eq,eY]
theorem qq(g:bz)(u v:Int):∀r∈bE g u v,0<r.length:=by
 have hC:=mA (pE g u v) g u v g.2.length
 rw[show(jZ (pE g u v) g u v g.2.length).1=bE g u v from rfl] at hC
 exact λr hr=>(hC.ne r hr).1
theorem xU{a:Int}(h:a=oB (bE g u v) k)(hk:¬(k:Int)<((bE g u v).length:Int)):a=(g.2.length:Int):=by
 rw[h];unfold oB
 rw[List.take_of_length_le (by omega),iI]
theorem AW:0<=oB (bE g u v) k/\oB (bE g u v) k<=(g.2.length:Int):=by
 unfold oB
 refine⟨by omega,?_⟩
 have h:=iI g u v
 have e:(bE g u v).flatten=((bE g u v).take k).flatten++((bE g u v).drop k).flatten:=by rw[<-List.flatten_append,List.take_append_drop]
 rw[e,List.length_append] at h
 omega
theorem D7(hi:(i:Int)<((bE g u v).length:Int))(h1:2<=((gI (bE g u v) (i:Int)).length:Int))(h2:2<=(g.2.length:Int)-((gI (bE g u v) (i:Int)).length:Int)):eD g u v=true:=by
 have hl:=iI g u v
 obtain⟨t,ht,et⟩:=tX (l:=bE g u v) (k:=(bE g u v).length) (by omega) (Int.le_refl _)
 unfold eD
 rw[decide_eq_true_eq]
 by_cases c:t=i
 · subst c;rw[et];omega
 · have:=vU (l:=bE g u v) (i:=(t:Int)) (j:=(i:Int)) (by omega) (by omega) (by omega) hi (by omega)
   rw[et];omega
theorem uc:∀l:List (List Int),(∀r∈l,r.length=1)->l.flatten.length=l.length
 |[],_=>rfl
 |a::l,h=>by
   rw[List.flatten_cons,List.length_append,h a (by simp),uc l λr hr=>h r (by simp[hr]),List.length_cons];omega
theorem tH:∀l:List (List Int),(∀r∈l,0<r.length)->l.flatten.length=l.length->∀r∈l,r.length=1
 |[],_,_=>λr hr=>absurd hr List.not_mem_nil
 |a::l,h,e=>by
   have hl:∀l:List (List Int),(∀r∈l,0<r.length)->l.length<=l.flatten.length:=λl=>by
     induction l with
     |nil=>intro _;simp
     |cons b l ih=>
       intro h
       have h1:=h b (by simp)
       have h2:=ih λr hr=>h r (by simp[hr])
       rw[List.flatten_cons,List.length_append,List.length_cons];omega
   have h1:=h a (by simp)
   have h2:=hl l λr hr=>h r (by simp[hr])
   rw[List.flatten_cons,List.length_append,List.length_cons] at e
   intro r hr
   rcases List.mem_cons.1 hr with q|q
   · rw[q];omega
   · exact tH l (λr hr=>h r (by simp[hr])) (by omega) r q
theorem D0(h4:4<=((bE g u v).length:Int))(he:((bE g u v).length:Int)=(g.2.length:Int)):eD g u v=true:=by
 have h1:=tH _ (qq g u v) (by rw[iI];omega)
 obtain⟨t,ht,et⟩:=tX (l:=bE g u v) (k:=(bE g u v).length) (by omega) (Int.le_refl _)
 have:=h1 _ (br (xs:=bE g u v) (i:=(t:Int)) (by omega) (by omega))
 unfold eD
 rw[decide_eq_true_eq,et]
 omega
theorem yZ(hno:∀i:Nat,i<(bE g u v).length->¬(2<=((gI (bE g u v) (i:Int)).length:Int)/\2<=(g.2.length:Int)-((gI (bE g u v) (i:Int)).length:Int)))(h4:¬(4<=((bE g u v).length:Int)/\((bE g u v).length:Int)=(g.2.length:Int))):¬eD g u v=true:=by
 intro hh
 unfold eD at hh
 rw[decide_eq_true_eq] at hh
 have hl:=iI g u v
 have hpos:0<(bE g u v).length:=Classical.byContradiction λq=>by
   have:bE g u v=[]:=List.length_eq_zero_iff.1 (by omega)
   rw[this] at hl;simp at hl;omega
 obtain⟨t,ht,et⟩:=tX (l:=bE g u v) (k:=(bE g u v).length) hpos (Int.le_refl _)
 have hn:=qq g u v
 by_cases c:ss (bE g u v) (bE g u v).length=1
 · have h1:∀r∈bE g u v,r.length=1:=λr hr=>by
     obtain⟨i,hi,rfl⟩:=List.mem_iff_getElem.1 hr
     have h2:=xI (l:=bE g u v) (k:=(bE g u v).length) (i:=i) hi (Int.le_refl _)
     have h3:=hn _ hr
     rw[C8 hi] at h2
     omega
   have:=uc _ h1
   omega
 · have h2:=hn _ (br (xs:=bE g u v) (i:=(t:Int)) (by omega) (by omega))
   exact hno t ht ⟨by omega,by omega⟩
theorem CD(hm:aX g)(h:g.1<2\/¬cV g []=1):eK g=0:=by
 have key:∀hL:L1 g,eK g=0:=λhL=>by
   exfalso
   have hN:=hL.1
   have h1:=(gw hm (l:=[]) (λv hv=>absurd hv List.not_mem_nil)).2 ((Cj.iff hm.2.2.2 λz _ _=>⟨λ_=>List.not_mem_nil,λ_=>trivial⟩).1 hL.2)
   have h2:=nE hm (l:=[]) (x:=0) (λv hv=>absurd hv List.not_mem_nil) (by omega) (by omega) List.not_mem_nil
   omega
 rcases gC hm with⟨q,_⟩|⟨_,q,_⟩|⟨_,q,_⟩|⟨_,e⟩
 · exact key ⟨by have:=q.1.1;omega,q.1.2.1⟩
 · exact key ⟨by have:=q.1;omega,q.2.1⟩
 · exact key q
 · exact e
theorem wD(hm:aX g)(h:cV g []=1):Cj g.2 g.1 (λ_=>True):=
 (Cj.iff hm.2.2.2 λz _ _=>⟨λ_=>List.not_mem_nil,λ_=>trivial⟩).2 ((gw hm (l:=[]) (λv hv=>absurd hv List.not_mem_nil)).1 (by omega))
theorem sW(hx:0<=x/\x<n):∀w∈[x],0<=w/\w<n:=λw hw=>by rw[List.mem_singleton.1 hw];exact hx
theorem yq(hm:aX g)(hx:0<=x/\x<g.1):cV g [x]<=1↔Cj g.2 g.1 (λz=>z≠x):=by
 rw[gw hm (sW hx)]
 exact Cj.iff hm.2.2.2 λz _ _=>by simp
theorem CF(hm:aX g)(hx:0<=x/\x<g.1)(hN:2<=g.1)(h:¬cV g [x]=1):¬Cj g.2 g.1 (λz=>z≠x):=λq=>by
 have h1:=(yq hm hx).2 q
 obtain⟨z,z0,z1,hz⟩:=mQ (l:=[x]) (n:=g.1) (by simp;omega)
 have:=nE hm (sW hx) z0 z1 hz
 omega
theorem CA(hm:aX g)(hN:¬g.1<2)(hc:cV g []=1)(h:g.1<3\/∃x,(0<=x/\x<g.1)/\¬cV g [x]=1):eK g=1:=by
 have hL1:L1 g:=⟨by omega,wD hm hc⟩
 have hn2:¬L2 g:=λq=>by
   rcases h with h|⟨x,hx,hne⟩
   · have:=q.1;omega
   · exact CF hm hx (by omega) hne (q.2.2 x hx.1 hx.2)
 rcases gC hm with⟨q,_⟩|⟨_,q,_⟩|⟨_,_,e⟩|⟨q,_⟩
 · exact absurd q.1 hn2
 · exact absurd q hn2
 · exact e
 · exact absurd hL1 q
theorem BU(hm:aX g)(hN:¬g.1<3)(hc:cV g []=1)(h:∀x:Nat,(x:Int)<g.1->cV g [(x:Int)]=1):L2 g:=by
 refine⟨by omega,wD hm hc,λu u0 u1=>(yq hm ⟨u0,u1⟩).1 ?_⟩
 have:=h u.toNat (by omega)
 rw[Int.toNat_of_nonneg u0] at this
 omega
theorem CE(hm:aX g)(hL:L2 g)(h:g.1<4\/∃x y,(0<=x/\x<y/\y<g.1)/\¬cV g [x,y]=1):eK g=2:=by
 have hn3:¬L3 g:=λq=>by
   rcases h with h|⟨x,y,⟨x0,xy,y1⟩,hne⟩
   · have:=q.2.1;omega
   · have h4:=q.2.1
     have h1:=(gw hm (iG (n:=g.1) ⟨x0,by omega⟩ ⟨by omega,y1⟩)).2 (q.2.2 x y x0 xy y1)
     obtain⟨z,z0,z1,hz⟩:=mQ (l:=[x,y]) (n:=g.1) (by simp;omega)
     have:=nE hm (iG (n:=g.1) ⟨x0,by omega⟩ ⟨by omega,y1⟩) z0 z1 hz
     omega
 rcases gC hm with⟨q,_⟩|⟨_,_,e⟩|⟨q,_⟩|⟨q,_⟩
 · exact absurd q hn3
 · exact e
 · exact absurd hL q
 · exact absurd ⟨by have:=hL.1;omega,hL.2.1⟩ q
theorem Dp(hm:aX g)(hL:L2 g)(hN:¬g.1<4)(h:∀x y,0<=x->x<y->y<g.1->cV g [x,y]=1):eK g=3:=by
 have h3:L3 g:=⟨hL,by omega,λu v u0 uv v1=>(gw hm (iG (n:=g.1) ⟨u0,by omega⟩ ⟨by omega,v1⟩)).1 (by have:=h u v u0 uv v1;omega)⟩
 rcases gC hm with⟨_,e⟩|⟨q,_⟩|⟨q,_⟩|⟨q,_⟩
 · exact e
 · exact absurd h3 q
 · exact absurd hL q
 · exact absurd ⟨by have:=hL.1;omega,hL.2.1⟩ q
end
end TL
/-
  TlSep8: the document's classes, rows of pairs.
  By an AI agent.
-/
set_option linter.all false
namespace TL
section
variable{g:bz}{p at1 at2:List Int}{u v x y w q n kk:Int}{k m i j:Nat}{l ls ls':List (List Int)}{L:List (Int×Int)}
def jv(g:bz)(u:Int)(k:Nat):List (Int×Int):=((bp k).filter λv=>decide (u<v)&&decide (1<cV g [u,v])).map λv=>(u,v)
def gQ(g:bz)(u:Int)(k:Nat):List (Int×Int):=((bp k).filter λv=>decide (u<v)&&eD g u v).map λv=>(u,v)
theorem qV{f:Int->Bool}:((bp (u+1).toNat).filter λv=>decide (u<v)&&f v)=[]:=by
 rw[List.filter_eq_nil_iff]
 intro z hz
 have:=ch.1 hz
 rw[decide_eq_false (by omega)];simp
theorem zC:jv g u (u+1).toNat=[]:=by unfold jv;rw[qV];rfl
theorem AR:gQ g u (u+1).toNat=[]:=by unfold gQ;rw[qV];rfl
theorem vQ(h0:0<=v)(h1:u<v)(h:1<cV g [u,v]):jv g u v.toNat++[(u,v)]=jv g u (v+1).toNat:=by
 unfold jv
 rw[show(v+1).toNat=v.toNat+1 by omega,cv,List.filter_append,List.filter_cons_of_pos (by rw[Int.toNat_of_nonneg h0];simp[h1,h]),List.map_append,Int.toNat_of_nonneg h0];rfl
theorem yY(h0:0<=v)(h:¬1<cV g [u,v]):jv g u v.toNat=jv g u (v+1).toNat:=by
 unfold jv
 rw[show(v+1).toNat=v.toNat+1 by omega,cv,List.filter_append,List.filter_cons_of_neg (by rw[Int.toNat_of_nonneg h0];simp[h]),List.filter_nil,List.append_nil]
theorem oV(h0:0<=v)(h1:u<v)(h:eD g u v=true):gQ g u v.toNat++[(u,v)]=gQ g u (v+1).toNat:=by
 unfold gQ
 rw[show(v+1).toNat=v.toNat+1 by omega,cv,List.filter_append,List.filter_cons_of_pos (by rw[Int.toNat_of_nonneg h0];simp[h1,h]),List.map_append,Int.toNat_of_nonneg h0];rfl
theorem n5(h0:0<=v)(h:¬eD g u v=true):gQ g u v.toNat=gQ g u (v+1).toNat:=by
 unfold gQ
 rw[show(v+1).toNat=v.toNat+1 by omega,cv,List.filter_append,List.filter_cons_of_neg (by rw[Int.toNat_of_nonneg h0];simp[h]),List.filter_nil,List.append_nil]
theorem pM{f:Int->Bool}:(((bp k).filter f).map λv=>(u,v)).length<=k:=by
 rw[List.length_map]
 have:=List.length_filter_le f (bp k)
 rw[eY] at this;exact this
theorem tl{f:Int->List (Int×Int)}{c:Nat}(h:∀x,(f x).length<=c):∀k:Nat,((bp k).flatMap f).length<=k*c
 |0=>by simp[bp]
 |k+1=>by
   have:=tl h k
   rw[cv,List.flatMap_append,List.length_append,List.flatMap_cons,List.flatMap_nil,List.append_nil,Nat.add_mul,Nat.one_mul]
   exact Nat.add_le_add this (h _)
theorem xG{f:Int->List (Int×Int)}:(bp k).flatMap f++f (k:Int)=(bp (k+1)).flatMap f:=by
 rw[cv,List.flatMap_append];simp
theorem wL{l:List Int}(hm:aX g):((mb g l).length:Int)=g.1:=by
 have:=hm.1
 have key:∀(l:List Int) (s:List Bool),(l.foldl (λs v=>s.set v.toNat true) s).length=s.length:=λl=>by
   induction l with
   |nil=>intro s;rfl
   |cons a l ih=>intro s;rw[List.foldl_cons,ih];simp
 unfold mb
 rw[key,List.length_replicate];omega
abbrev qU(g:bz)(u v:Int):List Bool:=((List.replicate (Int.toNat g.1) false).set (Int.toNat u) true).set (Int.toNat v) true
abbrev cD(g:bz)(u v:Int):List Int:=(aU g (qU g u v) []).1
abbrev nD(g:bz)(u v:Int):Int:=(aU g (qU g u v) []).2
theorem i6(hm:aX g)(hu:0<=u/\u<g.1)(hv:0<=v/\v<g.1)(hx:0<=x/\x<g.1):gI (qU g u v) x=true↔x∈[u,v]:=qt (l:=[u,v]) hm (iG hu hv) hx.1 hx.2
theorem mJ(hm:aX g)(hu:0<=u/\u<g.1)(hv:0<=v/\v<g.1)(hx:0<=x/\x<g.1)(nx:x∉[u,v]):0<=gI (cD g u v) x/\gI (cD g u v) x<nD g u v:=by
 obtain⟨l,hi⟩:=dJ (gone:=qU g u v) (cut:=[]) hm
 have h1:=hi.all x.toNat (by omega) (by omega) (by rw[Int.toNat_of_nonneg hx.1];exact λz=>nx ((i6 hm hu hv hx).1 z))
 rw[Int.toNat_of_nonneg hx.1] at h1
 exact⟨(hi.iff x hx).2 h1,hi.top x hx⟩
theorem xr(hm:aX g)(hu:0<=u/\u<g.1)(hv:0<=v/\v<g.1)(hx:0<=x/\x<g.1)(hy:0<=y/\y<g.1)(nx:x∉[u,v])(ny:y∉[u,v]):gI (cD g u v) x=gI (cD g u v) y↔gI (pE g u v) x=gI (pE g u v) y:=by
 obtain⟨l,hi⟩:=dJ (gone:=qU g u v) (cut:=[]) hm
 have h0:=(mJ hm hu hv hx nx).1
 have hgx:¬gI (qU g u v) x=true:=λz=>nx ((i6 hm hu hv hx).1 z)
 have h1:=hi.lab x y hx hy h0
 rw[pV hm hx hy nx]
 refine h1.trans ((uB hm hx hgx).trans ?_)
 have key:∀z,0<=z->z<g.1->(¬gI (qU g u v) z=true↔z∉[u,v]):=λz z0 z1=>not_congr (i6 hm hu hv ⟨z0,z1⟩)
 constructor
 · exact λh=>h.mono nx (λ_ q=>q) λe he=>⟨(key _ (hm.2.2.2 e he).1.1 (hm.2.2.2 e he).1.2).1,(key _ (hm.2.2.2 e he).2.1 (hm.2.2.2 e he).2.2).1⟩
 · exact λh=>h.mono hgx (λ_ q=>q) λe he=>⟨(key _ (hm.2.2.2 e he).1.1 (hm.2.2.2 e he).1.2).2,(key _ (hm.2.2.2 e he).2.1 (hm.2.2.2 e he).2.2).2⟩
structure nG(g:bz)(u v:Int)(k:Nat)(l:List (List Int))(at1:List Int):Prop where
 ln:(at1.length:Int)=nD g u v
 ex:∃s:(Int->Int)×List Int,jJ (pE g u v) g u v k l s/\∀w,(0<=w/\w<g.1)->w∉[u,v]->gI at1 (gI (cD g u v) w)=if gI (pE g u v) w∈s.2 then s.1 (gI (pE g u v) w)+1 else 0
theorem nG.start(hm:aX g)(hu:0<=u/\u<g.1)(hv:0<=v/\v<g.1)(hn:0<=nD g u v):nG g u v 0 [] (List.replicate (Int.toNat (nD g u v)) 0):=by
 refine⟨by rw[List.length_replicate];omega,(λ_=>0,[]),jJ.start,λw hw nw=>?_⟩
 obtain⟨a,b⟩:=mJ hm hu hv hw nw
 rw[fM a (by omega)];simp
theorem nG.len(h:nG g u v k l at1):l.length<=k:=by
 obtain⟨s,hs,_⟩:=h.ex;exact hs.len
theorem nG.alone(h:nG g u v k l at1)(hm:aX g)(hu:0<=u/\u<g.1)(hv:0<=v/\v<g.1)(hk:(k:Int)<(g.2.length:Int))(ha:(gI g.2 (k:Int)).1=(gI g.2 (k:Int)).2\/(gI (qU g u v) (gI g.2 (k:Int)).1=true/\gI (qU g u v) (gI g.2 (k:Int)).2=true)):nG g u v (k+1) (l++[[(k:Int)]]) at1:=by
 obtain⟨s,hs,hw⟩:=h.ex
 obtain⟨o1,o2⟩:=hm.2.2.2 _ (br (xs:=g.2) (i:=(k:Int)) (by omega) hk)
 refine⟨h.ln,s,hs.alone ?_,hw⟩
 rcases ha with a|⟨a,b⟩
 · exact .inl a
 · have a':=(i6 hm hu hv o1).1 a
   have b':=(i6 hm hu hv o2).1 b
   simp only[List.mem_cons,List.not_mem_nil,or_false] at a' b'
   refine .inr ?_
   unfold dH
   split
   · exact b'
   · rename_i z;exact absurd a' z
structure BG(g:bz)(u v:Int)(k:Nat)(kk:Int):Prop where
  na:¬zm g u v (k:Int)
  rg:0<=dH u v (gI g.2 (k:Int))/\dH u v (gI g.2 (k:Int))<g.1
  out:dH u v (gI g.2 (k:Int))∉[u,v]
  eq:kk=gI (cD g u v) (dH u v (gI g.2 (k:Int)))
  bd:0<=kk/\kk<nD g u v
theorem BG.of(hm:aX g)(hu:0<=u/\u<g.1)(hv:0<=v/\v<g.1)(hk:(k:Int)<(g.2.length:Int))(hne:¬(gI g.2 (k:Int)).1=(gI g.2 (k:Int)).2)
   (h:(¬gI (qU g u v) (gI g.2 (k:Int)).2=true/\kk=gI (cD g u v) (gI g.2 (k:Int)).2)\/(gI (qU g u v) (gI g.2 (k:Int)).2=true/\¬gI (qU g u v) (gI g.2 (k:Int)).1=true/\kk=gI (cD g u v) (gI g.2 (k:Int)).1)):BG g u v k kk:=by
 have hmem:=br (xs:=g.2) (i:=(k:Int)) (by omega) hk
 obtain⟨o1,o2⟩:=hm.2.2.2 _ hmem
 have k1:=i6 hm hu hv o1
 have k2:=i6 hm hu hv o2
 have m1:(gI g.2 (k:Int)).1∈[u,v]↔((gI g.2 (k:Int)).1=u\/(gI g.2 (k:Int)).1=v):=by simp
 have hout:dH u v (gI g.2 (k:Int))∉[u,v]/\kk=gI (cD g u v) (dH u v (gI g.2 (k:Int))):=by
   by_cases c:(gI g.2 (k:Int)).1∈[u,v]
   · rw[wG _ (m1.1 c)]
     rcases h with⟨a,b⟩|⟨a,b,_⟩
     · exact⟨λz=>a (k2.2 z),b⟩
     · exact absurd (k1.2 c) b
   · have ho:dH u v (gI g.2 (k:Int))=(gI g.2 (k:Int)).1:=if_neg (λz=>c (m1.2 z))
     rw[ho]
     refine⟨c,?_⟩
     rcases h with⟨a,b⟩|⟨_,_,b⟩
     · have n2:(gI g.2 (k:Int)).2∉[u,v]:=λz=>a (k2.2 z)
       rw[b,xr hm hu hv o2 o1 n2 c,pV hm o2 o1 n2]
       exact(Js.edge hmem c n2).symm
     · exact b
 have hrg:=sX (u:=u) (v:=v) hm (e:=(k:Int)) (by omega) hk
 refine⟨λhal=>?_,hrg,hout.1,hout.2,by rw[hout.2];exact mJ hm hu hv hrg hout.1⟩
 rcases hal with z|z|z
 · exact hne z
 · exact hout.1 (by rw[z];simp)
 · exact hout.1 (by rw[z];simp)
def CC(g:bz)(u v:Int)(k:Nat)(kk:Int):Prop:=(gI (qU g u v) (gI g.2 (k:Int)).1=true/\gI (qU g u v) (gI g.2 (k:Int)).2=true/\kk= -1)\/((0<=kk/\kk<nD g u v)/\((¬gI (qU g u v) (gI g.2 (k:Int)).2=true/\kk=gI (cD g u v) (gI g.2 (k:Int)).2)\/(gI (qU g u v) (gI g.2 (k:Int)).2=true/\¬gI (qU g u v) (gI g.2 (k:Int)).1=true/\kk=gI (cD g u v) (gI g.2 (k:Int)).1)))
theorem nG.pos(h:nG g u v k l at1)(hK:BG g u v k kk)(hz:¬gI at1 kk=0):0<=gI at1 kk-1/\gI at1 kk-1<(l.length:Int)/\((gI l (gI at1 kk-1)).length:Int)<=(k:Int):=by
 obtain⟨s,hs,hw⟩:=h.ex
 have e:=hw _ hK.rg hK.out
 rw[<-hK.eq] at e
 by_cases c:gI (pE g u v) (dH u v (gI g.2 (k:Int)))∈s.2
 · rw[if_pos c] at e
   obtain⟨a,b⟩:=hs.rg _ c
   have h3:=hs.sm _ (br (xs:=l) (i:=gI at1 kk-1) (by omega) (by omega))
   omega
 · rw[if_neg c] at e;exact absurd e hz
theorem nG.old(h:nG g u v k l at1)(hK:BG g u v k kk)(hz:¬gI at1 kk=0)(e:ls'=l.set (gI at1 kk-1).toNat (gI l (gI at1 kk-1)++[(k:Int)])):nG g u v (k+1) ls' at1:=by
 obtain⟨s,hs,hw⟩:=h.ex
 have e1:=hw _ hK.rg hK.out
 rw[<-hK.eq] at e1
 have c:gI (pE g u v) (dH u v (gI g.2 (k:Int)))∈s.2:=Classical.byContradiction λq=>by rw[if_neg q] at e1;exact hz e1
 rw[if_pos c] at e1
 refine⟨h.ln,s,hs.old hK.na c ?_,hw⟩
 rw[e,show gI at1 kk-1=s.1 (gI (pE g u v) (dH u v (gI g.2 (k:Int)))) by omega]
theorem nG.new(h:nG g u v k l at1)(hm:aX g)(hu:0<=u/\u<g.1)(hv:0<=v/\v<g.1)(hK:BG g u v k kk)(hz:gI at1 kk=0)(e2:at2=at1.set kk.toNat ((l.length:Int)+1))(e:ls'=(l++[[]]).set (gI at2 kk-1).toNat (gI (l++[[]]) (gI at2 kk-1)++[(k:Int)])):nG g u v (k+1) ls' at2:=by
 obtain⟨s,hs,hw⟩:=h.ex
 have hl:=h.ln
 have hb:=hK.bd
 have e1:=hw _ hK.rg hK.out
 rw[<-hK.eq,hz] at e1
 have c:¬gI (pE g u v) (dH u v (gI g.2 (k:Int)))∈s.2:=λq=>by
   rw[if_pos q] at e1
   have:=(hs.rg _ q).1
   omega
 have hg:∀i,0<=i->gI at2 i=if i=kk then(l.length:Int)+1 else gI at1 i:=λi i0=>by rw[e2];exact bT hb.1 (by omega) i0
 have hk1:gI at2 kk-1=(l.length:Int):=by rw[hg kk hb.1,if_pos rfl];omega
 rw[hk1,uD] at e
 refine⟨by rw[e2,List.length_set];exact hl,((λq=>if q=gI (pE g u v) (dH u v (gI g.2 (k:Int))) then(l.length:Int) else s.1 q),s.2++[gI (pE g u v) (dH u v (gI g.2 (k:Int)))]),hs.new hK.na c e rfl,λw hw' nw=>?_⟩
 have hcw:=mJ hm hu hv hw' nw
 rw[hg _ hcw.1]
 have hiff:=xr hm hu hv hw' hK.rg nw hK.out
 rw[<-hK.eq] at hiff
 show _=if gI (pE g u v) w∈s.2++[_] then(if gI (pE g u v) w=_ then(l.length:Int) else s.1 (gI (pE g u v) w))+1 else 0
 by_cases z:gI (cD g u v) w=kk
 · have z':=hiff.1 z
   rw[if_pos z,if_pos (List.mem_append.2 (.inr (by rw[z'];simp))),if_pos z']
 · have z':¬gI (pE g u v) w=gI (pE g u v) (dH u v (gI g.2 (k:Int))):=λy=>z (hiff.2 y)
   rw[if_neg z,hw w hw' nw]
   by_cases y:gI (pE g u v) w∈s.2
   · rw[if_pos y,if_pos (List.mem_append.2 (.inl y)),if_neg z']
   · rw[if_neg y,if_neg (λt=>by rcases List.mem_append.1 t with t|t;exact y t;exact z' (List.mem_singleton.1 t))]
theorem Bz(h0:0<=kk/\kk<n)(h1:(at1.length:Int)=n):gI (List.set at1 (Int.toNat kk) (List.length (l++[[]]):Int)) kk-1=(l.length:Int)/\((gI (l++[[]]) (gI (List.set at1 (Int.toNat kk) (List.length (l++[[]]):Int)) kk-1)).length:Int)=0:=by
 have e:gI (List.set at1 (Int.toNat kk) (List.length (l++[[]]):Int)) kk-1=(l.length:Int):=by
   rw[bT h0.1 (by omega) h0.1,if_pos rfl,List.length_append];simp
 rw[e];exact⟨rfl,by simp[gI]⟩
theorem uM:((List.length (l++[[]]):Nat):Int)=(l.length:Int)+1:=by rw[List.length_append];simp
theorem nG.done(h:nG g u v k l at1)(h0:(k:Int)<=(g.2.length:Int))(hk:¬(k:Int)<(g.2.length:Int)):l=bE g u v:=by
 obtain⟨s,hs,_⟩:=h.ex
 exact jJ.done hs h0 hk
theorem Af(h4:4<=((bE g u v).length:Int)):0<(gI (bE g u v) 0).length/\(gI (bE g u v) 0).length+(gI (bE g u v) 1).length<=g.2.length:=by
 refine⟨qq g u v _ (br (by omega) (by omega)),?_⟩
 rw[<-iI g u v]
 exact km _ 0 1 (by omega) (by omega)
theorem wP{x:Int}:((at1.set kk.toNat x).length:Int)=(at1.length:Int):=by rw[List.length_set]
end
end TL
/-
  TlSep9: SepaAll, plainly.
  By an AI agent.
-/
set_option linter.all false
namespace TL
section
variable{g:bz}{u v:Int}{k:Nat}
theorem wq:∀l:List (List Int),(∀r∈l,0<r.length)->l.length<=l.flatten.length
 |[],_=>by simp
 |r::l,h=>by
   have h1:=h r (by simp)
   have h2:=wq l λq hq=>h q (by simp[hq])
   rw[List.flatten_cons,List.length_append,List.length_cons];omega
theorem CK(h:¬aX g)(u v:Int):((bc g).1=0/\(bc g).2=1)/\(((b6 g).1.length:Int)=0/\(b6 g).2=1)/\(((aF g u v).1.length:Int)=0/\(aF g u v).2=1)/\(((aW g).1.length:Int)=0/\(aW g).2=1):=by
 have e4:aW g=([],1):=by unfold aW;rw[if_neg h]
 rw[sD h,sL h,sQ h,e4]
 exact⟨⟨rfl,rfl⟩,⟨rfl,rfl⟩,⟨rfl,rfl⟩,rfl,rfl⟩
theorem BL(hm:aX g):(bc g).2=0/\(bc g).1=eK g:=by
 have e1:bc g=(eK g,0):=by unfold bc;rw[if_pos hm]
 rw[e1];exact⟨rfl,rfl⟩
theorem BJ(hm:aX g)(h:¬eK g<2):fx g=true:=Classical.byContradiction λq=>by
 have:=(t8 hm).2.2.2
 unfold eK at h
 split at h
 · omega
 · omega
theorem Cp(hm:aX g)(h:eK g<2):(b6 g).2=7/\((b6 g).1.length:Int)=0:=by
 by_cases q:fx g=true
 · exfalso
   have e:=k8 hm q
   have h2:=(t8 hm).2.2.1 (by rw[e])
   rcases gC hm with⟨_,z⟩|⟨_,_,z⟩|⟨c,_,_⟩|⟨c,_⟩
   · omega
   · omega
   · exact c h2.1
   · exact c ⟨by have:=h2.1.1;omega,h2.1.2.1⟩
 · rw[uE hm q];exact⟨rfl,rfl⟩
theorem BP(hm:aX g)(h:¬eK g<2):(b6 g).2=0/\(b6 g).1=d3 g:=by
 have e:=k8 hm (BJ hm h)
 have h0:(b6 g).2=0:=by rw[e]
 exact⟨h0,((t8 hm).2.2.1 h0).2⟩
theorem nc(hm:aX g)(h:u<0\/v<0\/g.1<=u\/g.1<=v\/u=v):(aF g u v).2=2/\((aF g u v).1.length:Int)=0:=by
 rw[j8 hm (λq=>by obtain⟨⟨a,b⟩,⟨c,d⟩,e⟩:=q;rcases h with h|h|h|h|h<;>first|omega|exact e h)];exact⟨rfl,rfl⟩
theorem BW(hm:aX g)(h1:0<=u)(h2:0<=v)(h3:u<g.1)(h4:v<g.1)(h5:¬u=v):(aF g u v).2=0/\(aF g u v).1=bE g u v:=by
 rw[ta hm ⟨⟨h1,h3⟩,⟨h2,h4⟩,h5⟩];exact⟨rfl,rfl⟩
theorem Aw(g:bz)(u v:Int):(aF g u v).1.length<=g.2.length:=by
 have h:(bE g u v).length<=g.2.length:=by rw[<-iI g u v];exact wq _ (qq g u v)
 unfold aF
 split
 · split
   · exact h
   · exact Nat.zero_le _
 · exact Nat.zero_le _
theorem Cl(hm:aX g)(h:¬bY g=true):(aW g).2=7/\((aW g).1.length:Int)=0:=by
 have e:aW g=([],7):=by unfold aW;rw[if_pos hm,if_neg h]
 rw[e];exact⟨rfl,rfl⟩
theorem BS(hm:aX g)(h:bY g=true):(aW g).2=0/\(aW g).1=dQ g:=by
 have e:aW g=(kB g,0):=by unfold aW;rw[if_pos hm,if_pos h]
 rw[e];exact⟨rfl,Ab hm h⟩
end
end TL
/-
  TlSepM: nets that are well known.
  By an AI agent.
-/
set_option linter.all false
namespace TL
def lM(k:Nat):List (Int×Int):=(List.range k).map λ(i:Nat)=>((i:Int),(i:Int)+1)
def cz(n:Int):bz:=(n,lM (n-1).toNat++[(n-1,0)])
section
variable{n kk:Int}{i j k:Nat}{E:List (Int×Int)}
theorem mK:(lM k).length=k:=by simp[lM]
theorem ly(h:E=lM k):E++[((k:Int),(k:Int)+1)]=lM (k+1):=by
 rw[h];simp[lM,List.range_succ]
theorem nO(h:E=lM k)(h0:(k:Int)<=n-1)(hk:¬(k:Int)<n-1):(n,E++[(n-1,0)])=cz n:=by
 unfold cz;rw[h,show k=(n-1).toNat by omega]
def iE(i j:Nat):List (Int×Int):=(List.range j).map λ(q:Nat)=>((i:Int),(i:Int)+1+(q:Int))
def fT(n:Int)(i:Nat):List (Int×Int):=(List.range i).flatMap λa=>iE a (n-1-(a:Int)).toNat
def fk(n:Int):bz:=(n,fT n n.toNat)
theorem jo(hn:n<=20):∀i:Nat,(fT n i).length<=i*20
 |0=>by simp[fT]
 |i+1=>by
   have h1:=jo hn i
   have e:fT n (i+1)=fT n i++iE i (n-1-(i:Int)).toNat:=by
     unfold fT
     rw[List.range_succ,List.flatMap_append,List.flatMap_cons,List.flatMap_nil,List.append_nil]
   have e2:(iE i (n-1-(i:Int)).toNat).length=(n-1-(i:Int)).toNat:=by simp only[iE,List.length_map,List.length_range]
   rw[e,List.length_append,e2]
   omega
theorem kS:fT n i=fT n i++iE i ((i:Int)+1-1-(i:Int)).toNat:=by
 rw[show((i:Int)+1-1-(i:Int)).toNat=0 by omega];simp[iE]
theorem nY(h:E=fT n i++iE i (kk-1-(i:Int)).toNat)(h1:(i:Int)+1<=kk):E++[((i:Int),kk)]=fT n i++iE i (kk+1-1-(i:Int)).toNat:=by
 rw[h,show(kk+1-1-(i:Int)).toNat=(kk-1-(i:Int)).toNat+1 by omega,List.append_assoc]
 congr 1
 simp only[iE,List.range_succ,List.map_append,List.map_cons,List.map_nil]
 congr 2
 refine congrArg (λz=>((i:Int),z)) ?_
 omega
theorem pR(h:E=fT n i++iE i (kk-1-(i:Int)).toNat)(h1:kk<=n)(h2:¬kk<n):E=fT n (i+1):=by
 rw[h,show kk=n by omega]
 unfold fT
 rw[List.range_succ,List.flatMap_append]
 simp
theorem pZ(hn:n<=20)(hi:(i:Int)<n)(h:E=fT n i++iE i (kk-1-(i:Int)).toNat)(h1:kk<=n):E.length<=1000:=by
 have h3:=jo hn i
 have e2:(iE i (kk-1-(i:Int)).toNat).length=(kk-1-(i:Int)).toNat:=by simp only[iE,List.length_map,List.length_range]
 rw[h,List.length_append,e2]
 omega
theorem mS(h:E=fT n i)(h0:(i:Int)<=n)(hi:¬(i:Int)<n):(n,E)=fk n:=by
 unfold fk;rw[h,show i=n.toNat by omega]
theorem CS(h0:1<=n)(h1:n<=20):0<=n*(n-1)/\n*(n-1)<=400:=⟨Int.mul_nonneg (by omega) (by omega),Int.le_trans (Int.mul_le_mul_of_nonneg_right h1 (by omega)) (by omega)⟩
end
end TL
/-
  TlSepB: what layer 15 answers of two nets.
  By an AI agent.
-/
set_option linter.all false
namespace TL
theorem Bl:bc (fk 4)=(3,0):=by decide+kernel
theorem wZ:b6 (cz 4)=([(0,2),(1,3)],0):=by decide+kernel
theorem B5:((aF (cz 4) 0 2).1.length:Int)=2/\(aF (cz 4) 0 2).2=0:=by decide+kernel
theorem Bj:((aW (cz 4)).1.length:Int)=2/\(aW (cz 4)).2=0:=by decide+kernel
theorem zF:(bc (fk 4)).1=3/\(bc (fk 4)).2=0/\((b6 (cz 4)).1.length:Int)=2/\gI (b6 (cz 4)).1 1=(1,3)/\(b6 (cz 4)).2=0/\((aF (cz 4) 0 2).1.length:Int)=2/\(aF (cz 4) 0 2).2=0/\((aW (cz 4)).1.length:Int)=2/\(aW (cz 4)).2=0:=
 ⟨by rw[Bl],by rw[Bl],by rw[wZ];rfl,by rw[wZ];rfl,by rw[wZ],B5.1,B5.2,Bj.1,Bj.2⟩
end TL
/-
  TlNil: a list that is none, compared.
  By an AI agent.
-/
set_option linter.all false
namespace TL
open Go
section
variable{P:Program}{w:World}{t t':TypeId}{f:Fr}{x y:Operand}{dst:Option Tmp}{ty:TypeId}{pos:String}{after:Array Edge}{g:Option (Nat×Bool)}
end
theorem l8{α:Type}[Rp α]{γ:aG}{J S:cH->Prop}{w:World}{v:Value}{xs:List α}{hi:Nat}(h:Ow γ J S w v xs)(h2:hi<=xs.length):Ow γ J S w (dq v (Rp.sz α) 0 hi) (xs.take hi):=by
  rcases h with⟨rfl,rfl⟩|⟨b,cap,c,e,rfl,hc,hm,hJ,hb,hcs,hx⟩
  · simp only[List.length_nil] at h2
    have:hi=0:=by omega
    subst this
    exact .inl ⟨rfl,rfl⟩
  · have hl:(xs.take hi).length=hi:=by simp;omega
    refine .inr ⟨b,cap,c,e,?_,⟨by omega,by omega⟩,hm,hJ,hb,hcs,λi x hi'=>hx i x ?_⟩
    · rw[oO]
      simp only[hl]
    · rw[List.getElem?_take] at hi'
      split at hi'
      · exact hi'
      · cases hi'
end TL
/-
  TlKru: edges of the ib weight that join all that is joined (package path's Least): Kruskal's way by labels, and a forest of parents that agrees with the labels.
  By an AI agent.
-/
set_option linter.all false
namespace TL
def wB(ws:List Nat)(i:Int):Pl:=(zf (gI ws i),i)
def qy(ws:List Nat)(i k:Int):Prop:=rr (wB ws i) (wB ws k)
instance (ws:List Nat)(i k:Int):Decidable (qy ws i k):=by unfold qy;infer_instance
theorem o9(ws:List Nat)(i:Int):¬qy ws i i:=sw _
theorem BV{ws:List Nat}{i j k:Int}(h:qy ws i j)(h2:qy ws j k):qy ws i k:=by unfold qy rr wB at*;omega
theorem Ar{ws:List Nat}{i j:Int}(h:¬qy ws i j)(h2:¬qy ws j i):i=j:=by
 have:=zH h h2
 exact congrArg Prod.snd this
theorem BE{ws:List Nat}{i j:Int}(h:qy ws i j):¬qy ws j i:=BB h
def pY(ws:List Nat)(x:Int):List Int->List Int
 |[]=>[x]
 |y::l=>if qy ws x y then x::y::l else y::pY ws x l
def fa(ws:List Nat):List Int:=(bp ws.length).foldr (pY ws) []
def sO(ws:List Nat)(l:List Int):Prop:=l.Pairwise λx y=>¬qy ws y x
theorem kQ(ws:List Nat)(x:Int):∀l,(pY ws x l).Perm (x::l)
 |[]=>List.Perm.refl _
 |y::l=>by
   unfold pY;split
   · exact List.Perm.refl _
   · exact((kQ ws x l).cons y).trans (List.Perm.swap x y l)
theorem rT{ws:List Nat}{x:Int}:∀{l},sO ws l->sO ws (pY ws x l)
 |[],_=>by unfold pY sO;simp
 |y::l,h=>by
   unfold sO at h ⊢
   obtain⟨h1,h2⟩:=List.pairwise_cons.1 h
   unfold pY;split
   · rename_i c
     refine List.pairwise_cons.2 ⟨λz hz=>?_,h⟩
     rcases List.mem_cons.1 hz with e|e
     · rw[e];exact BE c
     · intro k;exact h1 z e (BV k c)
   · rename_i c
     refine List.pairwise_cons.2 ⟨λz hz=>?_,rT h2⟩
     rcases List.mem_cons.1 ((kQ ws x l).mem_iff.1 hz) with e|e
     · rw[e];exact c
     · exact h1 z e
theorem mC(ws:List Nat):∀l:List Int,(l.foldr (pY ws) []).Perm l/\sO ws (l.foldr (pY ws) [])
 |[]=>⟨List.Perm.refl _,List.Pairwise.nil⟩
 |x::l=>⟨(kQ ws x _).trans ((mC ws l).1.cons x),rT (mC ws l).2⟩
theorem mX(ws:List Nat):(fa ws).Perm (bp ws.length):=(mC ws _).1
theorem At(ws:List Nat):sO ws (fa ws):=(mC ws _).2
theorem pW(ws:List Nat):(fa ws).length=ws.length:=by rw[(mX ws).length_eq,eY]
theorem tG{ws:List Nat}{i:Int}:i∈fa ws↔0<=i/\i<(ws.length:Int):=by rw[(mX ws).mem_iff,ch]
theorem v7(ws:List Nat):(fa ws).Nodup:=(mX ws).nodup_iff.2 (fm _)
-- by labels
def rG(c:List Int)(a b:Int):List Int:=c.map λx=>if x=b then a else x
def Ay(g:bz)(s:List Int×List Int)(i:Int):List Int×List Int:=
 if gI s.1 (gI g.2 i).1=gI s.1 (gI g.2 i).2 then s else(rG s.1 (gI s.1 (gI g.2 i).1) (gI s.1 (gI g.2 i).2),s.2++[i])
def me(g:bz)(l:List Int):List Int×List Int:=l.foldl (Ay g) (bp g.1.toNat,[])
theorem ry(g:bz)(l:List Int)(i:Int):me g (l++[i])=Ay g (me g l) i:=by unfold me;rw[List.foldl_append];rfl
theorem xS{c:List Int}{a b v:Int}(v0:0<=v)(v1:v<(c.length:Int)):gI (rG c a b) v=if gI c v=b then a else gI c v:=pB _ v0 v1
variable{n:Int}{of0 of c:List Int}{rho:Int->Nat}{v v0:Int}
end TL
namespace TL
variable{g:bz}{ws:List Nat}{of l:List Int}{k:Nat}
theorem uS{α:Type}[Inhabited α]{xs:List α}{k:Nat}(h:(k:Int)<xs.length):xs.take (k+1)=xs.take k++[gI xs (k:Int)]:=by
 have hk:k<xs.length:=by omega
 rw[List.take_succ_eq_append_getElem hk]
 simp[gI,hk]
end TL
namespace TL
end TL
namespace TL
end TL
