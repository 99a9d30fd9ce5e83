/- Plain texts of this claim, part 2. By an AI agent. -/
import Derived.Test.YtbpphaeianpdpaaPqTlP1
import Derived.Carry
import Derived.Deep.Slices
import Derived.Lib.SmallJoins
import Derived.RowKit
import Derived.Shelf.SlSortCmp.Whole1
import Derived.Shelf.Sort.Plain
/-
  TlOpen: arguments opened: what a law's reader says of a slice is what a walk wants of it.
  By an AI agent.
-/
namespace TL
open Go Go.Proofs Go.ChangeShapes Go.WideShapes Go.Joins Go.Deep
structure gF{H:Type}(f:DataW H->Nat):Prop where
 slice:∀l s:List (DataW H),l.length<=f (.slice l s)
 elem:∀l s:List (DataW H),∀d∈l,f d<=f (.slice l s)
 part:∀l:List (DataW H),∀d∈l,f d<=f (.agg l)
def jT(α:Type)[Rp α](P:Program)(t:TypeId):Prop:=
  ∀{H:Type} (enc:TypeId×Value->H) (w:World) (fuel:Nat) (cs:List Value) (x:DataW H×List MemPlace),DataW.trod enc P w 0 (λ_=>true) true fuel t cs=some x->∃y:α,Rp.rep c0 any w cs y
theorem jn{P:Program}{t:TypeId}(ht:P.underlying t=some (.int .i64)):jT Int P t:=by
 intro H enc w fuel cs x h
 obtain⟨n,rfl,_,_⟩:=DataW.trod_int ht h
 exact⟨n,rfl⟩
theorem ie{H:Type}{enc:TypeId×Value->H}{P:Program}{w:World}{base:Nat}{spare:Nat->Bool}{held:Bool}{t e:TypeId}{fuel:Nat}{cs:List Value}{x:DataW H×List MemPlace}(ht:P.underlying t=some (.array 2 e))(hce:P.cellsOf e=1)(hct:P.cellsOf t=2)
   (h:DataW.trod enc P w base spare held fuel t cs=some x):
   ∃v0 v1 y0 y1 n,cs=[v0,v1]/\x=(.agg [y0.1,y1.1],y0.2++y1.2)/\DataW.trod enc P w base spare held n e [v0]=some y0/\DataW.trod enc P w base spare held n e [v1]=some y1:=by
 cases fuel with
 |zero=>simp[DataW.trod] at h
 |succ n=>
   unfold DataW.trod at h
   rw[ht] at h
   have r2:List.range 2=[0,1]:=rfl
   simp only[hct] at h
   by_cases hl:cs.length=2
   · rw[if_pos hl] at h
     match cs,hl with
     |[v0,v1],_=>
       simp[r2,hce] at h
       cases h0:DataW.trod enc P w base spare held n e [v0] with
       |none=>simp[h0] at h
       |some y0=>
         cases h1:DataW.trod enc P w base spare held n e [v1] with
         |none=>simp[h0,h1] at h
         |some y1=>
           simp[h0,h1] at h
           exact⟨v0,v1,y0,y1,n,rfl,h.symm,h0,h1⟩
   · rw[if_neg hl] at h;cases h
theorem nk{P:Program}{t e:TypeId}(ht:P.underlying t=some (.array 2 e))(he:P.underlying e=some (.int .i64))(hce:P.cellsOf e=1)(hct:P.cellsOf t=2):jT (Int×Int) P t:=by
 intro H enc w fuel cs x h
 obtain⟨v0,v1,y0,y1,n,rfl,_,h0,h1⟩:=ie ht hce hct h
 obtain⟨a,ha⟩:=jn he enc w n [v0] y0 h0
 obtain⟨b,hb⟩:=jn he enc w n [v1] y1 h1
 exact⟨(a,b),[v0],[v1],rfl,ha,hb⟩
theorem fZ{α:Type}[Rp α][Inhabited α]{P:Program}{t e:TypeId}(ht:P.underlying t=some (.slice e))(hc:P.cellsOf e=Rp.sz α)(hz:0<Rp.sz α)(he:jT α P e)
    {H:Type}{enc:TypeId×Value->H}{w:World}{f:DataW H->Nat}(hf:gF f){fuel:Nat}{v:Value}{x:DataW H×List MemPlace}
    (hs:∀a len cap,v= .slice (some a) len cap->a.spot=none)(h:DataW.trod enc P w 0 (λ_=>true) true fuel t [v]=some x)(hb:f x.1<=1048576):∃xs:List α,Ro w v xs:=by
  rcases Deep.open_slice ht h with⟨h0,_⟩|⟨a,len,cap,m,n,D,Pl,h0,_,hlc,_,hm,rfl,hx⟩
  · obtain rfl:v= .slice none 0 0:=by simpa using h0
    exact⟨[],.inl ⟨⟨_,rfl⟩,rfl⟩⟩
  · obtain rfl:v= .slice (some a) len cap:=by simpa using h0
    have hsp:=hs a len cap rfl
    obtain⟨b,off,spot⟩:=a
    obtain rfl:spot=none:=hsp
    simp only[if_true] at hm
    subst hm
    obtain⟨Y,hY⟩:=Deep.choose_lt (α:=α) (n:=len) (p:=λi y=>∃cs,(∀j,j<Rp.sz α->w.cell? ⟨b,off+i*Rp.sz α+j,none⟩=cs[j]?)/\Rp.rep c0 any w cs y) (λi hi=>by
      obtain⟨cs',h1,h2⟩:=hx i (by omega)
      obtain⟨y,hy⟩:=he enc w n cs' _ h2
      refine⟨y,cs',λj hj=>?_,hy⟩
      obtain⟨_,hl,hcell⟩:=World.cells?_some h1
      have:=hcell j (by omega)
      rw[Deep.add_add,hc] at this
      rw[<-this]
      unfold Addr.add
      by_cases hij:i*Rp.sz α+j=0
      · rw[if_pos hij,Nat.add_assoc,hij];rfl
      · rw[if_neg hij,Nat.add_assoc])
    have hlen:((List.range len).map Y).length=len:=by simp
    have hbound:=Nat.le_trans (hf.slice _ _) hb
    refine⟨(List.range len).map Y,.inr ⟨b,off,m,by rw[hlen],⟨by omega,by simp at hbound;omega⟩,λi y hi=>?_⟩⟩
    have hil:i<len:=by
      have:=(List.getElem?_eq_some_iff.1 hi).1
      omega
    obtain rfl:Y i=y:=by simpa[hil] using hi
    obtain⟨cs,h1,h2⟩:=hY i hil
    refine⟨?_,trivial,cs,h1,h2⟩
    have h3:=h1 0 hz
    have h4:=Rp.len h2
    have h5:0<cs.length:=by omega
    rw[List.getElem?_eq_getElem h5] at h3
    by_cases hbl:b<w.heap.size
    · exact hbl
    · have:w.heap[b]? =none:=Array.getElem?_eq_none (by omega)
      simp[World.cell?,this] at h3
theorem eH{P:Program}{w:World}{base:Nat}{t e:TypeId}{v:Value}(ht:P.underlying t=some (.slice e))(h:Cell.okWide P w .any base t v):∀a len cap,v= .slice (some a) len cap->a.spot=none:=by
 rintro a len cap rfl
 simp only[Cell.okWide,Cell.ok,ht] at h
 exact h.2.2.2.1
theorem k9{α:Type}[Rp α][Inhabited α]{P:Program}{t e:TypeId}(ht:P.underlying t=some (.slice e))(hc:P.cellsOf e=Rp.sz α)(hz:0<Rp.sz α)(he:jT α P e)
    {H:Type}{enc:TypeId×Value->H}{w:World}{f:DataW H->Nat}(hf:gF f){base:Nat}{v:Value}{d:DataW H}{p:List MemPlace}
    (hval:Value.okWide P w .any base t v)(h:DataW.Trod enc P w 0 (λ_=>true) true t v d p)(hb:f d<=1048576):∃xs:List α,Ro w v xs:=by
  obtain⟨a,len,cap,rfl⟩:=okWide_slice ht hval
  obtain⟨fuel,hfu⟩:=h
  refine fZ ht hc hz he hf (eH (w:=w) (base:=base) ht ?_) (x:=(d,p)) hfu hb
  simpa[Value.okWide,ht] using hval
theorem m5{α:Type}[Rp α][Inhabited α]{P:Program}{t t0 t1 e:TypeId}{f0 f1:Field}(hs:P.underlying t=some (.struct #[f0,f1]))(hone:oneCellFields P #[f0,f1]=true)(hC:P.cellsOf t=2)(hts:P.cellTypes P.depth t=some [t0,t1])
    (h0:f0.type=t0)(h1:f1.type=t1)(hi:P.underlying t0=some (.int .i64))(ht:P.underlying t1=some (.slice e))(hc:P.cellsOf e=Rp.sz α)(hz:0<Rp.sz α)(he:jT α P e)
    {H:Type}{enc:TypeId×Value->H}{w:World}{f:DataW H->Nat}(hf:gF f){base:Nat}{v:Value}{d:DataW H}{p:List MemPlace}
    (hval:Value.okWide P w .any base t v)(h:DataW.Trod enc P w 0 (λ_=>true) true t v d p)(hb:f d<=1048576):∃(n:Int) (u:Value) (xs:List α),v= .agg #[.int .i64 n,u]/\Ro w u xs:=by
  obtain⟨v0,v1,y0,y1,n,rfl,rfl,rfl,r0,r1⟩:=open_agg2 hs hone hC hval h
  subst h0 h1
  obtain⟨k,hk,_,_⟩:=DataW.trod_int hi r0
  obtain rfl:v0= .int .i64 k:=by simpa using hk
  have hcell:Cell.okWide P w .any base f1.type v1:=by
    simp only[Value.okWide,hs] at hval
    obtain⟨cs,hcs,_,ts,h3,_,h4⟩:=hval
    rw[hts] at h3
    obtain rfl:=Option.some.inj h3
    obtain rfl: #[Value.int .i64 k,v1]=cs:=by simpa using hcs
    obtain⟨u,hu,hk⟩:=h4 1 v1 rfl
    simp at hu
    subst hu
    exact hk
  obtain⟨xs,hx⟩:=fZ ht hc hz he hf (eH ht hcell) (x:=y1) r1 (Nat.le_trans (hf.part _ _ (by simp)) hb)
  exact⟨k,v1,xs,rfl,hx⟩
end TL
/-
  TlCyc: lists gone round: what stands behind what; rotations turned, and moved.
  By an AI agent.
-/
set_option linter.all false
namespace TL
def pW(l:List Int)(h:Int):Int:=gI l ((((l.idxOf h:Nat):Int)+1)%(l.length:Int))
section
variable{g:aE}{r:lC}{to:List Int}
end
end TL
/-
  TlJudge4: directions around a point; a plot turned by a quarter; the example's rotation.
  By an AI agent.
-/
set_option linter.all false
namespace TL
section
variable{u v w:Pt}
end
section
variable{p:fQ}{o:Pt}{l:List Int}
end
section
variable{u v:Pt}{i k:Int}
def oO(u:Pt):Prop:=0<=u.1/\0<u.2
instance (u:Pt):Decidable (oO u):=by unfold oO;infer_instance
end
section
variable{o:Pt}{ps:List Pt}
end
end TL
/-
  TlJTr: plots moved as a whole: their flaws.
  By an AI agent.
-/
set_option linter.all false
namespace TL
section
variable{T:Pt->Pt}{D:Pt->Prop}{g:aE}{p:fQ}{l a b but:List Pt}{q:Pt}{i k:Nat}
end
section
variable{g:aE}{p:fQ}
end
def oS(p:fQ):Nat->Int
 |0=>(p.1.length:Int)
 |k+1=>oS p k+((gI p.2 (k:Int)).length:Int)+1
def kN(g:aE)(p:fQ):Prop:=oS p p.2.length<=400/\(¬bo g\/g.1<=30/\(g.2.length:Int)<=40)
instance (g:aE)(p:fQ):Decidable (kN g p):=by unfold kN;infer_instance
end TL
namespace TL
section
variable{g:aE}{p:fQ}{l r:List Pt}{L:List (List Pt)}{k e:Nat}
end
end TL
namespace TL
section
variable{α:Type}[Inhabited α][DecidableEq α]{a b:List α}{k:Nat}
end
section
variable{g:aE}{p:fQ}{n:Int}{e:Nat}
end
end TL
/-
  TlWord: words and bytes in memory (a list of uint64, a list of uint8), and how a statement's argument of them is opened.
  By an AI agent.
-/
set_option linter.all false
namespace TL
open Go Go.Proofs Go.ChangeShapes Go.WideShapes Go.Joins Go.Deep
structure Wd where
  n:Nat
  lt:n<18446744073709551616
instance:Inhabited Wd:=⟨⟨0,by decide⟩⟩
instance:Rp Wd where
 sz:=1
 rep _ _ _ cs x:=cs=[.int .u64 (x.n:Int)]
 len h:=by subst h;rfl
 one h:=by subst h;simp[Value.oneCell']
 tr _ _ h:=h
instance:Fl Wd where
 cells x:=[.int .u64 (x.n:Int)]
 rep_iff:=Iff.rfl
structure Bt where
  n:Nat
  lt:n<256
instance:Inhabited Bt:=⟨⟨0,by decide⟩⟩
instance:Rp Bt where
 sz:=1
 rep _ _ _ cs x:=cs=[.int .u8 (x.n:Int)]
 len h:=by subst h;rfl
 one h:=by subst h;simp[Value.oneCell']
 tr _ _ h:=h
instance:Fl Bt where
 cells x:=[.int .u8 (x.n:Int)]
 rep_iff:=Iff.rfl
theorem lp{P:Program}{t:TypeId}(ht:P.underlying t=some (.int .u8)):jT Bt P t:=by
 intro H enc w fuel cs x h
 obtain⟨n,rfl,_,hw⟩:=DataW.trod_int ht h
 simp only[Lit.wf,Bool.and_eq_true,decide_eq_true_eq] at hw
 have e1:IntKind.u8.min=0:=by decide
 have e2:IntKind.u8.max=255:=by decide
 exact⟨⟨n.toNat,by omega⟩,by show[_]=[_];rw[Int.toNat_of_nonneg (by omega)]⟩
end TL
namespace TL
open Go Go.Proofs Go.ChangeShapes Go.WideShapes Go.Joins Go.Deep
end TL
namespace TL
open Go
theorem nW{P:Program}{f:Fr}{w:World}{dst:Option Tmp}{ty:TypeId}{pos:String}{after:Array Edge}{g:Option (Nat×Bool)}{s d:TypeId}{x:Operand}{k:IntKind}{m:Int}{us:TypeDesc}(hs:P.underlying s=some us)(hd:P.underlying d=some (.float .f64))(hx:ev f x= .int k m):(execOp (ev f) ⟨dst,.convert s d x,ty,pos,after,g⟩).run P w= .ok (.value (.float .f64 (er m))) w:=by
 simp[execOp,convert,hx,ax hs,ax hd,Conv.intToFloat,er]
def km(ws:List Bt):List Nat:=ws.map λb=>er ((b.n:Nat):Int)
theorem ov(ws:List Bt):(km ws).length=ws.length:=by unfold km;rw[List.length_map]
theorem lK{ws:List Bt}{l:List Nat}{k:Nat}(h:l=km (ws.take k))(hk:(k:Int)<ws.length):l++[er (((gI ws (k:Int)).n:Nat):Int)]=km (ws.take (k+1)):=by
 have hk':k<ws.length:=by omega
 unfold km at*
 rw[List.take_succ_eq_append_getElem hk',List.map_append,<-h]
 simp[gI,hk']
theorem mE{ws:List Bt}{l:List Nat}{k:Nat}(h:l=km (ws.take k))(hk:¬(k:Int)<ws.length):l=km ws:=by
 rw[List.take_of_length_le (by omega)] at h;exact h
theorem oM{ws:List Bt}{i:Int}(h0:0<=i)(h1:i<ws.length):gI (km ws) i=c7 (gI ws i).n:=by
 obtain⟨k,rfl⟩:∃k:Nat,i=k:=⟨i.toNat,by omega⟩
 have hk:k<ws.length:=by omega
 rw[<-iB]
 unfold km
 simp[gI,hk]
end TL
/-
  TlDij3: lengths of small whole weights: one way and another compared.
  By an AI agent.
-/
set_option linter.all false
namespace TL
theorem fY{x:Nat}(hx:x<=aw):aD x aw=aw:=by
 rcases Nat.lt_or_ge x aw with c|c
 · unfold aD Ieee.Format.add
   rw[bM c,co]
   rfl
 · obtain rfl:x=aw:=Nat.le_antisymm hx c
   decide
theorem jR{x:Nat}(hx:x<=aw):aD aw x=aw:=Nat.le_antisymm (i5 (Nat.le_refl _) hx).2 (kT (Nat.le_refl _) hx)
def lD(C:Nat)(g:aE)(ws:List Nat):Prop:=∀h,hf g h->zw ws h=aw\/∃c,c<=C/\zw ws h=c7 c
variable{g g1 g2:aE}{ws w1 w2:List Nat}{s s1 s2:Int}{far f1 f2:List Nat}{by_ b1 b2:List Int}{rk r1 r2:Int->Nat}{C:Nat}
theorem fS.wfin(E:fS g ws s far by_ rk)(hw:lD C g ws){v:Int}(hv:nd g v)(hb:gI by_ v≠-1):∃c,c<=C/\zw ws (gI by_ v)=c7 c:=by
 obtain⟨a1,a2,a3,a4,a5,a6⟩:=E.tr v hv hb
 rcases hw _ a1 with k|k
 · rw[k,fY (Nat.le_of_lt a3)] at a4;omega
 · exact k
theorem fS.whole(hm:bo g)(E:fS g ws s far by_ rk)(hw:lD C g ws)(hC:C<=255):∀(f:Nat) (v:Int),nd g v->gI far v<aw->rk v<=f->∃n,n<=C*rk v/\gI far v=c7 n:=by
  intro f
  induction f with
  |zero=>
    intro v hv hlt hr
    by_cases hb:gI by_ v= -1
    · have e:=(E.rt v hv hb).resolve_right (by omega)
      exact⟨0,Nat.zero_le _,by rw[e,E.s0,dL]⟩
    · obtain⟨a1,a2,a3,a4,a5,a6⟩:=E.tr v hv hb
      omega
  |succ f ih=>
    intro v hv hlt hr
    by_cases hb:gI by_ v= -1
    · have e:=(E.rt v hv hb).resolve_right (by omega)
      exact⟨0,Nat.zero_le _,by rw[e,E.s0,dL]⟩
    · obtain⟨c,c1,c2⟩:=E.wfin hw hv hb
      obtain⟨a1,a2,a3,a4,a5,a6⟩:=E.tr v hv hb
      have hu:=bA hm a1.1 a1.2
      obtain⟨n,n1,n2⟩:=ih (aW g (gI by_ v)) hu a3 (by omega)
      have hrn:=E.rn _ hu a3
      have hN:=hm.2.1
      have hb1:C*rk (aW g (gI by_ v))+C<=C*rk v:=by
        have:C*(rk (aW g (gI by_ v))+1)<=C*rk v:=Nat.mul_le_mul_left _ a6
        rw[Nat.mul_add,Nat.mul_one] at this;exact this
      have hb2:C*rk (aW g (gI by_ v))<=255*1024:=Nat.mul_le_mul hC (by omega)
      refine⟨n+c,by omega,?_⟩
      rw[a4,n2,c2,cX (by omega)]
theorem fS.wh(hm:bo g)(E:fS g ws s far by_ rk)(hw:lD C g ws)(hC:C<=255){v:Int}(hv:nd g v)(hlt:gI far v<aw):∃n,n<=C*rk v/\n<=261120/\gI far v=c7 n:=by
 obtain⟨n,h1,h2⟩:=E.whole hm hw hC (rk v) v hv hlt (Nat.le_refl _)
 have:=E.rn v hv hlt
 have:=hm.2.1
 have h3:C*rk v<=255*1024:=Nat.mul_le_mul hC (by omega)
 exact⟨n,h1,by omega,h2⟩
theorem i9{x n:Nat}(h:x<=c7 n)(hn:n<9007199254740992):x<aw:=Nat.lt_of_le_of_lt h (bX hn)
theorem ph(m1:bo g1)(m2:bo g2)(E1:fS g1 w1 s1 f1 b1 r1)(E2:fS g2 w2 s2 f2 b2 r2)(hN:g1.1=g2.1)(t1:lD C g1 w1)(t2:lD C g2 w2)(hC:C<=255)
    (hmap:∀h,hf g1 h->zw w1 h<aw->∃h',hf g2 h'/\aW g2 h'=aW g1 h/\eo g2 h'=eo g1 h/\zw w2 h'=zw w1 h){n:Nat}(hn:n<=261120)(h0:gI f2 s1=c7 n):
    ∀(f:Nat) (v:Int) (m:Nat),nd g1 v->gI f1 v=c7 m->m<=261120->r1 v<=f->gI f2 v<=c7 (n+m):=by
  intro f
  induction f with
  |zero=>
    intro v m hv hm' hm1 hr
    by_cases hb:gI b1 v= -1
    · have e:=(E1.rt v hv hb).resolve_right (λk=>by have:=bX (n:=m) (by omega);omega)
      rw[e,h0]
      exact dQ (by omega) (by omega)
    · obtain⟨a1,a2,a3,a4,a5,a6⟩:=E1.tr v hv hb
      omega
  |succ f ih=>
    intro v m hv hm' hm1 hr
    by_cases hb:gI b1 v= -1
    · have e:=(E1.rt v hv hb).resolve_right (λk=>by have:=bX (n:=m) (by omega);omega)
      rw[e,h0]
      exact dQ (by omega) (by omega)
    · obtain⟨c,c1,c2⟩:=E1.wfin t1 hv hb
      obtain⟨a1,a2,a3,a4,a5,a6⟩:=E1.tr v hv hb
      have hu:=bA m1 a1.1 a1.2
      obtain⟨k,k1,k2,k3⟩:=E1.wh m1 t1 hC hu a3
      have i1:=ih _ k hu k3 k2 (by omega)
      rw[k3,c2,cX (by omega),hm'] at a4
      have e:=i7 (by omega) (by omega) a4
      obtain⟨h',p1,p2,p3,p4⟩:=hmap _ a1 (by rw[c2];exact bX (by omega))
      have hlt:=i9 i1 (by omega)
      have hu2:nd g2 (aW g1 (gI b1 v)):=by rw[<-p2];exact bA m2 p1.1 p1.2
      obtain⟨q,q1,q2,q3⟩:=E2.wh m2 t2 hC hu2 hlt
      rw[q3] at i1
      have hq:q<=n+k:=by
        rcases Nat.lt_or_ge (n+k) q with d|d
        · have:=eE (by omega) d;omega
        · exact d
      have r:=E2.rx h' p1 (by rw[p2];exact hlt)
      rw[p2,p3,p4,a2,c2,q3,cX (by omega)] at r
      have r:=r.resolve_left (λk=>by have:=bX (n:=c) (by omega);omega)
      exact Nat.le_trans r (dQ (by omega) (by omega))
def ko(h:Int):Int:=if h%2=0 then h+1 else h-1
theorem ol{h:Int}(hh:hf g h):hf g (ko h)/\ko h/2=h/2/\aW g (ko h)=eo g h/\eo g (ko h)=aW g h:=by
 have h0:=hh.1
 have h1:=hh.2
 have e1:ko h/2=h/2:=by unfold ko;split<;>omega
 have e2:ko h%2=1-h%2:=by unfold ko;split<;>omega
 refine⟨⟨by unfold ko;split<;>omega,by unfold ko;split<;>omega⟩,e1,?_,?_⟩
 · unfold aW eo;rw[e1,e2]
 · unfold aW eo;rw[e1,e2,show 1-(1-h%2)=h%2 by omega]
theorem mq(m:bo g)(E1:fS g ws s1 f1 b1 r1)(E2:fS g ws s2 f2 b2 r2)(t:lD C g ws)(hC:C<=255):
    ∀(f:Nat) (v:Int) (k n:Nat),nd g v->gI f1 v=c7 k->k<=261120->gI f2 v=c7 n->n<=261120->r1 v<=f->gI f2 s1<=c7 (n+k):=by
  intro f
  induction f with
  |zero=>
    intro v k n hv hk hk1 hn hn1 hr
    by_cases hb:gI b1 v= -1
    · have e:=(E1.rt v hv hb).resolve_right (λk'=>by have:=bX (n:=k) (by omega);omega)
      rw[<-e,hn]
      exact dQ (by omega) (by omega)
    · obtain⟨a1,a2,a3,a4,a5,a6⟩:=E1.tr v hv hb
      omega
  |succ f ih=>
    intro v k n hv hk hk1 hn hn1 hr
    by_cases hb:gI b1 v= -1
    · have e:=(E1.rt v hv hb).resolve_right (λk'=>by have:=bX (n:=k) (by omega);omega)
      rw[<-e,hn]
      exact dQ (by omega) (by omega)
    · obtain⟨c,c1,c2⟩:=E1.wfin t hv hb
      obtain⟨a1,a2,a3,a4,a5,a6⟩:=E1.tr v hv hb
      have hu:=bA m a1.1 a1.2
      obtain⟨k',k1,k2,k3⟩:=E1.wh m t hC hu a3
      rw[k3,c2,cX (by omega),hk] at a4
      have e:=i7 (by omega) (by omega) a4
      obtain⟨p1,p2,p3,p4⟩:=ol a1
      have r:=E2.rx _ p1 (by rw[p3,a2,hn];exact bX (by omega))
      have ez:zw ws (ko (gI b1 v))=c7 c:=by rw[<-c2];show zf (gI ws (ko (gI b1 v)/2))=_;rw[p2]
      rw[p3,p4,a2,hn,ez,cX (by omega)] at r
      have r:=r.resolve_left (λk=>by have:=bX (n:=c) (by omega);omega)
      have hlt:=i9 r (by omega)
      obtain⟨q,q1,q2,q3⟩:=E2.wh m t hC hu hlt
      rw[q3] at r
      have hq:q<=n+c:=by
        rcases Nat.lt_or_ge (n+c) q with d|d
        · have:=eE (by omega) d;omega
        · exact d
      have i1:=ih _ k' q hu k3 k2 q3 q2 (by omega)
      exact Nat.le_trans i1 (dQ (by omega) (by omega))
theorem gj(m:bo g)(E1:fS g ws s1 f1 b1 r1)(E2:fS g ws s2 f2 b2 r2)(t:lD C g ws)(hC:C<=255)(h1:nd g s1)(h2:nd g s2):gI f2 s1<=gI f1 s2:=by
 rcases Nat.lt_or_ge (gI f1 s2) aw with c|c
 · obtain⟨k,k1,k2,k3⟩:=E1.wh m t hC h2 c
   have:=mq m E1 E2 t hC (r1 s2) s2 k 0 h2 k3 k2 (by rw[E2.s0,dL]) (by omega) (Nat.le_refl _)
   rw[Nat.zero_add] at this
   rw[k3];exact this
 · exact Nat.le_trans (E2.nn s1 h1) c
theorem o8(m:bo g)(E1:fS g ws s1 f1 b1 r1)(E2:fS g ws s2 f2 b2 r2)(t:lD C g ws)(hC:C<=255)(h1:nd g s1)(h2:nd g s2):gI f1 s2=gI f2 s1:=
 Nat.le_antisymm (gj m E2 E1 t hC h2 h1) (gj m E1 E2 t hC h1 h2)
theorem nI(m:bo g)(E1:fS g ws s1 f1 b1 r1)(E2:fS g ws s2 f2 b2 r2)(t:lD C g ws)(hC:C<=255)(h2:nd g s2){x:Int}(hx:nd g x):gI f1 x<=aD (gI f1 s2) (gI f2 x):=by
  rcases Nat.lt_or_ge (gI f1 s2) aw with c|c
  · rcases Nat.lt_or_ge (gI f2 x) aw with d|d
    · obtain⟨n,n1,n2,n3⟩:=E1.wh m t hC h2 c
      obtain⟨k,k1,k2,k3⟩:=E2.wh m t hC hx d
      have:=ph m m E2 E1 rfl t t hC (λh hh _=>⟨h,hh,rfl,rfl,rfl⟩) n2 n3 (r2 x) x k hx k3 k2 (Nat.le_refl _)
      rw[n3,k3,cX (by omega)];exact this
    · rw[Nat.le_antisymm (E2.nn x hx) d,fY (E1.nn _ h2)];exact E1.nn x hx
  · rw[Nat.le_antisymm (E1.nn _ h2) c,jR (E2.nn x hx)];exact E1.nn x hx
end TL
namespace TL
theorem pi{g:aE}{ws:List Bt}{l:List Nat}(h:l=km ws)(hl:(ws.length:Int)=(g.2.length:Int)):lD 255 g l:=by
 intro x hx
 right
 have h0:=hx.1
 have h1:=hx.2
 have hb:=(gI ws (x/2)).lt
 refine⟨(gI ws (x/2)).n,by omega,?_⟩
 show zf (gI l (x/2))=_
 rw[h,oM (by omega) (by omega),oQ]
 exact Nat.le_of_lt (bX (by omega))
end TL
/-
  TlIface: a method of an interface value that holds a pointer; values in an interface.
  By an AI agent.
-/
set_option linter.all false
namespace TL
open Go
def gW(P:Program)(T:TypeId)(name:String):Option (Nat×Bool×TypeId):=
  match P.info? T,P.underlying T with
  |some i,some (.pointer e)=>
    match i.methods.find? (·.name==name) with
    |some m=>if m.path.isEmpty then m.func.map (λq=>(q.1,q.2,e)) else none
    |none=>none
  |_,_=>none
theorem l6{P:Program}{T e:TypeId}{name:String}{f:Nat}{b:Bool}(h:gW P T name=some (f,b,e)):∃i m,P.info? T=some i/\P.underlying T=some (.pointer e)/\i.methods.find? (·.name==name)=some m/\m.path= #[]/\m.func=some (f,b):=by
 unfold gW at h
 split at h
 · rename_i i e' hi hu
   split at h
   · rename_i m hm
     split at h
     · rename_i hp
       cases hf:m.func with
       |none=>rw[hf] at h;cases h
       |some q=>
         rw[hf] at h
         simp only[Option.map_some,Option.some.injEq,Prod.mk.injEq] at h
         obtain⟨h1,h2,h3⟩:=h
         refine⟨i,m,hi,h3▸hu,hm,by simpa using hp,?_⟩
         rw[hf,<-h1,<-h2]
     · cases h
   · cases h
 · cases h
section
variable{P:Program}{f:Fr}{w:World}{dst:Option Tmp}{ty:TypeId}{pos:String}{after:Array Edge}{g:Option (Nat×Bool)}{T e:TypeId}{name:String}{fid n:Nat}{a:Addr}{v u:Value}
theorem io{i:TypeInfo}{t:TypeId}(h:P.info? t=some i):(typeInfo t).run P w= .ok i w:=by simp[typeInfo,h]
theorem eJ(h:gW P T name=some (fid,true,e)):(method (n+1) T v name).run P w= .ok (fid,v) w:=by
 obtain⟨i,m,hi,hu,hm,hp,hf⟩:=l6 h
 simp[method,io hi,hm,hp,hf,follow,receiverAt,ax hu,Place.get]
theorem n9(t:TypeId)(nm:String):(Builtin.ssaWrapNilChk_ #[t] t #[.pointer (some a),strVal "",strVal nm]).run P w= .ok (.pointer (some a)) w:=rfl
theorem aU(h:gW P T name=some (fid,false,e))(hl:(loadVar e a).run P w= .ok u w):(method (n+1) T (.pointer (some a)) name).run P w= .ok (fid,u) w:=by
 obtain⟨i,m,hi,hu,hm,hp,hf⟩:=l6 h
 simp[method,io hi,hm,hp,hf,follow,receiverAt,ax hu,Place.get,n9,asAddr,hl]
theorem kK:∃n,P.types.size+Made.depth=n+1:=by
 have h:0<Made.depth:=by decide
 exact⟨P.types.size+Made.depth-1,by omega⟩
variable{x:Operand}{args:List Operand}{at_:Array TypeId}{vals:List Value}{fn:Func}
theorem br(hx:ev f x= .iface T v)(hm:∀n,(method (n+1) T v name).run P w= .ok (fid,u) w)(hf:P.funcs[fid]? =some fn)(hb:fn.body.isNone=false)(hn:(fn.name== "runtime.NumGoroutine")=false)(ha:args.map (ev f)=vals):
   (execOp (ev f) ⟨dst,.call {callee:=.invoke x name,args:=args.toArray,argTypes:=at_},ty,pos,after,g⟩).run P w= .ok (.enter fid (u::vals).toArray) w:=by
 have ha:args.toArray.map (ev f)=vals.toArray:=by rw[<-ha];simp
 obtain⟨n,hn2⟩:=kK (P:=P)
 have hm':=hm n
 rw[<-hn2] at hm'
 have h1:fn.name≠ "runtime.NumGoroutine" :=by simpa using hn
 have h2:fn.body≠none:=λe=>by rw[e] at hb;cases hb
 simp[execOp,resolve,invoke,callMethod,callFunc,hx,ha,hm',hf,h1,h2]
theorem gG{t:TypeId}{us:TypeDesc}(hs:P.underlying t=some us)(hi:(match us with| .interface _=>true|_=>false)=false)(hx:ev f x=v):(execOp (ev f) ⟨dst,.makeInterface t x,ty,pos,after,g⟩).run P w= .ok (.value (.iface t v)) w:=by
 subst hx
 cases us<;>first|(cases hi;done)|simp[execOp,Instr.makeInterface,ax hs]
theorem iE{s t:TypeId}{us:TypeDesc}(hs:P.underlying t=some us)(hi:(match us with| .interface _=>true|_=>false)=false)(hx:ev f x= .iface t v):(execOp (ev f) ⟨dst,.typeAssert x s t false,ty,pos,after,g⟩).run P w= .ok (.value v) w:=by
 cases us<;>first|(cases hi;done)|simp[execOp,Instr.typeAssert,ax hs,hx]
end
end TL
/-
  TlNil: a list that is none, compared.
  By an AI agent.
-/
set_option linter.all false
namespace TL
open Go
section
variable{P:Program}{w:World}{t t':TypeId}{f:Fr}{x y:Operand}{dst:Option Tmp}{ty:TypeId}{pos:String}{after:Array Edge}{g:Option (Nat×Bool)}
end
theorem oh{α:Type}[Rp α]{γ:ar}{J S:bm->Prop}{w:World}{v:Value}{xs:List α}{hi:Nat}(h:Ow γ J S w v xs)(h2:hi<=xs.length):Ow γ J S w (gY v (Rp.sz α) 0 hi) (xs.take hi):=by
  rcases h with⟨rfl,rfl⟩|⟨b,cap,c,e,rfl,hc,hm,hJ,hb,hcs,hx⟩
  · simp only[List.length_nil] at h2
    have:hi=0:=by omega
    subst this
    exact .inl ⟨rfl,rfl⟩
  · have hl:(xs.take hi).length=hi:=by simp;omega
    refine .inr ⟨b,cap,c,e,?_,⟨by omega,by omega⟩,hm,hJ,hb,hcs,λi x hi'=>hx i x ?_⟩
    · rw[jZ]
      simp only[hl]
    · rw[List.getElem?_take] at hi'
      split at hi'
      · exact hi'
      · cases hi'
end TL
/-
  TlOrb: going round by a permutation; two places changed; what that does to the numbers of rounds.
  By an AI agent.
-/
set_option linter.all false
namespace TL
def tr(a b x:Int):Int:=if x=a then b else if x=b then a else x
end TL
/-
  TlEul: Euler's count of a rotation.
  By an AI agent.
-/
set_option linter.all false
namespace TL
def cy(r:lC)(x:Int):Int:=match r.find? (λl=>decide (x∈l)) with
  |some l=>pW l x
  |none=>x
end TL
/-
  TlFaces: faces: each half-edge on one, the least ahead, each right behind the twin of the one ahead; and the mirror's faces.
  By an AI agent.
-/
set_option linter.all false
namespace TL
theorem iu(n:Nat):(b5 n).Pairwise (· < ·):=by
 unfold b5
 rw[List.pairwise_map]
 exact List.pairwise_lt_range.imp (λh=>by omega)
section
variable{g:aE}{r:lC}
end
end TL
/-
  TlKru: edges of the least weight that join all that is joined (package path's Least): Kruskal's way by labels, and a forest of parents that agrees with the labels.
  By an AI agent.
-/
set_option linter.all false
namespace TL
def k7(ws:List Nat)(i:Int):Pl:=(zf (gI ws i),i)
def fI(ws:List Nat)(i k:Int):Prop:=bO (k7 ws i) (k7 ws k)
instance (ws:List Nat)(i k:Int):Decidable (fI ws i k):=by unfold fI;infer_instance
def kn(ws:List Nat)(i k:Int):Int:=if fI ws i k then-1 else if fI ws k i then 1 else 0
theorem iT(ws:List Nat)(i:Int):¬fI ws i i:=dd _
theorem kA{ws:List Nat}{i j k:Int}(h:fI ws i j)(h2:fI ws j k):fI ws i k:=by unfold fI bO k7 at*;omega
theorem mG{ws:List Nat}{i j:Int}(h:¬fI ws i j)(h2:¬fI ws j i):i=j:=by
 have:=nc h h2
 exact congrArg Prod.snd this
theorem nR{ws:List Nat}{i j:Int}(h:fI ws i j):¬fI ws j i:=fG h
def gH(ws:List Nat)(x:Int):List Int->List Int
 |[]=>[x]
 |y::l=>if fI ws x y then x::y::l else y::gH ws x l
def aH(ws:List Nat):List Int:=(b5 ws.length).foldr (gH ws) []
def iS(ws:List Nat)(l:List Int):Prop:=l.Pairwise λx y=>¬fI ws y x
theorem eQ(ws:List Nat)(x:Int):∀l,(gH ws x l).Perm (x::l)
 |[]=>List.Perm.refl _
 |y::l=>by
   unfold gH;split
   · exact List.Perm.refl _
   · exact((eQ ws x l).cons y).trans (List.Perm.swap x y l)
theorem iy{ws:List Nat}{x:Int}:∀{l},iS ws l->iS ws (gH ws x l)
 |[],_=>by unfold gH iS;simp
 |y::l,h=>by
   unfold iS at h ⊢
   obtain⟨h1,h2⟩:=List.pairwise_cons.1 h
   unfold gH;split
   · rename_i c
     refine List.pairwise_cons.2 ⟨λz hz=>?_,h⟩
     rcases List.mem_cons.1 hz with e|e
     · rw[e];exact nR c
     · intro k;exact h1 z e (kA k c)
   · rename_i c
     refine List.pairwise_cons.2 ⟨λz hz=>?_,iy h2⟩
     rcases List.mem_cons.1 ((eQ ws x l).mem_iff.1 hz) with e|e
     · rw[e];exact c
     · exact h1 z e
theorem fm(ws:List Nat):∀l:List Int,(l.foldr (gH ws) []).Perm l/\iS ws (l.foldr (gH ws) [])
 |[]=>⟨List.Perm.refl _,List.Pairwise.nil⟩
 |x::l=>⟨(eQ ws x _).trans ((fm ws l).1.cons x),iy (fm ws l).2⟩
theorem eK(ws:List Nat):(aH ws).Perm (b5 ws.length):=(fm ws _).1
theorem lE(ws:List Nat):iS ws (aH ws):=(fm ws _).2
theorem mI{ws:List Nat}{l:List Int}(hp:l.Perm (b5 ws.length))(hs:iS ws l):l=aH ws:=
 (hp.trans (eK ws).symm).eq_of_pairwise (λa b _ _ h1 h2=>mG h2 h1) hs (lE ws)
theorem jd(ws:List Nat):(aH ws).length=ws.length:=by rw[(eK ws).length_eq,d5]
theorem jt{ws:List Nat}{i:Int}:i∈aH ws↔0<=i/\i<(ws.length:Int):=by rw[(eK ws).mem_iff,eD]
theorem jV(ws:List Nat):(aH ws).Nodup:=(eK ws).nodup_iff.2 (fJ _)
-- by labels
def gw(c:List Int)(a b:Int):List Int:=c.map λx=>if x=b then a else x
def kH(g:aE)(s:List Int×List Int)(i:Int):List Int×List Int:=
 if gI s.1 (gI g.2 i).1=gI s.1 (gI g.2 i).2 then s else(gw s.1 (gI s.1 (gI g.2 i).1) (gI s.1 (gI g.2 i).2),s.2++[i])
def ef(g:aE)(l:List Int):List Int×List Int:=l.foldl (kH g) (b5 g.1.toNat,[])
def aV(g:aE)(ws:List Nat):List Int:=(b5 g.2.length).filter λi=>decide (i∈(ef g (aH ws)).2)
def i3(ws:List Nat)(l:List Int):Nat:=l.foldl (λs i=>aD s (zf (gI ws i))) 0
def aO(g:aE)(ws:List Nat):List Int×Nat×Int:=if cA g ws=0 then(aV g ws,i3 ws (aV g ws),0) else([],0,cA g ws)
theorem fK(g:aE)(l:List Int)(i:Int):ef g (l++[i])=kH g (ef g l) i:=by unfold ef;rw[List.foldl_append];rfl
theorem gQ(g:aE):∀(n:Nat) (l:List Int),l.length=n->(ef g l).2.Sublist l
 |0,l,h=>by rw[List.length_eq_zero_iff.1 h];exact List.Sublist.refl _
 |n+1,l,h=>by
   obtain⟨t,i,rfl⟩:∃t i,l=t++[i]:=⟨l.dropLast,l.getLast (by intro e;rw[e] at h;cases h),(List.dropLast_concat_getLast _).symm⟩
   have ih:=gQ g n t (by simpa using h)
   rw[fK]
   unfold kH;split
   · exact ih.trans (List.sublist_append_left ..)
   · exact ih.append (List.Sublist.refl _)
theorem lu{c:List Int}{a b v:Int}(v0:0<=v)(v1:v<(c.length:Int)):gI (gw c a b) v=if gI c v=b then a else gI c v:=oy _ v0 v1
structure UF(n:Int)(of c:List Int)(rho:Int->Nat):Prop where
  lo:(of.length:Int)=n
  lc:(c.length:Int)=n
  rg:∀v,0<=v->v<n->0<=gI of v/\gI of v<n
  dn:∀v,0<=v->v<n->gI of v≠v->rho (gI of v)<rho v
  lb:∀v,0<=v->v<n->gI c (gI of v)=gI c v
  uq:∀r s,0<=r->r<n->0<=s->s<n->gI of r=r->gI of s=s->gI c r=gI c s->r=s
def nt(n:Int)(of c:List Int):Prop:=∃rho,UF n of c rho
theorem UF.start{n:Int}(h:0<=n):UF n (b5 n.toNat) (b5 n.toNat) (λ_=>0):=by
 have e:∀v,0<=v->v<n->gI (b5 n.toNat) v=v:=λv h0 h1=>mw h0 (by omega)
 refine⟨by rw[d5];omega,by rw[d5];omega,λv h0 h1=>by rw[e v h0 h1];exact⟨h0,h1⟩,λv h0 h1 h2=>absurd (e v h0 h1) h2,λv h0 h1=>by rw[e v h0 h1,e v h0 h1],λr s r0 r1 s0 s1 _ _ k=>?_⟩
 rw[e r r0 r1,e s s0 s1] at k;exact k
structure kr(n:Int)(of0 of c:List Int)(rho:Int->Nat)(v0 v:Int):Prop where
 kp:∀r,0<=r->r<n->gI of0 r=r->gI of r=r
 u:UF n of c rho
 lo:0<=v
 hi:v<n
 eq:gI c v=gI c v0
structure ii(n:Int)(of0 of c:List Int)(v0 r:Int):Prop where
 kp:∀r,0<=r->r<n->gI of0 r=r->gI of r=r
 u:nt n of c
 lo:0<=r
 hi:r<n
 rt:gI of r=r
 eq:gI c r=gI c v0
variable{n:Int}{of0 of c:List Int}{rho:Int->Nat}{v v0:Int}
theorem kr.start(h:UF n of c rho)(h0:0<=v)(h1:v<n):kr n of of c rho v v:=⟨λ_ _ _ h=>h,h,h0,h1,rfl⟩
theorem kr.fin(h:kr n of0 of c rho v0 v)(e:gI of v=v):ii n of0 of c v0 v:=⟨h.kp,⟨rho,h.u⟩,h.lo,h.hi,e,h.eq⟩
theorem kr.rg(h:kr n of0 of c rho v0 v):(0<=gI of v/\gI of v<n)/\0<=gI of (gI of v)/\gI of (gI of v)<n:=by
 obtain⟨a,b⟩:=h.u.rg v h.lo h.hi
 exact⟨⟨a,b⟩,h.u.rg _ a b⟩
theorem kr.next(h:kr n of0 of c rho v0 v)(hv:¬gI of v=v):kr n of0 (of.set v.toNat (gI of (gI of v))) c rho v0 (gI (of.set v.toNat (gI of (gI of v))) v)/\rho (gI (of.set v.toNat (gI of (gI of v))) v)<rho v:=by
 have lo:=h.lo
 have hi:=h.hi
 have ll:=h.u.lo
 obtain⟨⟨a,b⟩,a2,b2⟩:=h.rg
 have d1:=h.u.dn v lo hi hv
 have d2:gI of (gI of v)≠v:=by
   intro e
   by_cases k:gI of (gI of v)=gI of v
   · exact hv (k.symm.trans e)
   · have:=h.u.dn _ a b k
     rw[e] at this;omega
 have d3:rho (gI of (gI of v))<rho v:=by
   by_cases k:gI of (gI of v)=gI of v
   · rw[k];exact d1
   · have:=h.u.dn _ a b k;omega
 have gs:∀u,0<=u->gI (of.set v.toNat (gI of (gI of v))) u=if u=v then gI of (gI of v) else gI of u:=λu u0=>bE lo (by omega) u0
 have e0:gI (of.set v.toNat (gI of (gI of v))) v=gI of (gI of v):=by rw[gs v lo,if_pos rfl]
 have l1:gI c (gI of (gI of v))=gI c v:=by rw[h.u.lb _ a b,h.u.lb v lo hi]
 rw[e0]
 refine⟨⟨λr r0 r1 hr=>?_,⟨by rw[List.length_set];exact ll,h.u.lc,λu u0 u1=>?_,λu u0 u1 hu=>?_,λu u0 u1=>?_,λr s r0 r1 s0 s1 hr hs k=>?_⟩,a2,b2,by rw[l1];exact h.eq⟩,d3⟩
 · have:=h.kp r r0 r1 hr
   rw[gs r r0,if_neg (λe=>hv (by rw[<-e];exact this))]
   exact this
 · rw[gs u u0];split
   · exact⟨a2,b2⟩
   · exact h.u.rg u u0 u1
 · rw[gs u u0] at hu ⊢
   split
   · rename_i e;rw[e];exact d3
   · rename_i e;rw[if_neg e] at hu;exact h.u.dn u u0 u1 hu
 · rw[gs u u0];split
   · rename_i e;rw[e];exact l1
   · exact h.u.lb u u0 u1
 · rw[gs r r0] at hr
   rw[gs s s0] at hs
   have r':gI of r=r:=by
     split at hr
     · rename_i e;rw[e] at hr;exact absurd hr d2
     · exact hr
   have s':gI of s=s:=by
     split at hs
     · rename_i e;rw[e] at hs;exact absurd hs d2
     · exact hs
   exact h.u.uq r s r0 r1 s0 s1 r' s' k
theorem nt.join{a b:Int}(h:nt n of c)(a0:0<=a)(a1:a<n)(b0:0<=b)(b1:b<n)(ha:gI of a=a)(hb:gI of b=b)(hab:¬a=b):nt n (of.set a.toNat b) (gw c (gI c a) (gI c b)):=by
  obtain⟨rho,u⟩:=h
  have ll:=u.lo
  have lc:=u.lc
  have gs:∀u,0<=u->gI (of.set a.toNat b) u=if u=a then b else gI of u:=λu u0=>bE a0 (by omega) u0
  have gr:∀v,0<=v->v<n->gI (gw c (gI c a) (gI c b)) v=if gI c v=gI c b then gI c a else gI c v:=λv v0 v1=>lu v0 (by omega)
  have hne:gI c a≠gI c b:=λe=>hab (u.uq a b a0 a1 b0 b1 ha hb e)
  refine⟨λv=>if gI c v=gI c a then rho v+rho b+1 else rho v,⟨by rw[List.length_set];exact ll,by unfold gw;rw[List.length_map];exact lc,λv v0 v1=>?_,λv v0 v1 hv=>?_,λv v0 v1=>?_,λr s r0 r1 s0 s1 hr hs k=>?_⟩⟩
  · rw[gs v v0];split
    · exact⟨b0,b1⟩
    · exact u.rg v v0 v1
  · rw[gs v v0] at hv ⊢
    by_cases e:v=a
    · rw[if_pos e]
      rw[if_neg (λk=>hne k.symm),e,if_pos rfl];omega
    · rw[if_neg e] at hv ⊢
      have:=u.dn v v0 v1 hv
      rw[u.lb v v0 v1]
      split<;>omega
  · rw[gs v v0,gr v v0 v1]
    by_cases e:v=a
    · rw[if_pos e,gr b b0 b1,if_pos rfl,e]
      split<;>rfl
    · rw[if_neg e]
      obtain⟨k0,k1⟩:=u.rg v v0 v1
      rw[gr _ k0 k1,u.lb v v0 v1]
  · rw[gs r r0] at hr
    rw[gs s s0] at hs
    rw[gr r r0 r1,gr s s0 s1] at k
    have ra:¬r=a:=λe=>by rw[if_pos e] at hr;exact hab (e.symm.trans hr.symm)
    have sa:¬s=a:=λe=>by rw[if_pos e] at hs;exact hab (e.symm.trans hs.symm)
    rw[if_neg ra] at hr
    rw[if_neg sa] at hs
    by_cases c1:gI c r=gI c b
    · have e1:=u.uq r b r0 r1 b0 b1 hr hb c1
      by_cases c2:gI c s=gI c b
      · rw[e1,u.uq s b s0 s1 b0 b1 hs hb c2]
      · rw[if_pos c1,if_neg c2] at k
        exact absurd (u.uq s a s0 s1 a0 a1 hs ha k.symm) sa
    · rw[if_neg c1] at k
      by_cases c2:gI c s=gI c b
      · rw[if_pos c2] at k
        exact absurd (u.uq r a r0 r1 a0 a1 hr ha k) ra
      · rw[if_neg c2] at k
        exact u.uq r s r0 r1 s0 s1 hr hs k
end TL
namespace TL
structure i6(g:aE)(ws:List Nat)(of l:List Int)(k:Nat):Prop where
  u:nt g.1 of (ef g ((aH ws).take k)).1
  eq:l=(ef g ((aH ws).take k)).2
variable{g:aE}{ws:List Nat}{of l:List Int}{k:Nat}
theorem i6.start(hm:bo g){f0:List Int}(e:f0=b5 g.1.toNat):i6 g ws f0 [] 0:=⟨⟨_,by rw[e];exact UF.start hm.1⟩,rfl⟩
theorem i6.lab(h:i6 g ws of l k):∃c,c=(ef g ((aH ws).take k)).1/\nt g.1 of c:=⟨_,rfl,h.u⟩
theorem i6.ll(h:i6 g ws of l k):l.length<=k:=by
 rw[h.eq]
 have:=(gQ g _ ((aH ws).take k) rfl).length_le
 rw[List.length_take] at this
 omega
theorem eV{α:Type}[Inhabited α]{xs:List α}{k:Nat}(h:(k:Int)<xs.length):xs.take (k+1)=xs.take k++[gI xs (k:Int)]:=by
 have hk:k<xs.length:=by omega
 rw[List.take_succ_eq_append_getElem hk]
 simp[gI,hk]
theorem i6.same{of1 of2 c:List Int}{i a b:Int}(h:i6 g ws of l k)(hk:(k:Int)<(aH ws).length)(hc:c=(ef g ((aH ws).take k)).1)(hi:gI (aH ws) (k:Int)=i)(h1:ii g.1 of of1 c (gI g.2 i).1 a)(h2:ii g.1 of1 of2 c (gI g.2 i).2 b)(e:a=b):i6 g ws of2 l (k+1):=by
 subst e
 have e1:gI c (gI g.2 i).1=gI c (gI g.2 i).2:=h1.eq.symm.trans h2.eq
 have e2:ef g ((aH ws).take (k+1))=ef g ((aH ws).take k):=by
   rw[eV hk,fK,hi]
   unfold kH
   rw[<-hc,if_pos e1]
 refine⟨by rw[e2,<-hc];exact h2.u,by rw[e2];exact h.eq⟩
theorem i6.join{of1 of2 c:List Int}{i a b:Int}(h:i6 g ws of l k)(hk:(k:Int)<(aH ws).length)(hc:c=(ef g ((aH ws).take k)).1)(hi:gI (aH ws) (k:Int)=i)(h1:ii g.1 of of1 c (gI g.2 i).1 a)(h2:ii g.1 of1 of2 c (gI g.2 i).2 b)(e:¬a=b):i6 g ws (of2.set a.toNat b) (l++[i]) (k+1):=by
 have ra:=h2.kp a h1.lo h1.hi h1.rt
 have e1:¬gI c (gI g.2 i).1=gI c (gI g.2 i).2:=by
   intro k
   obtain⟨rho,u⟩:=h2.u
   exact e (u.uq a b h1.lo h1.hi h2.lo h2.hi ra h2.rt (h1.eq.trans (k.trans h2.eq.symm)))
 have e2:ef g ((aH ws).take (k+1))=(gw c (gI c (gI g.2 i).1) (gI c (gI g.2 i).2),l++[i]):=by
   rw[eV hk,fK,hi]
   unfold kH
   rw[<-hc,if_neg e1,<-h.eq]
 refine⟨?_,by rw[e2]⟩
 rw[e2]
 have:=h2.u.join h1.lo h1.hi h2.lo h2.hi ra h2.rt e
 rw[h1.eq,h2.eq] at this
 exact this
theorem i6.done(h:i6 g ws of l k)(hk:¬(k:Int)<(aH ws).length):l=(ef g (aH ws)).2:=by
 have:=h.eq
 rw[List.take_of_length_le (by omega)] at this
 exact this
theorem kd(hw:ws.length=g.2.length)(hl:l=(ef g (aH ws)).2):(l.mergeSort λx y=>decide (x<=y))=aV g ws:=by
 have hsub:=gQ g _ (aH ws) rfl
 rw[<-hl] at hsub
 have hnd:l.Nodup:=hsub.nodup (jV ws)
 have htn:(aV g ws).Nodup:=(List.filter_sublist).nodup (fJ _)
 have hp:l.Perm (aV g ws):=by
   rw[List.perm_ext_iff_of_nodup hnd htn]
   intro x
   unfold aV
   rw[List.mem_filter,<-hl]
   constructor
   · intro hx
     have:=jt.1 (hsub.subset hx)
     exact⟨eD.2 (by omega),decide_eq_true hx⟩
   · intro hx;exact of_decide_eq_true hx.2
 have hs:(aV g ws).Pairwise (· <= ·):=by
   unfold aV
   exact(((iu g.2.length).imp (λh=>Int.le_of_lt h)).sublist List.filter_sublist)
 refine List.Perm.eq_of_pairwise (le:=(· <= ·)) (λa b _ _ h1 h2=>Int.le_antisymm h1 h2) ?_ hs ((List.mergeSort_perm _ _).trans hp)
 have:=List.pairwise_mergeSort (le:=λx y:Int=>decide (x<=y)) (λa b c h1 h2=>decide_eq_true (Int.le_trans (of_decide_eq_true h1) (of_decide_eq_true h2))) (λa b=>by
   rcases Int.le_total a b with h|h
   · simp[h]
   · simp[h]) l
 exact this.imp (λh=>of_decide_eq_true h)
theorem jK(hi:(k:Int)<(aV g ws).length):0<=gI (aV g ws) (k:Int)/\gI (aV g ws) (k:Int)<(g.2.length:Int):=by
 have h1:=bd (xs:=aV g ws) (i:=(k:Int)) (by omega) hi
 unfold aV at h1
 have:=eD.1 (List.mem_filter.1 h1).1
 unfold aV;exact this
theorem jW{l:List Int}{s:Nat}(h:s=i3 ws (l.take k))(hk:(k:Int)<l.length):aD s (zf (gI ws (gI l (k:Int))))=i3 ws (l.take (k+1)):=by
 rw[eV hk,h];unfold i3;rw[List.foldl_append];rfl
theorem il{xs:List Int}{n k:Nat}(h:xs=b5 k++List.replicate (n-k) 0)(hk:k<n):xs.set (Int.toNat (k:Int)) (k:Int)=b5 (k+1)++List.replicate (n-(k+1)) 0:=by
 rw[h,Int.toNat_natCast,go,List.set_append_right _ _ (by rw[d5];exact Nat.le_refl _),d5,Nat.sub_self]
 rw[show n-k=(n-(k+1))+1 by omega,List.replicate_succ]
 simp
end TL
namespace TL
theorem pK{ws:List Nat}{i k:Int}(h:decide (zf (gI ws i)<zf (gI ws k))=true):kn ws i k= -1:=by
 unfold kn;rw[if_pos (.inl (of_decide_eq_true h))]
theorem pH{ws:List Nat}{i k:Int}(h:¬decide (zf (gI ws i)<zf (gI ws k))=true)(h2:decide (zf (gI ws k)<zf (gI ws i))=true):kn ws i k=1:=by
 have h1:=of_decide_eq_true h2
 unfold kn
 rw[if_neg,if_pos (.inl h1)]
 intro c
 unfold fI bO k7 at c
 simp only at c
 omega
theorem pD{ws:List Nat}{i k:Int}(h:¬decide (zf (gI ws i)<zf (gI ws k))=true)(h2:¬decide (zf (gI ws k)<zf (gI ws i))=true):kn ws i k=if i<k then-1 else if k<i then 1 else 0:=by
 have h1:¬zf (gI ws i)<zf (gI ws k):=λc=>h (decide_eq_true c)
 have h3:¬zf (gI ws k)<zf (gI ws i):=λc=>h2 (decide_eq_true c)
 have e1:fI ws i k↔i<k:=by unfold fI bO k7;simp only;omega
 have e2:fI ws k i↔k<i:=by unfold fI bO k7;simp only;omega
 unfold kn
 simp only[e1,e2]
end TL
namespace TL
theorem jv{xs:List Int}{n k:Nat}(h:xs=b5 k++List.replicate (n-k) 0)(hk:k<=n):xs.length=n:=by
 rw[h,List.length_append,d5,List.length_replicate];omega
theorem iH{xs:List Int}{n k:Nat}(h:xs=b5 k++List.replicate (n-k) 0)(hk:k=n):xs=b5 n:=by
 rw[h,hk,Nat.sub_self];simp
theorem jP{g:aE}{ws:List Nat}{j:Nat}(hw:∀x∈ws,eh x)(hl:ws.length=g.2.length)(hj:(j:Int)<(aV g ws).length):eh (gI ws (gI (aV g ws) (j:Int))):=by
 obtain⟨a,b⟩:=jK (ws:=ws) (g:=g) hj
 exact hw _ (bd a (by omega))
theorem hX{g:aE}{ws:List Nat}(h:¬cA g ws=0):aO g ws=([],0,cA g ws):=by unfold aO;rw[if_neg h]
theorem gB{g:aE}{ws:List Nat}(h:cA g ws=0):aO g ws=(aV g ws,i3 ws (aV g ws),0):=by unfold aO;rw[if_pos h]
theorem ly{ws:List Nat}{l:List Int}{s j:Nat}(h:s=i3 ws (l.take j))(hj:¬(j:Int)<l.length):s=i3 ws l:=by
 rw[h,List.take_of_length_le (by omega)]
end TL
/-
  TlRoot: a function that changes a list which its caller owns.
  By an AI agent.
-/
set_option linter.all false
namespace TL
open Go
def nB(γ0:ar)(w0:World)(γ:ar)(w:World):Prop:=aQ (is 1) γ0 w0 γ w
class JOk (J:bm->Prop):Prop where
 ok:∀c,J c->is 1 c
instance:JOk no:=⟨λ_ h=>h.elim⟩
instance:JOk (is 1):=⟨λ_ h=>h⟩
instance:JOk (inl []):=⟨λ_ h=>by unfold inl at h;simp at h⟩
instance:JOk (inl [1]):=⟨λc h=>by unfold inl at h;unfold is;simpa using h⟩
theorem nB.start{γ0:ar}(w0:World):nB γ0 w0 γ0 w0:=aQ.refl _ _ _
theorem nB.chgC{J:bm->Prop}{γ0 γ γ':ar}{w0 w w':World}[JOk J](h:nB γ0 w0 γ w)(h':aQ J γ w γ' w')(_:∀c,is 0 c->¬J c):nB γ0 w0 γ' w':=by
 unfold nB at*
 refine⟨h'.os.trans h.os,h'.tape.trans h.tape,h'.output.trans h.output,Nat.le_trans h.size h'.size,λb hb hn=>?_,λb hb hn=>?_,Nat.le_trans h.drawn h'.drawn⟩
 · have e:=h.col b hb hn
   rw[h'.col b (Nat.lt_of_lt_of_le hb h.size) (λk=>hn (by rw[<-e];exact JOk.ok _ k)),e]
 · have e:=h.col b hb hn
   rw[h'.keep b (Nat.lt_of_lt_of_le hb h.size) (λk=>hn (by rw[<-e];exact JOk.ok _ k)),h.keep b hb hn]
def rcK(γ:ar)(k:Nat):ar:=λb=>if(γ b).1=k then(1,0) else(0,0)
theorem Ow.rcK{γ:ar}{k:Nat}{w:World}{v:Value}{xs:List Int}(h:Ow γ (is k) (is k) w v xs):Ow (rcK γ k) (is 1) (is 1) w v xs:=by
 rcases h with h|⟨b,cap,c,e,h1,h2,h3,h4,h5,h6,h7⟩
 · exact .inl h
 · refine .inr ⟨b,cap,c,e,h1,h2,h3,?_,h5,h6,λi x hi=>h7 i x hi⟩
   have h4:(γ b).1=k:=h4
   unfold TL.rcK is;rw[if_pos h4]
theorem Ow.uncol{γ γ':ar}{k:Nat}{w w':World}{v:Value}{xs ys:List Int}(h:Ow γ (is k) (is k) w v xs)(h':Ow γ' (is 1) (is 1) w' v ys):Ow γ (is k) (is k) w' v ys:=by
 rcases h' with h'|⟨b,cap,c,e,h1,h2,h3,h4,h5,h6,h7⟩
 · exact .inl h'
 · refine .inr ⟨b,cap,c,e,h1,h2,h3,?_,h5,h6,λi x hi=>h7 i x hi⟩
   rcases h with h|⟨b',cap',c',e',g1,g2,g3,g4,_⟩
   · rw[h.1] at h1;cases h1
   · rw[g1] at h1
     have e1:b'=b:=by injection h1 with a _ _;injection a with a;injection a
     rw[<-e1];exact g4
theorem aQ.uncol{γ γ':ar}{k:Nat}{w w':World}(h:aQ (is 1) (rcK γ k) w γ' w'):aQ (is k) γ w γ w':=by
 refine⟨h.os,h.tape,h.output,h.size,λ_ _ _=>rfl,λb hb hn=>h.keep b hb (λc=>hn ?_),h.drawn⟩
 unfold is TL.rcK at c
 by_cases e:(γ b).1=k
 · exact e
 · rw[if_neg e] at c;exact absurd c (by decide)
theorem ch{P:Program}{fid:Nat}{args:Array Value}{γ:ar}{k:Nat}{w:World}{v:Value}{xs:List Int}{Q:Int->List Int->Prop}(ho:Ow γ (is k) (is k) w v xs)
   (h:Calls P fid args w λe w'=>∃x:Int×List Int,e= .returned ((λx:Int×List Int=>Value.int .i64 x.1) x)/\∃γ',aQ (is 1) (rcK γ k) w γ' w'/\Ow γ' (is 1) (is 1) w' v x.2/\Q x.1 x.2):
   Calls P fid args w λe w'=>∃x:Int×List Int,e= .returned ((λx:Int×List Int=>Value.int .i64 x.1) x)/\(λ(x:Int×List Int) (w':World)=>aQ (is k) γ w γ w'/\Ow γ (is k) (is k) w' v x.2/\Q x.1 x.2) x w':=
 h.mono λe w' ⟨x,e1,γ',h1,h2,h3⟩=>⟨x,e1,h1.uncol,ho.uncol h2,h3⟩
end TL
/-
  TlSort: the library's sort by a function, met in this frame.
  By an AI agent.
-/
set_option linter.all false
namespace TL
open Go Go.Proofs Go.Shelf Go.Sort Go.Lib
theorem bZ.grown{w w':World}(h:bZ w.heap.size w w'):∃q os,w'=grow (w.drewN q) os:=by
 obtain⟨h1,h2,h3,h4,h5,h6⟩:=h
 refine⟨w'.drawn-w.drawn,w'.heap.extract w.heap.size w'.heap.size,?_⟩
 have hh:w'.heap=w.heap++w'.heap.extract w.heap.size w'.heap.size:=by
   apply Array.ext_getElem?
   intro k
   rw[Array.getElem?_append]
   by_cases hk:k<w.heap.size
   · rw[if_pos hk];exact h5 k hk
   · rw[if_neg hk,Array.getElem?_extract]
     split
     · rw[show w.heap.size+(k-w.heap.size)=k by omega]
     · exact Array.getElem?_eq_none (by omega)
 have hd:w'.drawn=w.drawn+(w'.drawn-w.drawn):=by omega
 cases w with
 |mk a b c d e=>
   cases w' with
   |mk a' b' c' d' e'=>
     simp only[grow,World.drewN] at*
     subst h1 h2 h3
     simp only[World.mk.injEq,true_and,and_true]
     exact⟨hh,hd⟩
section
variable{α:Type}[Inhabited α]{γ:ar}{w:World}{j b:Nat}
theorem fy(enc:α->Value)(hb:is j (γ b))(m:Nat)(d:Array α)(os:Array Obj):aQ (is j) γ w γ (sortWorld enc w b 0 m d os):=by
 refine⟨rfl,rfl,rfl,?_,λ_ _ _=>rfl,λk hk hn=>?_,?_⟩
 · unfold sortWorld;rw[size_grow,Go.Sort.size_putRow];simp only[heap_ahead];omega
 · unfold sortWorld
   rw[heap_grow_old _ _ (by rw[Go.Sort.size_putRow];exact hk)]
   have:b≠k:=λe=>hn (by subst e;exact hb)
   simp[putRow,mapBlock,Array.getElem?_modify,this]
 · show w.drawn<=w.drawn+m
   omega
theorem fX(enc:α->Value){c:Array Value}{e:TypeId}{fr:Nat×Nat}(h:w.heap[b]? =some (.cells c e fr))(m:Nat)(d:Array α)(os:Array Obj):(sortWorld enc w b 0 m d os).heap[b]? =some (.cells (putCells enc 0 d c) e fr):=by
 unfold sortWorld
 rw[heap_grow_old _ _ (by rw[Go.Sort.size_putRow];exact cj h)]
 simp[putRow,mapBlock,Array.getElem?_modify,h,onCells]
theorem eW(enc:α->Value){d:Array α}{c:Array Value}{k:Nat}(h:k<d.size)(hc:k<c.size):(putCells enc 0 d c)[k]? =some (enc d[k]!):=by
 simp[putCells,h,hc]
end
theorem k8{P:Program}{ρ:Ren}(L:SlLaysF.n6 P ρ){α:Type}[Inhabited α](fe:α->Int)(cf:α->α->Int)(hO:SWO (ltOf cf))(g:Nat)(cb:Array Value)(eg:∀args w,(callFunc g args).run P w= .ok (.enter g args) w)
   {γ:ar}{w:World}{j:Nat}{v:Value}{ds:List α}(hne:ds≠[])(hl:Ow γ (is j) (is j) w v (ds.map fe))
   (hc:∀W,aQ (is j) γ w γ W->∀x y,Calls P g (#[.int .i64 (fe x),.int .i64 (fe y)]++cb) W λe w'=>e= .returned (.int .i64 (cf x y))/\bZ W.heap.size W w'):
   Calls P (ρ.f 6) #[v,.func (.func g) #[] cb] w λe w'=>e= .returned (.tuple #[])/\∃ds':List α,ds'.Perm ds/\ds'.Pairwise (λx y=>ltOf cf y x=false)/\aQ (is j) γ w γ w'/\Ow γ (is j) (is j) w' v (ds'.map fe):=by
 rcases hl with⟨_,h⟩|⟨b,cap,c,e,rfl,hcap,hm,hJ,hb,hcs,hx⟩
 · simp at h;exact absurd h hne
 · simp only[List.length_map] at hcap
   have hsz1:Rp.sz Int=1:=rfl
   rw[hsz1,Nat.mul_one] at hcs
   have hbs:=cj hb
   have hlen:(ds.map fe).length=ds.toArray.size:=by simp
   have hget:∀i,i<ds.length->c[i]? =some (Value.int .i64 (fe ds.toArray[i]!)):=λi hi=>by
     obtain⟨cs,h1,h2⟩:=hx i (fe ds[i]) (by simp[hi])
     have h2:cs=[Value.int .i64 (fe ds[i])]:=h2
     have h1:=h1 0 (by decide)
     rw[h2] at h1
     simp only[hsz1,Nat.mul_one,Nat.add_zero] at h1
     rw[h1]
     simp[hi]
   have hH:Holds (λx:α=>Value.int .i64 (fe x)) w b 0 ds.toArray:=λi hi=>by
     have hi:i<ds.length:=by simpa using hi
     constructor
     · have:=hget i hi
       simp only[World.cell?,hb,Nat.zero_add]
       exact this
     · simp[World.frozen?,hb]
   have hcmp:CmpLays1 P g cb (λx:α=>Value.int .i64 (fe x)) cf b 0 ds.toArray.size w:=λm os dk hs x y=>
     (hc _ (fy _ hJ m dk os) x y).mono λe w' ⟨h1,h2⟩=>⟨h1,h2.grown⟩
   have fT:=Any.slices_SortFunc L (λx:α=>Value.int .i64 (fe x)) (λ_=>rfl) cf hO g cb b 0 cap ds.toArray w eg hcmp hH hbs (by simp;omega)
   rw[hlen]
   refine fT.mono λe' w' ⟨h1,d',n,os,hp,hs,hw⟩=>⟨h1,d'.toList,?_,?_,?_,?_⟩
   · obtain⟨q1,_,q3⟩:=hp
     rw[<-q1] at q3
     have e1:(d'.extract 0 d'.size)=d':=by simp
     rw[e1,q1] at q3
     have e2:(ds.toArray.extract 0 ds.toArray.size)=ds.toArray:=Array.extract_size
     rw[e2] at q3
     simpa using q3
   · rw[List.pairwise_iff_getElem]
     intro i k hi hk hik
     have hi:i<d'.size:=by simpa using hi
     have hk:k<d'.size:=by simpa using hk
     have:=hs i k (Nat.zero_le _) hik (by rw[<-hp.1];exact hk)
     rw[getElem!_pos d' k hk,getElem!_pos d' i hi] at this
     simpa using this
   · rw[hw];exact fy _ hJ n d' os
   · have hs':d'.size=ds.length:=by rw[hp.1];simp
     have hd:d'.toList.length=ds.length:=by simpa using hs'
     refine .inr ⟨b,cap,_,e,by rw[List.length_map,hd];simp,by rw[List.length_map,hd];exact hcap,hm,hJ,by rw[hw];exact fX _ hb n d' os,by rw[hsz1,Nat.mul_one];simpa[putCells] using hcs,λi x hi=>?_⟩
     have hi':i<d'.size:=by
       have:=(List.getElem?_eq_some_iff.1 hi).1
       simpa using this
     refine⟨[Value.int .i64 x],λq hq=>?_,rfl⟩
     have:q=0:=by have:q<1:=hq;omega
     subst this
     rw[hsz1,Nat.mul_one,Nat.add_zero,eW _ hi' (by rw[hcs];omega),getElem!_pos d' _ hi']
     simp[hi'] at hi
     simp[hi]
end TL
/-
  TlSort2: the library's sort of numbers, met in this frame.
  By an AI agent.
-/
set_option linter.all false
namespace TL
open Go Go.Proofs Go.Shelf Go.Sort Go.Lib
theorem iZ{P:Program}{ρ:Ren}(L:Lays.n189 P ρ)(hN:∀w:World,Calls P (ρ.f 189) #[.slice none 0 0] w λe w'=>e= .returned (.tuple #[])/\bZ w.heap.size w w')
   {γ:ar}{w:World}{j:Nat}{v:Value}{zs:List Int}(hl:Ow γ (is j) (is j) w v zs):
   Calls P (ρ.f 189) #[v] w λe w'=>e= .returned (.tuple #[])/\aQ (is j) γ w γ w'/\Ow γ (is j) (is j) w' v (zs.mergeSort λx y=>decide (x<=y)):=by
 rcases hl with⟨rfl,rfl⟩|⟨b,cap,c,e,rfl,hcap,hm,hJ,hb,hcs,hx⟩
 · refine(hN w).mono λe w' ⟨h1,h2⟩=>⟨h1,?_,?_⟩
   · exact⟨h2.os,h2.tape,h2.output,h2.size,λ_ _ _=>rfl,λk hk _=>h2.block k hk,h2.drawn⟩
   · rw[show([]:List Int).mergeSort (λx y=>decide (x<=y))=[] from by simp]
     exact .inl ⟨rfl,rfl⟩
 · have hsz1:Rp.sz Int=1:=rfl
   rw[hsz1,Nat.mul_one] at hcs
   have hbs:=cj hb
   have hget:∀i,i<zs.length->c[i]? =some (Value.int .i64 zs.toArray[i]!):=λi hi=>by
     obtain⟨cs,h1,h2⟩:=hx i zs[i] (by simp[hi])
     have h2:cs=[Value.int .i64 zs[i]]:=h2
     have h1:=h1 0 (by decide)
     rw[h2] at h1
     simp only[hsz1,Nat.mul_one,Nat.add_zero] at h1
     rw[h1]
     simp[hi]
   have hH:Holds (Value.int .i64) w b 0 zs.toArray:=λi hi=>by
     have hi:i<zs.length:=by simpa using hi
     constructor
     · have:=hget i hi
       simp only[World.cell?,hb,Nat.zero_add]
       exact this
     · simp[World.frozen?,hb]
   have fT:=Any.slices_Sort_int L b 0 cap zs w hH hbs (by omega)
   refine fT.mono λe' w' ⟨h1,n,os,hw⟩=>⟨h1,?_,?_⟩
   · rw[hw];exact fy _ hJ n _ os
   · have hd:(zs.mergeSort λx y=>decide (x<=y)).length=zs.length:=List.length_mergeSort _
     generalize(zs.mergeSort λx y=>decide (x<=y))=ds at hd hw
     refine .inr ⟨b,cap,_,e,by rw[hd],by rw[hd];exact hcap,hm,hJ,by rw[hw];exact fX (Value.int .i64) hb n ds.toArray os,by rw[hsz1,Nat.mul_one];simpa[putCells] using hcs,λi x hi=>?_⟩
     have hi':i<ds.length:=(List.getElem?_eq_some_iff.1 hi).1
     refine⟨[Value.int .i64 x],λq hq=>?_,rfl⟩
     have:q=0:=by have:q<1:=hq;omega
     subst this
     rw[hsz1,Nat.mul_one,Nat.add_zero,eW _ (by simpa using hi') (by rw[hcs];omega),getElem!_pos ds.toArray _ (by simpa using hi')]
     simp[hi'] at hi
     simp[hi]
end TL
/-
  TlPost: what is owed behind a law that returns true and writes nothing of the caller's.
  By an AI agent.
-/
namespace TL
open Go Go.Proofs Go.ChangeShapes Go.WideShapes Go.RowKit
def jg(P:Program)(ts:List TypeId):Bool:=ts.all λt=>P.readableRec t&&decide (t<P.types.size)
theorem gp{H:Type}{enc:TypeId×Value->H}{P:Program}(hl:laidOutB P=true){W W':World}(hb:Below W.heap.size W W')(sp:Nat->Bool):
   ∀{ts:List TypeId} {vs:List Value} {ds:List (DataW H)} {ps:List MemPlace},jg P ts=true->DataW.TrodAll enc P W 0 (λ_=>true) true ts vs ds ps->(∀p∈ps,p.block<W.heap.size)->(∀p∈ps,sp p.block=true)->DataW.TrodAll enc P W' 0 sp true ts vs ds ps
 |[],[],[],_,_,h,_,_=>h
 |[],[],_::_,_,_,h,_,_=>h.elim
 |[],_::_,_,_,_,h,_,_=>by cases‹List (DataW H)›<;>exact h.elim
 |_::_,[],_,_,_,h,_,_=>by cases‹List (DataW H)›<;>exact h.elim
 |_::_,_::_,[],_,_,h,_,_=>h.elim
 |t::ts,v::vs,d::ds,ps,hr,h,hlt,hsp=>by
   obtain⟨p,q,h1,h2,rfl⟩:=h
   simp only[jg,List.all_cons,Bool.and_eq_true,decide_eq_true_eq] at hr
   exact⟨p,q,WideElems.Trod_stays hl hr.1.1 hr.1.2 h1 (λx hx=>hb.same (hlt x (by simp[hx]))) (λx hx=>hsp x (by simp[hx])),
     gp hl hb sp hr.2 h2 (λx hx=>hlt x (by simp[hx])) (λx hx=>hsp x (by simp[hx])),rfl⟩
theorem lj{H:Type}{enc:TypeId×Value->H}{P:Program}{f:Func}{s:ChangeSpec}{W W':World}{args:Array Value}{ds gs:List (DataW H)}{before:List MemPlace}{tb:TypeId}
   (hl:laidOutB P=true)(hr:jg P f.params.toList=true)(hv:s.vars=[])(hrt:f.resultTypes= #[tb])(htb:P.underlying tb=some .bool)
   (hW:DataW.Whole enc P f.params.toList s.vars false W args.toList ds gs before)(hfn:s.fn H (ds++gs)={results:=[.lit (.bool true)],args:=ds})(hB:Below W.heap.size W W'):
   s.post enc P f false true false false W args (.bool true) W':=by
 have hlt:=hW.lt
 have hW0:=hW
 obtain⟨p,q,hA,hV,rfl,hfz,_⟩:=hW
 rw[hv] at hV
 obtain⟨rfl,rfl⟩:=trodVars_none hV
 simp only[List.append_nil] at hlt hfz hW0 hfn
 have hres:∀(b:Nat) (sp:Nat->Bool) (hd:Bool),DataW.TrodAll enc P W' b sp hd f.resultTypes.toList ((Value.bool true).resultList f.resultTypes.size) (s.fn H (ds++[])).results []:=λb sp hd=>by
   rw[hrt,List.append_nil,hfn]
   exact trodAll_cons_mk (shut_bool htb true) trodAll_mk0
 have hargs:∀sp:Nat->Bool,(∀x∈p,sp x.block=true)->DataW.TrodAll enc P W' 0 sp true f.params.toList args.toList (s.fn H (ds++[])).args p:=λsp hsp=>by
   rw[List.append_nil,hfn]
   exact gp hl hB sp hr hA hlt hsp
 have hvars:∀sp:Nat->Bool,DataW.TrodVars enc P W' sp s.vars (s.fn H (ds++[])).vars []:=λsp=>by
   rw[List.append_nil,hfn,hv]
   rfl
 refine⟨ds,[],p,[],p,[],hW0,hres _ _ _,hargs _ (λx hx=>by simpa using hlt x hx),hvars _,World.keptBut_mono (λx hx=>⟨hx,Or.inr (by simpa using hx)⟩) (hB.frame _),λ_=>?_⟩
 refine⟨?_,_,_,([]++p)++[],⟨[]++p,[],trodAll_append (hargs _ (λ_ _=>rfl)) (hres _ _ _),hvars _,rfl,?_,?_⟩,?_⟩
 · exact ok_one hrt rfl (okWide_bool_mk htb true)
 · intro b off hp
   have hp':MemPlace.cell b off∈p:=by simpa using hp
   rw[hB.frozen (p:=⟨b,off,none⟩) (hlt _ hp')]
   exact hfz b off hp'
 · intro ha;cases ha
 · intro x hx _
   simpa using hx
end TL
