/- Plain texts of this claim, part 2. By an AI agent. -/
import Derived.Test.YtmakonaaojadbaaTlP1
import Derived.Carry
import Derived.Deep.Slices
import Derived.Lib.SmallJoins
import Derived.RowKit
/-
  TlBlk2: the walk that finds blocks: it ends; all of it.
  By an AI agent.
-/
set_option linter.all false
namespace TL
variable{g:bK}{s:Bs}{path:List Int}{e v w u hh:Int}
theorem iV{f f':Int->Nat}{u:Int}:∀{l:List Int},l.Nodup->u∈l->(∀x∈l,x≠u->f x=f' x)->f u=f' u+1->(l.map f).sum=(l.map f').sum+1
 |[],_,hu,_,_=>absurd hu List.not_mem_nil
 |a::l,hn,hu,hx,he=>by
   have hn':=List.nodup_cons.1 hn
   simp only[List.map_cons,List.sum_cons]
   by_cases c:a=u
   · subst c
     have:l.map f=l.map f':=List.map_congr_left λx hxl=>hx x (List.mem_cons_of_mem _ hxl) (λk=>hn'.1 (by rw[<-k];exact hxl))
     rw[this,he];omega
   · have h2:=iV hn'.2 ((List.mem_cons.1 hu).resolve_left (λk=>c k.symm)) (λx hxl=>hx x (List.mem_cons_of_mem _ hxl)) he
     rw[h2,hx a (List.mem_cons_self ..) c];omega
theorem kh(h:dc g s path)(u0:0<=u)(u1:u<g.1)(hn:¬gI s.next u=((gI (aY g) u).length:Int))(p:List Int):b5 g s p=b5 g {s with next:=s.next.set u.toNat (gI s.next u+1)} p+2:=by
 have e1:b5 g {s with next:=s.next.set u.toNat (gI s.next u+1)} p=2*(((c7 g.1.toNat).map λv=>((gI (aY g) v).length-(gI (s.next.set u.toNat (gI s.next u+1)) v).toNat)).sum)+p.length:=rfl
 rw[e1]
 unfold b5
 have hl:=h.l4
 obtain⟨n0,n1⟩:=h.nx u u0 u1
 have:=iV (f:=λv=>(gI (aY g) v).length-(gI s.next v).toNat) (f':=λv=>(gI (aY g) v).length-(gI (s.next.set u.toNat (gI s.next u+1)) v).toNat) (u:=u) (jq g.1.toNat) (eC.2 ⟨u0,by omega⟩) (λx hx hxu=>by
   show _=(gI (aY g) x).length-(gI (s.next.set u.toNat (gI s.next u+1)) x).toNat
   rw[dg u0 (by omega) (eC.1 hx).1,if_neg hxu]) (by
   show(gI (aY g) u).length-(gI s.next u).toNat=(gI (aY g) u).length-(gI (s.next.set u.toNat (gI s.next u+1)) u).toNat+1
   rw[dg u0 (by omega) u0,if_pos rfl]
   omega)
 rw[this];omega
theorem jl:(ea g s v).next=s.next:=by
 unfold ea
 split
 · rfl
 · simp only;split<;>rfl
theorem ki:(dW g s v hh).1.next=s.next:=by
 unfold dW
 split
 · rfl
 · split
   · rfl
   · split<;>rfl
theorem gu{s':Bs}(h:s'.next=s.next)(p:List Int):b5 g s' p=b5 g s p:=by unfold b5;rw[h]
theorem gR(h:dc g s path)(hp:path≠[])(hu:u=gI path ((path.length:Int)-1)):b5 g (cZ g s path u).1 (cZ g s path u).2<b5 g s path:=by
 have hup:u∈path:=by
   have:=fF hp
   rw[<-hu] at this
   rw[this];simp
 obtain⟨⟨u0,u1⟩,_⟩:=h.pr u hup
 have hl:0<path.length:=List.length_pos_iff.2 hp
 unfold cZ
 by_cases c:gI s.next u=((gI (aY g) u).length:Int)
 · rw[if_pos c]
   show b5 g (ea g s u) path.dropLast<_
   rw[gu jl]
   unfold b5
   rw[List.length_dropLast];omega
 · rw[if_neg c]
   simp only
   rw[gu ki]
   have h2:=kh h u0 u1 c path
   have h3:∀p:List Int,p.length<=path.length+1->b5 g {s with next:=s.next.set u.toNat (gI s.next u+1)} p<=b5 g {s with next:=s.next.set u.toNat (gI s.next u+1)} path+1:=λp hp=>by unfold b5;omega
   have h4:=h3 (if(dW g {s with next:=s.next.set u.toNat (gI s.next u+1)} u (gI (gI (aY g) u) (gI s.next u))).2.2=true then path++[(dW g {s with next:=s.next.set u.toNat (gI s.next u+1)} u (gI (gI (aY g) u) (gI s.next u))).2.1] else path) (by split<;>simp)
   omega
structure d7(g:bK)(R s:Bs)(path:List Int):Prop where
  i:dc g s path
  res:∃f,b5 g s path<=f/\nf g f s path=R
theorem d7.start(h:dc g s [])(v0:0<=v)(v1:v<g.1)(hv:gI s.place v=0):d7 g (cF g s v) (gH s v) [v]:=⟨h.first v0 v1 hv,_,Nat.le_refl _,rfl⟩
theorem d7.step(hm:bw g){R:Bs}(h:d7 g R s path)(hp:path≠[])(hu:u=gI path ((path.length:Int)-1)):d7 g R (cZ g s path u).1 (cZ g s path u).2/\b5 g (cZ g s path u).1 (cZ g s path u).2<b5 g s path:=by
 have hl:=gR h.i hp hu
 refine⟨⟨h.i.step hm hp hu,?_⟩,hl⟩
 obtain⟨f,f1,f2⟩:=h.res
 cases f with
 |zero=>omega
 |succ f=>
   refine⟨f,by omega,?_⟩
   unfold nf at f2
   rw[if_neg hp,<-hu] at f2
   exact f2
theorem d7.done{R:Bs}(h:d7 g R s []):s=R:=by
 obtain⟨f,_,e⟩:=h.res
 rw[<-e]
 cases f with
 |zero=>rfl
 |succ f=>unfold nf;rw[if_pos rfl]
theorem nG(hm:bw g):∀(f:Nat) (s:Bs) (path:List Int),dc g s path->b5 g s path<=f->dc g (nf g f s path) []
 |0,s,path,h,hf=>by
   have:path=[]:=List.length_eq_zero_iff.1 (by unfold b5 at hf;omega)
   subst this
   exact h
 |f+1,s,path,h,hf=>by
   unfold nf
   by_cases c:path=[]
   · rw[if_pos c];rw[c] at h;exact h
   · rw[if_neg c]
     have:=gR h c rfl
     exact nG hm f _ _ (h.step hm c rfl) (by omega)
theorem nu(hm:bw g)(h:dc g s [])(v0:0<=v)(v1:v<g.1)(hv:gI s.place v=0):dc g (cF g s v) []:=nG hm _ _ _ (h.first v0 v1 hv) (Nat.le_refl _)
theorem fy(g:bK)(k:Nat):cO g (k+1)=if gI (cO g k).place (k:Int)=0 then cF g (cO g k) (k:Int) else cO g k:=by
 unfold cO
 rw[cJ,List.foldl_append];rfl
theorem kT(hm:bw g):∀k:Nat,(k:Int)<=g.1->dc g (cO g k) []
 |0,_=>dc.start hm
 |k+1,h=>by
   have ih:=kT hm k (by omega)
   rw[fy]
   split
   · exact nu hm ih (by omega) (by omega) ‹_›
   · exact ih
end TL
/-
  TlWayH: From with a heap: what holds while it runs.
  By an AI agent.
-/
set_option linter.all false
namespace TL
-- down
-- up
-- all of it
theorem mO{α:Type}[Inhabited α]{n:Nat}{x:α}{v:Int}(h0:0<=v)(h1:v<n):gI (List.replicate n x) v=x:=by
 obtain⟨k,rfl⟩:∃k:Nat,v=(k:Int):=⟨v.toNat,by omega⟩
 have:k<n:=by omega
 simp[gI,this]
end TL
/-
  TlBlk3: blocks by the numbers of their least edges, cut nodes, bridges: what package block tells; a bridge is alone in its block.
  By an AI agent.
-/
set_option linter.all false
namespace TL
variable{g:bK}{l:List Int}{k:Nat}{b e:Int}
def ar(l:List Int):Nat->List Int×List Int
  |0=>([],[])
  |k+1=>
    let sn:=if gI l (k:Int)∈(ar l k).1 then(ar l k).1 else(ar l k).1++[gI l (k:Int)]
    (sn,(ar l k).2++[((sn.idxOf (gI l (k:Int)):Nat):Int)])
theorem gi(l:List Int):∀k,(ar l k).2.length=k/\(ar l k).1.length<=k
 |0=>⟨rfl,Nat.le_refl _⟩
 |k+1=>by
   obtain⟨a,b⟩:=gi l k
   unfold ar
   refine⟨by simp[a],?_⟩
   simp only
   split
   · omega
   · rw[List.length_append,List.length_singleton];omega
theorem kM(l:List Int)(k:Nat):(ar l k).1.length<=(ar l (k+1)).1.length:=by
 conv=>rhs;unfold ar
 simp only
 split
 · exact Nat.le_refl _
 · rw[List.length_append];omega
theorem jW(l:List Int):∀k,∀x∈(ar l k).2,0<=x/\x<((ar l k).1.length:Int)
 |0,x,hx=>absurd hx List.not_mem_nil
 |k+1,x,hx=>by
   have hg:=kM l k
   have hx2:x∈(ar l k).2++[(((if gI l (k:Int)∈(ar l k).1 then(ar l k).1 else(ar l k).1++[gI l (k:Int)]).idxOf (gI l (k:Int)):Nat):Int)]:=hx
   rcases List.mem_append.1 hx2 with c|c
   · have:=jW l k x c;omega
   · rw[List.mem_singleton.1 c]
     have hm:gI l (k:Int)∈(if gI l (k:Int)∈(ar l k).1 then(ar l k).1 else(ar l k).1++[gI l (k:Int)]):=by
       split
       · assumption
       · simp
     have:=List.idxOf_lt_length_of_mem hm
     refine⟨by omega,?_⟩
     show((_:Nat):Int)<(((if gI l (k:Int)∈(ar l k).1 then(ar l k).1 else(ar l k).1++[gI l (k:Int)]).length:Nat):Int)
     omega
def nK(of:List Int)(g:bK)(s:List Int×List Bool)(h:Int):List Int×List Bool:=
  (s.1.set (bA g h).toNat (gI of (h/2)+1),s.2.set (bA g h).toNat (gI s.2 (bA g h)||(decide (0<gI s.1 (bA g h))&& !decide (gI s.1 (bA g h)=gI of (h/2)+1))))
def kz(of:List Int)(g:bK)(k:Nat):List Int×List Bool:=(c7 k).foldl (nK of g) (List.replicate g.1.toNat 0,List.replicate g.1.toNat false)
def e9(g:bK):List Int:=(ar (cO g g.1.toNat).block g.2.length).2
def cX(g:bK):Int:=((ar (cO g g.1.toNat).block g.2.length).1.length:Int)
def ke(g:bK):List Int:=(c7 g.1.toNat).filter λv=>gI (kz (e9 g) g (2*g.2.length)).2 v
def cI(of:List Int)(n:Nat)(k:Nat):List Int:=(of.take k).foldl (λl b=>l.set b.toNat (gI l b+1)) (List.replicate n 0)
def bj(g:bK)(k:Nat):List Int:=(c7 k).filter λe=>decide (gI (cI (e9 g) (cX g).toNat g.2.length) (gI (e9 g) e)=1)&& !decide ((gI g.2 e).1=(gI g.2 e).2)
def aD(g:bK):(List Int×List Int×Int)×Int:=if bw g then((e9 g,ke g,cX g),0) else(([],[],0),1)
def aI(g:bK):List Int×Int:=if bw g then(bj g g.2.length,0) else([],1)
theorem fp(g:bK):(e9 g).length=g.2.length:=(gi _ _).1
theorem gK(g:bK){i:Int}(h0:0<=i)(h1:i<(g.2.length:Int)):0<=gI (e9 g) i/\gI (e9 g) i<cX g:=by
 have hl:=fp g
 exact jW _ _ _ (bV (xs:=e9 g) h0 (by omega))
theorem iw(of:List Int)(n k:Nat):(cI of n k).length=n:=by
 unfold cI
 have key:∀(l p:List Int),(l.foldl (λl b=>l.set b.toNat (gI l b+1)) p).length=p.length:=by
   intro l
   induction l with
   |nil=>intro p;rfl
   |cons a l ih=>intro p;rw[List.foldl_cons,ih,List.length_set]
 rw[key];simp
theorem fA{of:List Int}{n k:Nat}(hk:(k:Int)<of.length):cI of n (k+1)=(cI of n k).set (gI of (k:Int)).toNat (gI (cI of n k) (gI of (k:Int))+1):=by
 have hk':k<of.length:=by omega
 unfold cI
 rw[List.take_succ_eq_append_getElem hk',List.foldl_append]
 have e:gI of (k:Int)=of[k]:=by simp[gI,hk']
 rw[e];rfl
theorem iF(hk:decide (gI (cI (e9 g) (cX g).toNat g.2.length) (gI (e9 g) (k:Int))=1)=true)(hn:¬(gI g.2 (k:Int)).1=(gI g.2 (k:Int)).2):bj g (k+1)=bj g k++[(k:Int)]:=by
 unfold bj
 rw[cJ,List.filter_append]
 simp only[List.filter_cons,List.filter_nil,hk,decide_eq_false hn,Bool.not_false,Bool.and_self,if_true]
theorem ji(h:¬gI (cI (e9 g) (cX g).toNat g.2.length) (gI (e9 g) (k:Int))=1\/(gI g.2 (k:Int)).1=(gI g.2 (k:Int)).2):bj g (k+1)=bj g k:=by
 unfold bj
 rw[cJ,List.filter_append]
 have e:(decide (gI (cI (e9 g) (cX g).toNat g.2.length) (gI (e9 g) (k:Int))=1)&& !decide ((gI g.2 (k:Int)).1=(gI g.2 (k:Int)).2))=false:=by
   rcases h with h|h
   · rw[decide_eq_false h];rfl
   · rw[decide_eq_true h];simp
 simp only[List.filter_cons,List.filter_nil,e,Bool.false_eq_true,if_false,List.append_nil]
theorem eH{e:Int}:e∈bj g g.2.length↔(0<=e/\e<(g.2.length:Int))/\gI (cI (e9 g) (cX g).toNat g.2.length) (gI (e9 g) e)=1/\¬(gI g.2 e).1=(gI g.2 e).2:=by
 unfold bj
 rw[List.mem_filter,eC]
 simp
def dH(l:List Int)(n k:Nat):List Bool:=(l.take k).foldl (λb e=>b.set e.toNat true) (List.replicate n false)
theorem iD(l:List Int)(n k:Nat):(dH l n k).length=n:=by
 unfold dH
 have key:∀(l:List Int) (p:List Bool),(l.foldl (λb e=>b.set e.toNat true) p).length=p.length:=by
   intro l
   induction l with
   |nil=>intro p;rfl
   |cons a l ih=>intro p;rw[List.foldl_cons,ih,List.length_set]
 rw[key];simp
theorem h7{n:Nat}(hk:(k:Int)<l.length):dH l n (k+1)=(dH l n k).set (gI l (k:Int)).toNat true:=by
 have hk':k<l.length:=by omega
 unfold dH
 rw[List.take_succ_eq_append_getElem hk',List.foldl_append]
 have e:gI l (k:Int)=l[k]:=by simp[gI,hk']
 rw[e];rfl
theorem jg{l:List Int}{k:Nat}(h:(k:Int)<l.length):l.take (k+1)=l.take k++[gI l (k:Int)]:=by
 have hk:k<l.length:=by omega
 rw[List.take_succ_eq_append_getElem hk]
 simp[gI,hk]
theorem jx{n:Nat}(hl:∀x∈l,0<=x/\x<(n:Int)){e:Int}(h0:0<=e)(h1:e<(n:Int)):∀k:Nat,(k:Int)<=l.length->(gI (dH l n k) e=true↔e∈l.take k)
 |0,_=>by
   have:dH l n 0=List.replicate n false:=rfl
   rw[this,mO h0 (by omega)];simp
 |k+1,hk=>by
   have ih:=jx hl h0 h1 k (by omega)
   obtain⟨a,b⟩:=hl _ (bV (xs:=l) (i:=(k:Int)) (by omega) (by omega))
   have hml:=iD l n k
   rw[h7 (by omega),dg a (by omega) h0,jg (by omega),List.mem_append,List.mem_singleton]
   by_cases c:e=gI l (k:Int)
   · rw[if_pos c];simp[c]
   · rw[if_neg c,ih];simp[c]
theorem jc(hm:bw g){e:Int}(h0:0<=e)(h1:e<(g.2.length:Int)):gI (dH (bj g g.2.length) g.2.length (bj g g.2.length).length) e=(decide (gI (cI (e9 g) (cX g).toNat g.2.length) (gI (e9 g) e)=1)&& !decide ((gI g.2 e).1=(gI g.2 e).2)):=by
  have h:=jx (l:=bj g g.2.length) (n:=g.2.length) (λx hx=>(eH.1 hx).1) h0 h1 (bj g g.2.length).length (by omega)
  rw[List.take_length,eH] at h
  cases hc:gI (dH (bj g g.2.length) g.2.length (bj g g.2.length).length) e with
  |true=>
    obtain⟨_,a,b⟩:=h.1 hc
    rw[decide_eq_true a,decide_eq_false b];rfl
  |false=>
    rw[hc] at h
    symm
    by_cases a:gI (cI (e9 g) (cX g).toNat g.2.length) (gI (e9 g) e)=1
    · by_cases b:(gI g.2 e).1=(gI g.2 e).2
      · rw[decide_eq_true b];simp
      · exact absurd (h.2 ⟨⟨h0,h1⟩,a,b⟩) (by decide)
    · rw[decide_eq_false a];rfl
end TL
namespace TL
structure jQ(l:List Int)(mp:(Int->Int)×List Int)(out:List Int)(k:Nat):Prop where
  dom:mp.2=(ar l k).1
  val:∀b∈mp.2,mp.1 b=((mp.2.idxOf b:Nat):Int)
  eq:out=(ar l k).2++List.replicate (l.length-k) 0
  lo:(out.length:Int)=l.length
variable{l:List Int}{mp:(Int->Int)×List Int}{out:List Int}{k:Nat}
theorem jQ.start:jQ l (λ_=>0,[]) (List.replicate (Int.toNat (l.length:Int)) 0) 0:=
 ⟨rfl,λb hb=>absurd hb List.not_mem_nil,by simp[ar],by simp⟩
theorem jE{x:Int}(h:out=(ar l k).2++List.replicate (l.length-k) 0)(hk:(k:Int)<l.length):out.set (Int.toNat (k:Int)) x=((ar l k).2++[x])++List.replicate (l.length-(k+1)) 0:=by
 have hl:=(gi l k).1
 rw[h,Int.toNat_natCast,List.set_append_right _ _ (by omega),hl,Nat.sub_self]
 rw[show l.length-k=(l.length-(k+1))+1 by omega,List.replicate_succ]
 simp
theorem jQ.old(h:jQ l mp out k)(hk:(k:Int)<l.length)(hm:gI l (k:Int)∈mp.2):jQ l mp (out.set (Int.toNat (k:Int)) (mp.1 (gI l (k:Int)))) (k+1):=by
 have hd:=h.dom
 have e:ar l (k+1)=((ar l k).1,(ar l k).2++[(((ar l k).1.idxOf (gI l (k:Int)):Nat):Int)]):=by
   conv=>lhs;unfold ar
   simp only[if_pos (show gI l (k:Int)∈(ar l k).1 by rw[<-hd];exact hm)]
 refine⟨by rw[e];exact hd,h.val,?_,by rw[List.length_set];exact h.lo⟩
 rw[jE h.eq hk,e,h.val _ hm,hd]
theorem jQ.new(h:jQ l mp out k)(hk:(k:Int)<l.length)(hm:¬gI l (k:Int)∈mp.2){mp':(Int->Int)×List Int}{x:Int}(em:mp'=((λq=>if q=gI l (k:Int) then(mp.2.length:Int) else mp.1 q),if gI l (k:Int)∈mp.2 then mp.2 else mp.2++[gI l (k:Int)]))(ex:x=mp'.1 (gI l (k:Int))):
   jQ l mp' (out.set (Int.toNat (k:Int)) x) (k+1):=by
 subst em
 have hd:=h.dom
 rw[if_neg hm]
 have e:ar l (k+1)=((ar l k).1++[gI l (k:Int)],(ar l k).2++[((((ar l k).1++[gI l (k:Int)]).idxOf (gI l (k:Int)):Nat):Int)]):=by
   conv=>lhs;unfold ar
   simp only[if_neg (show¬gI l (k:Int)∈(ar l k).1 by rw[<-hd];exact hm)]
 have ei:(mp.2++[gI l (k:Int)]).idxOf (gI l (k:Int))=mp.2.length:=by
   rw[List.idxOf_append,if_neg hm];simp
 refine⟨by rw[e,<-hd],λb hb=>?_,?_,by rw[List.length_set];exact h.lo⟩
 · show(if b=gI l (k:Int) then(mp.2.length:Int) else mp.1 b)=(((mp.2++[gI l (k:Int)]).idxOf b:Nat):Int)
   by_cases c:b=gI l (k:Int)
   · rw[if_pos c,c,ei]
   · have hb2:b∈mp.2:=(List.mem_append.1 hb).resolve_right (λz=>c (List.mem_singleton.1 z))
     rw[if_neg c,List.idxOf_append,if_pos hb2];exact h.val b hb2
 · rw[jE h.eq hk,e,ex]
   show _=_
   rw[<-hd,ei]
   simp
theorem jQ.done(h:jQ l mp out k)(hk:k=l.length):out=(ar l l.length).2/\(mp.2.length:Int)=((ar l l.length).1.length:Int):=by
 subst hk
 have:=h.eq
 rw[Nat.sub_self,List.replicate_zero,List.append_nil] at this
 exact⟨this,by rw[h.dom]⟩
end TL
/-
  TlWayT: the way that leads to a node, from how the nodes were reached (package path's To), as the document has it.
  By an AI agent.
-/
set_option linter.all false
namespace TL
def lJ(fs:FS)(g:bK):Prop:=bw g/\(fs.1.length:Int)=g.1/\(fs.2.length:Int)=g.1
instance (fs:FS)(g:bK):Decidable (lJ fs g):=by unfold lJ;infer_instance
variable{fs:FS}{g:bK}{t v:Int}{l:List Int}{n:Nat}
variable{by_:List Int}
end TL
/-
  TlDij: what the document's From comes to: each length is that of the way found; no half-edge of a reached node leads nearer.
  By an AI agent.
-/
set_option linter.all false
namespace TL
abbrev hf(g:bK)(h:Int):Prop:=0<=h/\h<2*(g.2.length:Int)
abbrev nd(g:bK)(v:Int):Prop:=0<=v/\v<g.1
variable{g:bK}{ws:List Nat}{s p:Int}{far:List Nat}{by_:List Int}{se:List Bool}{rk:Int->Nat}{n:Nat}{done:List Int}
end TL
/-
  TlOpen: arguments opened: what a law's reader says of a slice is what a walk wants of it.
  By an AI agent.
-/
namespace TL
open Go Go.Proofs Go.ChangeShapes Go.WideShapes Go.Joins Go.Deep
structure js{H:Type}(f:DataW H->Nat):Prop where
 slice:∀l s:List (DataW H),l.length<=f (.slice l s)
 elem:∀l s:List (DataW H),∀d∈l,f d<=f (.slice l s)
 part:∀l:List (DataW H),∀d∈l,f d<=f (.agg l)
def lT(α:Type)[Rp α](P:Program)(t:TypeId):Prop:=
  ∀{H:Type} (enc:TypeId×Value->H) (w:World) (fuel:Nat) (cs:List Value) (x:DataW H×List MemPlace),DataW.trod enc P w 0 (λ_=>true) true fuel t cs=some x->∃y:α,Rp.rep c0 any w cs y
theorem ka{P:Program}{t:TypeId}(ht:P.underlying t=some (.int .i64)):lT Int P t:=by
 intro H enc w fuel cs x h
 obtain⟨n,rfl,_,_⟩:=DataW.trod_int ht h
 exact⟨n,rfl⟩
theorem iH{H:Type}{enc:TypeId×Value->H}{P:Program}{w:World}{base:Nat}{spare:Nat->Bool}{held:Bool}{t e:TypeId}{fuel:Nat}{cs:List Value}{x:DataW H×List MemPlace}(ht:P.underlying t=some (.array 2 e))(hce:P.cellsOf e=1)(hct:P.cellsOf t=2)
   (h:DataW.trod enc P w base spare held fuel t cs=some x):
   ∃v0 v1 y0 y1 n,cs=[v0,v1]/\x=(.agg [y0.1,y1.1],y0.2++y1.2)/\DataW.trod enc P w base spare held n e [v0]=some y0/\DataW.trod enc P w base spare held n e [v1]=some y1:=by
 cases fuel with
 |zero=>simp[DataW.trod] at h
 |succ n=>
   unfold DataW.trod at h
   rw[ht] at h
   have r2:List.range 2=[0,1]:=rfl
   simp only[hct] at h
   by_cases hl:cs.length=2
   · rw[if_pos hl] at h
     match cs,hl with
     |[v0,v1],_=>
       simp[r2,hce] at h
       cases h0:DataW.trod enc P w base spare held n e [v0] with
       |none=>simp[h0] at h
       |some y0=>
         cases h1:DataW.trod enc P w base spare held n e [v1] with
         |none=>simp[h0,h1] at h
         |some y1=>
           simp[h0,h1] at h
           exact⟨v0,v1,y0,y1,n,rfl,h.symm,h0,h1⟩
   · rw[if_neg hl] at h;cases h
theorem m9{P:Program}{t e:TypeId}(ht:P.underlying t=some (.array 2 e))(he:P.underlying e=some (.int .i64))(hce:P.cellsOf e=1)(hct:P.cellsOf t=2):lT (Int×Int) P t:=by
 intro H enc w fuel cs x h
 obtain⟨v0,v1,y0,y1,n,rfl,_,h0,h1⟩:=iH ht hce hct h
 obtain⟨a,ha⟩:=ka he enc w n [v0] y0 h0
 obtain⟨b,hb⟩:=ka he enc w n [v1] y1 h1
 exact⟨(a,b),[v0],[v1],rfl,ha,hb⟩
theorem kw{α:Type}[Rp α][Inhabited α]{P:Program}{t e:TypeId}(ht:P.underlying t=some (.slice e))(hc:P.cellsOf e=Rp.sz α)(hz:0<Rp.sz α)(he:lT α P e)
    {H:Type}{enc:TypeId×Value->H}{w:World}{f:DataW H->Nat}(hf:js f){fuel:Nat}{v:Value}{x:DataW H×List MemPlace}
    (hs:∀a len cap,v= .slice (some a) len cap->a.spot=none)(h:DataW.trod enc P w 0 (λ_=>true) true fuel t [v]=some x)(hb:f x.1<=1048576):∃xs:List α,Ro w v xs:=by
  rcases Deep.open_slice ht h with⟨h0,_⟩|⟨a,len,cap,m,n,D,Pl,h0,_,hlc,_,hm,rfl,hx⟩
  · obtain rfl:v= .slice none 0 0:=by simpa using h0
    exact⟨[],.inl ⟨⟨_,rfl⟩,rfl⟩⟩
  · obtain rfl:v= .slice (some a) len cap:=by simpa using h0
    have hsp:=hs a len cap rfl
    obtain⟨b,off,spot⟩:=a
    obtain rfl:spot=none:=hsp
    simp only[if_true] at hm
    subst hm
    obtain⟨Y,hY⟩:=Deep.choose_lt (α:=α) (n:=len) (p:=λi y=>∃cs,(∀j,j<Rp.sz α->w.cell? ⟨b,off+i*Rp.sz α+j,none⟩=cs[j]?)/\Rp.rep c0 any w cs y) (λi hi=>by
      obtain⟨cs',h1,h2⟩:=hx i (by omega)
      obtain⟨y,hy⟩:=he enc w n cs' _ h2
      refine⟨y,cs',λj hj=>?_,hy⟩
      obtain⟨_,hl,hcell⟩:=World.cells?_some h1
      have:=hcell j (by omega)
      rw[Deep.add_add,hc] at this
      rw[<-this]
      unfold Addr.add
      by_cases hij:i*Rp.sz α+j=0
      · rw[if_pos hij,Nat.add_assoc,hij];rfl
      · rw[if_neg hij,Nat.add_assoc])
    have hlen:((List.range len).map Y).length=len:=by simp
    have hbound:=Nat.le_trans (hf.slice _ _) hb
    refine⟨(List.range len).map Y,.inr ⟨b,off,m,by rw[hlen],⟨by omega,by simp at hbound;omega⟩,λi y hi=>?_⟩⟩
    have hil:i<len:=by
      have:=(List.getElem?_eq_some_iff.1 hi).1
      omega
    obtain rfl:Y i=y:=by simpa[hil] using hi
    obtain⟨cs,h1,h2⟩:=hY i hil
    refine⟨?_,trivial,cs,h1,h2⟩
    have h3:=h1 0 hz
    have h4:=Rp.len h2
    have h5:0<cs.length:=by omega
    rw[List.getElem?_eq_getElem h5] at h3
    by_cases hbl:b<w.heap.size
    · exact hbl
    · have:w.heap[b]? =none:=Array.getElem?_eq_none (by omega)
      simp[World.cell?,this] at h3
theorem i5{P:Program}{w:World}{base:Nat}{t e:TypeId}{v:Value}(ht:P.underlying t=some (.slice e))(h:Cell.okWide P w .any base t v):∀a len cap,v= .slice (some a) len cap->a.spot=none:=by
 rintro a len cap rfl
 simp only[Cell.okWide,Cell.ok,ht] at h
 exact h.2.2.2.1
theorem m7{α:Type}[Rp α][Inhabited α]{P:Program}{t t0 t1 e:TypeId}{f0 f1:Field}(hs:P.underlying t=some (.struct #[f0,f1]))(hone:oneCellFields P #[f0,f1]=true)(hC:P.cellsOf t=2)(hts:P.cellTypes P.depth t=some [t0,t1])
    (h0:f0.type=t0)(h1:f1.type=t1)(hi:P.underlying t0=some (.int .i64))(ht:P.underlying t1=some (.slice e))(hc:P.cellsOf e=Rp.sz α)(hz:0<Rp.sz α)(he:lT α P e)
    {H:Type}{enc:TypeId×Value->H}{w:World}{f:DataW H->Nat}(hf:js f){base:Nat}{v:Value}{d:DataW H}{p:List MemPlace}
    (hval:Value.okWide P w .any base t v)(h:DataW.Trod enc P w 0 (λ_=>true) true t v d p)(hb:f d<=1048576):∃(n:Int) (u:Value) (xs:List α),v= .agg #[.int .i64 n,u]/\Ro w u xs:=by
  obtain⟨v0,v1,y0,y1,n,rfl,rfl,rfl,r0,r1⟩:=open_agg2 hs hone hC hval h
  subst h0 h1
  obtain⟨k,hk,_,_⟩:=DataW.trod_int hi r0
  obtain rfl:v0= .int .i64 k:=by simpa using hk
  have hcell:Cell.okWide P w .any base f1.type v1:=by
    simp only[Value.okWide,hs] at hval
    obtain⟨cs,hcs,_,ts,h3,_,h4⟩:=hval
    rw[hts] at h3
    obtain rfl:=Option.some.inj h3
    obtain rfl: #[Value.int .i64 k,v1]=cs:=by simpa using hcs
    obtain⟨u,hu,hk⟩:=h4 1 v1 rfl
    simp at hu
    subst hu
    exact hk
  obtain⟨xs,hx⟩:=kw ht hc hz he hf (i5 ht hcell) (x:=y1) r1 (Nat.le_trans (hf.part _ _ (by simp)) hb)
  exact⟨k,v1,xs,rfl,hx⟩
end TL
/-
  TlJudge4: directions around a point; a plot turned by a quarter; the example's rotation.
  By an AI agent.
-/
set_option linter.all false
namespace TL
section
variable{u v w:Pt}
end
section
variable{p:gL}{o:Pt}{l:List Int}
end
section
variable{u v:Pt}{i k:Int}
def ny(u:Pt):Prop:=0<=u.1/\0<u.2
instance (u:Pt):Decidable (ny u):=by unfold ny;infer_instance
end
section
variable{o:Pt}{ps:List Pt}
end
end TL
/-
  TlJTr: plots moved as a whole: their flaws.
  By an AI agent.
-/
set_option linter.all false
namespace TL
section
variable{T:Pt->Pt}{D:Pt->Prop}{g:bK}{p:gL}{l a b but:List Pt}{q:Pt}{i k:Nat}
end
section
variable{g:bK}{p:gL}
end
def nO(p:gL):Nat->Int
 |0=>(p.1.length:Int)
 |k+1=>nO p k+((gI p.2 (k:Int)).length:Int)+1
def kR(g:bK)(p:gL):Prop:=nO p p.2.length<=400/\(¬bw g\/g.1<=30/\(g.2.length:Int)<=40)
instance (g:bK)(p:gL):Decidable (kR g p):=by unfold kR;infer_instance
end TL
namespace TL
section
variable{g:bK}{p:gL}{l r:List Pt}{L:List (List Pt)}{k e:Nat}
end
end TL
namespace TL
section
variable{α:Type}[Inhabited α][DecidableEq α]{a b:List α}{k:Nat}
end
section
variable{g:bK}{p:gL}{n:Int}{e:Nat}
end
end TL
/-
  TlWord: words and bytes in memory (a list of uint64, a list of uint8), and how a statement's argument of them is opened.
  By an AI agent.
-/
set_option linter.all false
namespace TL
open Go Go.Proofs Go.ChangeShapes Go.WideShapes Go.Joins Go.Deep
structure Wd where
  n:Nat
  lt:n<18446744073709551616
instance:Inhabited Wd:=⟨⟨0,by decide⟩⟩
instance:Rp Wd where
 sz:=1
 rep _ _ _ cs x:=cs=[.int .u64 (x.n:Int)]
 len h:=by subst h;rfl
 one h:=by subst h;simp[Value.oneCell']
 tr _ _ h:=h
instance:Fl Wd where
 cells x:=[.int .u64 (x.n:Int)]
 rep_iff:=Iff.rfl
structure Bt where
  n:Nat
  lt:n<256
instance:Inhabited Bt:=⟨⟨0,by decide⟩⟩
instance:Rp Bt where
 sz:=1
 rep _ _ _ cs x:=cs=[.int .u8 (x.n:Int)]
 len h:=by subst h;rfl
 one h:=by subst h;simp[Value.oneCell']
 tr _ _ h:=h
instance:Fl Bt where
 cells x:=[.int .u8 (x.n:Int)]
 rep_iff:=Iff.rfl
end TL
namespace TL
open Go Go.Proofs Go.ChangeShapes Go.WideShapes Go.Joins Go.Deep
end TL
namespace TL
open Go
end TL
/-
  TlDij3: lengths of small whole weights: one way and another compared.
  By an AI agent.
-/
set_option linter.all false
namespace TL
variable{g g1 g2:bK}{ws w1 w2:List Nat}{s s1 s2:Int}{far f1 f2:List Nat}{by_ b1 b2:List Int}{rk r1 r2:Int->Nat}{C:Nat}
def cY(h:Int):Int:=if h%2=0 then h+1 else h-1
theorem jm{h:Int}(hh:hf g h):hf g (cY h)/\cY h/2=h/2/\bA g (cY h)=dE g h/\dE g (cY h)=bA g h:=by
 have h0:=hh.1
 have h1:=hh.2
 have e1:cY h/2=h/2:=by unfold cY;split<;>omega
 have e2:cY h%2=1-h%2:=by unfold cY;split<;>omega
 refine⟨⟨by unfold cY;split<;>omega,by unfold cY;split<;>omega⟩,e1,?_,?_⟩
 · unfold bA dE;rw[e1,e2]
 · unfold bA dE;rw[e1,e2,show 1-(1-h%2)=h%2 by omega]
end TL
namespace TL
end TL
/-
  TlBlk4: the walk that finds blocks, one way of a step at a time; the loop that looks for an edge on the stack.
  By an AI agent.
-/
set_option linter.all false
namespace TL
variable{g:bK}{R:Bs}{pl lo by_ nx:List Int}{fo:Int}{ed:List Int}{la:List Bool}{bl:List Int}{co:Int}{path:List Int}{u hh:Int}
theorem d7.via{s s':Bs}{path path':List Int}(hm:bw g)(h:d7 g R s path)(hp:0<(path.length:Int))(hu:u=gI path ((path.length:Int)-1))(e:cZ g s path u=(s',path')):d7 g R s' path'/\b5 g s' path'<b5 g s path:=by
 have:=h.step hm (λk=>by rw[k] at hp;simp at hp) hu
 rw[e] at this;exact this
abbrev bs(pl lo by_ nx:List Int)(fo:Int)(ed:List Int)(la:List Bool)(bl:List Int)(co:Int):Bs:=⟨pl,lo,by_,nx,fo,ed,la,bl,co⟩
theorem d7.skip(hm:bw g)(h:d7 g R (bs pl lo by_ nx fo ed la bl co) path)(hp:0<(path.length:Int))(hu:u=gI path ((path.length:Int)-1))(hn:¬gI nx u=((gI (aY g) u).length:Int))(eh:gI (gI (aY g) u) (gI nx u)=hh)(hl:gI la (hh/2)=true):
    d7 g R (bs pl lo by_ (nx.set u.toNat (gI nx u+1)) fo ed la bl co) path/\b5 g (bs pl lo by_ (nx.set u.toNat (gI nx u+1)) fo ed la bl co) path<b5 g (bs pl lo by_ nx fo ed la bl co) path:=by
  refine h.via hm hp hu ?_
  unfold cZ
  rw[if_neg hn]
  simp only[eh]
  unfold dW
  rw[if_pos hl];rfl
theorem d7.loop(hm:bw g)(h:d7 g R (bs pl lo by_ nx fo ed la bl co) path)(hp:0<(path.length:Int))(hu:u=gI path ((path.length:Int)-1))(hn:¬gI nx u=((gI (aY g) u).length:Int))(eh:gI (gI (aY g) u) (gI nx u)=hh)(hl:¬gI la (hh/2)=true)(hw:dE g hh=u):
    d7 g R (dp (bs pl lo by_ (nx.set u.toNat (gI nx u+1)) fo (ed++[hh/2]) (la.set (hh/2).toNat true) bl co) (hh/2)) path/\b5 g (dp (bs pl lo by_ (nx.set u.toNat (gI nx u+1)) fo (ed++[hh/2]) (la.set (hh/2).toNat true) bl co) (hh/2)) path<b5 g (bs pl lo by_ nx fo ed la bl co) path:=by
  refine h.via hm hp hu ?_
  unfold cZ
  rw[if_neg hn]
  simp only[eh]
  unfold dW
  rw[if_neg hl,if_pos hw];rfl
theorem d7.new(hm:bw g)(h:d7 g R (bs pl lo by_ nx fo ed la bl co) path)(hp:0<(path.length:Int))(hu:u=gI path ((path.length:Int)-1))(hn:¬gI nx u=((gI (aY g) u).length:Int))(eh:gI (gI (aY g) u) (gI nx u)=hh)(hl:¬gI la (hh/2)=true){w:Int}(ew:dE g hh=w)(hw:¬w=u)(hz:gI pl w=0):
    d7 g R (bs (pl.set w.toNat (fo+1)) (lo.set w.toNat (fo+1)) (by_.set w.toNat hh) (nx.set u.toNat (gI nx u+1)) (fo+1) (ed++[hh/2]) (la.set (hh/2).toNat true) bl co) (path++[w])/\b5 g (bs (pl.set w.toNat (fo+1)) (lo.set w.toNat (fo+1)) (by_.set w.toNat hh) (nx.set u.toNat (gI nx u+1)) (fo+1) (ed++[hh/2]) (la.set (hh/2).toNat true) bl co) (path++[w])<b5 g (bs pl lo by_ nx fo ed la bl co) path:=by
  subst ew
  refine h.via hm hp hu ?_
  unfold cZ
  rw[if_neg hn]
  simp only[eh]
  unfold dW
  rw[if_neg hl,if_neg hw,if_pos hz];rfl
theorem d7.back(hm:bw g)(h:d7 g R (bs pl lo by_ nx fo ed la bl co) path)(hp:0<(path.length:Int))(hu:u=gI path ((path.length:Int)-1))(hn:¬gI nx u=((gI (aY g) u).length:Int))(eh:gI (gI (aY g) u) (gI nx u)=hh)(hl:¬gI la (hh/2)=true){w:Int}(ew:dE g hh=w)(hw:¬w=u)(hz:¬gI pl w=0):
    d7 g R (bs pl (lo.set u.toNat (min (gI lo u) (gI pl w))) by_ (nx.set u.toNat (gI nx u+1)) fo (ed++[hh/2]) (la.set (hh/2).toNat true) bl co) path/\b5 g (bs pl (lo.set u.toNat (min (gI lo u) (gI pl w))) by_ (nx.set u.toNat (gI nx u+1)) fo (ed++[hh/2]) (la.set (hh/2).toNat true) bl co) path<b5 g (bs pl lo by_ nx fo ed la bl co) path:=by
  subst ew
  refine h.via hm hp hu ?_
  unfold cZ
  rw[if_neg hn]
  simp only[eh]
  unfold dW
  rw[if_neg hl,if_neg hw,if_neg hz];rfl
theorem d7.off0(hm:bw g)(h:d7 g R (bs pl lo by_ nx fo ed la bl co) path)(hp:0<(path.length:Int))(hu:u=gI path ((path.length:Int)-1))(hn:gI nx u=((gI (aY g) u).length:Int))(hb:gI by_ u<0):
    d7 g R (bs pl lo by_ nx fo ed la bl co) path.dropLast/\b5 g (bs pl lo by_ nx fo ed la bl co) path.dropLast<b5 g (bs pl lo by_ nx fo ed la bl co) path:=by
  refine h.via hm hp hu ?_
  unfold cZ
  rw[if_pos hn]
  unfold ea
  rw[if_pos hb]
theorem d7.off1(hm:bw g)(h:d7 g R (bs pl lo by_ nx fo ed la bl co) path)(hp:0<(path.length:Int))(hu:u=gI path ((path.length:Int)-1))(hn:gI nx u=((gI (aY g) u).length:Int))(hb:¬gI by_ u<0){q:Int}(eq:bA g (gI by_ u)=q){lo':List Int}(el:lo'=lo.set q.toNat (min (gI lo q) (gI lo u)))(hc:¬gI pl q<=gI lo' u):
    d7 g R (bs pl lo' by_ nx fo ed la bl co) path.dropLast/\b5 g (bs pl lo' by_ nx fo ed la bl co) path.dropLast<b5 g (bs pl lo by_ nx fo ed la bl co) path:=by
  subst eq el
  refine h.via hm hp hu ?_
  unfold cZ
  rw[if_pos hn]
  unfold ea
  rw[if_neg hb]
  simp only
  rw[if_neg hc]
theorem d7.off2(hm:bw g)(h:d7 g R (bs pl lo by_ nx fo ed la bl co) path)(hp:0<(path.length:Int))(hu:u=gI path ((path.length:Int)-1))(hn:gI nx u=((gI (aY g) u).length:Int))(hb:¬gI by_ u<0){q:Int}(eq:bA g (gI by_ u)=q){lo':List Int}(el:lo'=lo.set q.toNat (min (gI lo q) (gI lo u)))(hc:gI pl q<=gI lo' u):
    d7 g R (dp (bs pl lo' by_ nx fo ed la bl co) (gI by_ u/2)) path.dropLast/\b5 g (dp (bs pl lo' by_ nx fo ed la bl co) (gI by_ u/2)) path.dropLast<b5 g (bs pl lo by_ nx fo ed la bl co) path:=by
  subst eq el
  refine h.via hm hp hu ?_
  unfold cZ
  rw[if_pos hn]
  unfold ea
  rw[if_neg hb]
  simp only
  rw[if_pos hc]
theorem d7.loop1(hm:bw g)(h:d7 g R (bs pl lo by_ nx fo ed la bl co) path)(hp:0<(path.length:Int))(hu:u=gI path ((path.length:Int)-1))(hn:¬gI nx u=((gI (aY g) u).length:Int))(eh:gI (gI (aY g) u) (gI nx u)=hh)(hl:¬gI la (hh/2)=true)(hw:dE g hh=u){s':Bs}(hc:dp (bs pl lo by_ (nx.set u.toNat (gI nx u+1)) fo (ed++[hh/2]) (la.set (hh/2).toNat true) bl co) (hh/2)=s'):
   d7 g R s' path/\b5 g s' path<b5 g (bs pl lo by_ nx fo ed la bl co) path:=by
 subst hc;exact h.loop hm hp hu hn eh hl hw
theorem d7.off3(hm:bw g)(h:d7 g R (bs pl lo by_ nx fo ed la bl co) path)(hp:0<(path.length:Int))(hu:u=gI path ((path.length:Int)-1))(hn:gI nx u=((gI (aY g) u).length:Int))(hb:¬gI by_ u<0){q:Int}(eq:bA g (gI by_ u)=q){lo':List Int}(el:lo'=lo.set q.toNat (min (gI lo q) (gI lo u)))(hc:gI pl q<=gI lo' u){s':Bs}(hcl:dp (bs pl lo' by_ nx fo ed la bl co) (gI by_ u/2)=s'):
   d7 g R s' path.dropLast/\b5 g s' path.dropLast<b5 g (bs pl lo by_ nx fo ed la bl co) path:=by
 subst hcl;exact h.off2 hm hp hu hn hb eq el hc
structure gS(ed:List Int)(x at_:Int):Prop where
  mem:x∈ed
  nd:ed.Nodup
  lo:0<=at_
  hi:at_<ed.length
  no:∀j:Int,at_<j->j<ed.length->gI ed j≠x
theorem gS.start{x:Int}(hn:ed.Nodup)(hx:x∈ed):gS ed x ((ed.length:Int)-1):=by
 have:0<ed.length:=List.length_pos_of_mem hx
 exact⟨hx,hn,by omega,by omega,λj a b=>by omega⟩
theorem gS.next{x at_:Int}(h:gS ed x at_)(hne:¬gI ed at_=x):gS ed x (at_-1)/\1<=at_:=by
 have h1:=h.lo
 have h2:=h.hi
 have hp:1<=at_:=by
   by_cases c:1<=at_
   · exact c
   · exfalso
     obtain⟨i,hi,e⟩:=List.mem_iff_getElem.1 h.mem
     have e2:gI ed (i:Int)=x:=by rw[<-e];simp[gI,hi]
     by_cases k:(i:Int)=at_
     · rw[k] at e2;exact hne e2
     · exact h.no i (by omega) (by omega) e2
 refine⟨⟨h.mem,h.nd,by omega,by omega,λj a b=>?_⟩,hp⟩
 by_cases k:j=at_
 · rw[k];exact hne
 · exact h.no j (by omega) b
theorem gS.done{x at_:Int}(h:gS ed x at_)(he:gI ed at_=x):at_=(iQ ed x:Int):=by
 obtain⟨A,B,e1,hA,hB,e2⟩:=j7 h.nd h.mem
 have h1:=h.lo
 have h2:=h.hi
 rw[e2]
 have hl:ed.length=A.length+1+B.length:=by rw[e1];simp;omega
 have hA2:gI ed (A.length:Int)=x:=by rw[e1];simp[gI]
 rcases Int.lt_trichotomy at_ A.length with c|c|c
 · exact absurd hA2 (h.no _ c (by omega))
 · exact c
 · exfalso
   obtain⟨k,rfl⟩:∃k:Nat,at_=k:=⟨at_.toNat,by omega⟩
   have hk:k<ed.length:=by omega
   have e3:gI ed (k:Int)=ed[k]:=by simp[gI,hk]
   have:ed[k]∈B:=by
     have hk2:k-(A.length+1)<B.length:=by omega
     have e4:ed[k]=B[k-(A.length+1)]:=by
       have:ed[k]? =B[k-(A.length+1)]? :=by
         rw[e1,List.getElem?_append_right (by omega),List.getElem?_cons,if_neg (by omega)]
         congr 1
       rw[List.getElem?_eq_getElem hk,List.getElem?_eq_getElem hk2] at this
       exact Option.some.inj this
     rw[e4];exact List.getElem_mem hk2
   rw[e3] at he
   rw[he] at this
   exact hB this
end TL
namespace TL
open Go
theorem ly(n:Nat):n^^^1=if n%2=0 then n+1 else n-1:=by
 have h1:(n^^^1)%2=(n+1)%2:=by
   have:= @Nat.xor_mod_two_eq_one n 1
   by_cases c:(n^^^1)%2=1
   · have:=this.1 c;omega
   · have h3:¬¬(n%2=1↔1%2=1):=λk=>c (this.2 k)
     have h4:=Decidable.not_not.1 h3
     have:n%2=1:=h4.2 rfl
     omega
 have h2:(n^^^1)/2=n/2:=by rw[Nat.xor_div_two];simp
 split<;>omega
theorem eO{m:Int}(t:TypeId)(h0:0<=m)(h1:m<4611686018427387904):binOp .xor t (.int .i64 m) (.int .i64 1)=pure (.int .i64 (cY m)):=by
 obtain⟨n,rfl⟩:=Int.eq_ofNat_of_zero_le h0
 have hn:n<4611686018427387904:=by omega
 have e:(BitVec.ofInt 64 (n:Int)^^^BitVec.ofInt 64 1).toNat=n^^^1:=by
   rw[BitVec.toNat_xor]
   have e1:(BitVec.ofInt 64 (n:Int)).toNat=n:=by
     rw[BitVec.toNat_ofInt];omega
   have e2:(BitVec.ofInt 64 (1:Int)).toNat=1:=by decide
   rw[e1,e2]
 have h3:(((n^^^1:Nat)):Int)=cY (n:Int):=by
   rw[ly];unfold cY
   split<;>split<;>omega
 show(pure (Value.int .i64 (IntKind.i64.wrap ((BitVec.ofInt 64 (n:Int)^^^BitVec.ofInt 64 1).toNat:Int))):Sem Value)=_
 rw[e,h3,eI]
 unfold cY;unfold mI;split<;>omega
end TL
namespace TL
variable{g:bK}{s:Bs}{path:List Int}
theorem gT(h:dc g s path):0<=s.found/\s.found<=g.1/\0<=s.count/\s.count+(s.edges.length:Int)<=(g.2.length:Int):=by
  have h1:=h.fn
  have h2:=h.cl
  have h3:s.laid.count true<=s.laid.length:=List.count_le_length
  have h4:=h.l5
  exact⟨h.f0,by omega,h.ct,by omega⟩
theorem jV{l:List Int}{n q:Nat}(h:l=List.replicate q (-1)++List.replicate (n-q) 0)(hq:q<=n):l.length=n:=by
 rw[h];simp;omega
theorem iu{l:List Int}{n q:Nat}(h:l=List.replicate q (-1)++List.replicate (n-q) 0)(hq:q<n):l.set (Int.toNat (q:Int)) (-1)=List.replicate (q+1) (-1)++List.replicate (n-(q+1)) 0:=by
 rw[h,Int.toNat_natCast,List.set_append_right _ _ (by simp)]
 simp only[List.length_replicate,Nat.sub_self]
 rw[show n-q=(n-(q+1))+1 by omega,List.replicate_succ,List.set_cons_zero,List.replicate_succ',List.append_assoc]
 rfl
def j5(L bl:List Int)(co:Int)(k:Nat):List Int:=(L.take k).foldl (λb x=>b.set x.toNat co) bl
theorem jH{L bl:List Int}{co:Int}:bl=j5 L bl co 0:=rfl
theorem gh{L bl b:List Int}{co:Int}{k:Nat}(h:b=j5 L bl co k):b.length=bl.length:=by rw[h];unfold j5;exact gF _ _ _
theorem fh{L bl b:List Int}{co:Int}{k:Nat}(h:b=j5 L bl co k)(hk:(k:Int)<L.length):b.set (gI L (k:Int)).toNat co=j5 L bl co (k+1):=by
 have hk':k<L.length:=by omega
 unfold j5 at*
 rw[List.take_succ_eq_append_getElem hk',List.foldl_append,<-h]
 have e:gI L (k:Int)=L[k]:=by simp[gI,hk']
 rw[e];rfl
theorem di{pl lo by_ nx:List Int}{fo:Int}{ed:List Int}{la:List Bool}{bl:List Int}{co x at_:Int}{bk:List Int}{k:Nat}(ha:gS ed x at_)(he:gI ed at_=x)(hb:bk=j5 (List.drop (Int.toNat at_) (List.take (Int.toNat (ed.length:Int)) ed)) bl co k)
   (hk:¬(k:Int)<((List.drop (Int.toNat at_) (List.take (Int.toNat (ed.length:Int)) ed)).length:Int))(hk2:(k:Int)<=((List.drop (Int.toNat at_) (List.take (Int.toNat (ed.length:Int)) ed)).length:Int)):
   dp (bs pl lo by_ nx fo ed la bl co) x=bs pl lo by_ nx fo (ed.take (Int.toNat at_)) la bk (co+1):=by
 have e:=ha.done he
 have el:List.drop (Int.toNat at_) (List.take (Int.toNat (ed.length:Int)) ed)=ed.drop (iQ ed x):=by
   rw[e,Int.toNat_natCast,Int.toNat_natCast,List.take_length]
 rw[el] at hb hk hk2
 have hk3:k=(ed.drop (iQ ed x)).length:=by omega
 unfold dp
 rw[hb]
 unfold j5
 rw[hk3,List.take_length,e,Int.toNat_natCast]
theorem cm{path:List Int}:List.take (Int.toNat ((path.length:Int)-1)) path=path.dropLast:=by
 rw[List.dropLast_eq_take];congr 1;omega
theorem jJ{s s':Bs}{v:Nat}(h:s=cO g v)(hp:gI s.place (v:Int)=0)(hR:s'=cF g s (v:Int)):s'=cO g (v+1):=by
 rw[fy,<-h,if_pos hp];exact hR
theorem lm{s:Bs}{v:Nat}(h:s=cO g v)(hp:¬gI s.place (v:Int)=0):s=cO g (v+1):=by
 rw[fy,<-h,if_neg hp]
end TL
namespace TL
variable{g:bK}{of o:List Int}{c:List Bool}{k:Nat}
structure dT(of:List Int)(g:bK)(o:List Int)(c:List Bool)(k:Nat):Prop where
  eq:(o,c)=kz of g k
  lo:(o.length:Int)=g.1
  lc:(c.length:Int)=g.1
theorem jF{pl lo by_ nx:List Int}{fo:Int}{ed:List Int}{la:List Bool}{bl:List Int}{co:Int}{path:List Int}{O:List (List Int)}{u:Int}(h:dc g (bs pl lo by_ nx fo ed la bl co) path)(hO:O=aY g)(hp:0<(path.length:Int))(hu:gI path ((path.length:Int)-1)=u):
    ((0<=u/\u<g.1)/\(0<=gI nx u/\gI nx u<=((gI O u).length:Int)))/\(gI by_ u= -1\/(0<=gI by_ u/\gI by_ u<2*(g.2.length:Int))):=by
  have hm:=h.pr _ (bV (xs:=path) (i:=(path.length:Int)-1) (by omega) (by omega))
  rw[hu] at hm
  rw[hO]
  refine⟨⟨hm.1,h.nx _ hm.1.1 hm.1.2⟩,?_⟩
  rcases h.by_ _ hm.1.1 hm.1.2 with k|k
  · exact .inl k
  · exact .inr k.1
theorem k4{pl lo by_ nx:List Int}{fo:Int}{ed:List Int}{la:List Bool}{bl:List Int}{co:Int}{path:List Int}{O:List (List Int)}{u:Int}(hm:bw g)(h:dc g (bs pl lo by_ nx fo ed la bl co) path)(hO:O=aY g)(u0:0<=u)(u1:u<g.1)(hn:¬gI nx u=((gI O u).length:Int)):
   (0<=gI (gI O u) (gI nx u)/\gI (gI O u) (gI nx u)<2*(g.2.length:Int))/\(0<=dE g (gI (gI O u) (gI nx u))/\dE g (gI (gI O u) (gI nx u))<g.1):=by
 obtain⟨n0,n1⟩:=h.nx u u0 u1
 rw[hO] at hn ⊢
 have hin:gI (gI (aY g) u) (gI nx u)∈gI (aY g) u:=bV n0 (by
   have n1':gI nx u<=((gI (aY g) u).length:Int):=n1
   omega)
 rw[e7 u0 u1] at hin
 have ho:=(hH hin).1
 rw[<-e7 u0 u1] at ho
 exact⟨ho,fE hm ho.1 ho.2⟩
theorem dT.start(h0:0<=g.1):dT of g (List.replicate (Int.toNat g.1) 0) (List.replicate (Int.toNat g.1) false) 0:=⟨rfl,by simp;omega,by simp;omega⟩
theorem dT.next(h:dT of g o c k){v e b:Int}{bb:Bool}(hv:bA g (k:Int)=v)(he:(k:Int)/2=e)(hb:b=gI of e+1)(hbb:bb=(gI c v||(decide (0<gI o v)&& !decide (gI o v=gI of e+1)))):dT of g (o.set (Int.toNat v) b) (c.set (Int.toNat v) bb) (k+1):=by
 subst hv he hb hbb
 refine⟨?_,by rw[List.length_set];exact h.lo,by rw[List.length_set];exact h.lc⟩
 unfold kz
 rw[cJ,List.foldl_append]
 show _=nK of g (kz of g k) (k:Int)
 rw[<-h.eq];rfl
theorem dT.two(h:dT of g o c (2*k)){v v2 b b2:Int}{bb bb2:Bool}(hv:(gI g.2 (k:Int)).1=v)(hv2:(gI g.2 (k:Int)).2=v2)(hb:b=gI of (k:Int)+1)(hbb:bb=(gI c v||(decide (0<gI o v)&& !decide (gI o v=gI of (k:Int)+1))))(hb2:b2=gI of (k:Int)+1)(hbb2:bb2=(gI (c.set (Int.toNat v) bb) v2||(decide (0<gI (o.set (Int.toNat v) b) v2)&& !decide (gI (o.set (Int.toNat v) b) v2=gI of (k:Int)+1)))):
   dT of g ((o.set (Int.toNat v) b).set (Int.toNat v2) b2) ((c.set (Int.toNat v) bb).set (Int.toNat v2) bb2) (2*(k+1)):=by
 have e1:((2*k:Nat):Int)/2=(k:Int):=by omega
 have e2:((2*k+1:Nat):Int)/2=(k:Int):=by omega
 have f1:bA g ((2*k:Nat):Int)=v:=by
   rw[<-hv];unfold bA;rw[e1,show((2*k:Nat):Int)%2=0 by omega];rfl
 have f2:bA g ((2*k+1:Nat):Int)=v2:=by
   rw[<-hv2];unfold bA;rw[e2,show((2*k+1:Nat):Int)%2=1 by omega];rfl
 exact(h.next f1 e1 hb hbb).next f2 e2 hb2 hbb2
theorem fL{x y:Bool}(h:x=true):true=(x||y):=by rw[h];rfl
theorem fG{x:Bool}{y:Int}{q:Prop}[Decidable q](h:¬x=true)(hp:¬0<y):false=(x||(decide (0<y)&& !decide q)):=by
 rw[decide_eq_false hp];simpa using h
theorem fI{x:Bool}{y:Int}{q:Prop}[Decidable q](h:¬x=true)(hp:0<y):(!decide q)=(x||(decide (0<y)&& !decide q)):=by
 have:x=false:=by simpa using h
 rw[this,decide_eq_true hp];simp
theorem iJ{a:List Int}{l:List Bool}{k:Nat}(h:a=(c7 k).filter λv=>gI l v):(a.length:Int)<=(k:Int):=by
 have h1:=List.length_filter_le (λv=>gI l v) (c7 k)
 have h2:(c7 k).length=k:=by simp[c7]
 rw[h];omega
theorem lh{a:List Int}{l:List Bool}{k:Nat}(h:a=(c7 k).filter λv=>gI l v)(hk:gI l (k:Int)=true):a++[(k:Int)]=(c7 (k+1)).filter λv=>gI l v:=by
 rw[h,cJ,List.filter_append];simp[hk]
theorem lZ{a:List Int}{l:List Bool}{k:Nat}(h:a=(c7 k).filter λv=>gI l v)(hk:¬gI l (k:Int)=true):a=(c7 (k+1)).filter λv=>gI l v:=by
 rw[h,cJ,List.filter_append];simp[hk]
end TL
namespace TL
variable{g:bK}
theorem jK{pl lo by_ nx:List Int}{fo:Int}{ed:List Int}{la:List Bool}{bl:List Int}{co:Int}{path:List Int}(h0:0<=g.1)(h:dc g (bs pl lo by_ nx fo ed la bl co) path):(path.length:Int)<=g.1:=by
 have:=kS g.1.toNat path h.pn (λx hx=>by have:=(h.pr x hx).1;omega)
 omega
theorem mW{b:List Int}{q:Nat}(hb:b=List.replicate q (-1)++List.replicate (Int.toNat g.1-q) 0)(hq:(q:Int)=g.1):
   bs (List.replicate (Int.toNat g.1) 0) (List.replicate (Int.toNat g.1) 0) b (List.replicate (Int.toNat g.1) 0) 0 [] (List.replicate (Int.toNat (g.2.length:Int)) false) (List.replicate (Int.toNat (g.2.length:Int)) 0) 0=cO g 0:=by
 have e:q=Int.toNat g.1:=by omega
 subst e
 rw[hb,Nat.sub_self,List.replicate_zero,List.append_nil,Int.toNat_natCast];rfl
theorem fm(g:bK):0<=cX g/\cX g<=(g.2.length:Int):=by
 have:=(gi (cO g g.1.toNat).block g.2.length).2
 unfold cX;omega
theorem ll{b:List Int}(hb:b=(cO g (Int.toNat g.1)).block)(hl:(b.length:Int)=g.2.length):ar b b.length=(ar (cO g g.1.toNat).block g.2.length):=by
 have:b.length=g.2.length:=by omega
 rw[this,hb]
theorem d7.fin{R s:Bs}{path:List Int}(h:d7 g R s path)(hp:¬0<(path.length:Int)):s=R:=by
 have e:path=[]:=List.eq_nil_of_length_eq_zero (by omega)
 subst e
 exact h.done
def a0(g:bK):List Int×List Int×Int:=(e9 g,ke g,cX g)
theorem jp{b cu oo:List Int}{cc:List Bool}{j k:Nat}(hnam:ar b b.length=ar (cO g g.1.toNat).block g.2.length)(hcu:cu=(c7 j).filter λv=>gI cc v)(hj:(j:Int)=(cc.length:Int))(hci:dT (e9 g) g oo cc (2*k))(hk:(k:Int)=(g.2.length:Int)):
   ((ar b b.length).2,cu,((ar b b.length).1.length:Int))=a0 g:=by
 have e1:k=g.2.length:=by omega
 have e2:j=g.1.toNat:=by have:=hci.lc;omega
 have e3:cc=(kz (e9 g) g (2*g.2.length)).2:=by rw[<-e1,<-hci.eq]
 rw[hnam,hcu,e2,e3];rfl
end TL
/-
  TlBlk5: bridges, and whether a net is biconnected, as the program does it.
  By an AI agent.
-/
set_option linter.all false
namespace TL
variable{g:bK}{of:List Int}{n k:Nat}
theorem mN(l:List Int)(i:Nat)(x b:Int):gI (l.set i x) b=if b.toNat=i/\i<l.length then x else gI l b:=by
 unfold gI
 rw[List.getD_eq_getElem?_getD,List.getD_eq_getElem?_getD,List.getElem?_set]
 by_cases h1:i=b.toNat
 · rw[if_pos h1]
   by_cases h2:i<l.length
   · rw[if_pos h2,if_pos ⟨h1.symm,h2⟩];rfl
   · rw[if_neg h2,if_neg (λh=>h2 h.2),List.getElem?_eq_none (by omega)]
 · rw[if_neg h1,if_neg (λh=>h1 h.1.symm)]
theorem ia(of:List Int)(n:Nat):∀k:Nat,(k:Int)<=of.length->∀b:Int,0<=gI (cI of n k) b/\gI (cI of n k) b<=k
 |0,_,b=>by
   have:gI (cI of n 0) b=0:=by
     show gI (List.replicate n (0:Int)) b=0
     by_cases c:b.toNat<n
     · simp[gI,c]
     · simp[gI,c]
   omega
 |k+1,hk,b=>by
   have ih:=ia of n k (by omega)
   rw[fA (by omega),mN]
   have h1:=ih (gI of (k:Int))
   have h2:=ih b
   split<;>omega
theorem fR{l:List Int}(h:l=bj g k):(l.length:Int)<=k:=by
 have h1:=List.length_filter_le (λe=>decide (gI (cI (e9 g) (cX g).toNat g.2.length) (gI (e9 g) e)=1)&& !decide ((gI g.2 e).1=(gI g.2 e).2)) (c7 k)
 have h2:(c7 k).length=k:=by simp[c7]
 rw[h]
 show(((c7 k).filter _).length:Int)<=k
 omega
theorem lH{l size:List Int}{j:Nat}(hs:size=cI (a0 g).1 (Int.toNat (a0 g).2.2) k)(hk:(k:Int)=g.2.length)(hl:l=bj g j)(q:gI size (gI (a0 g).1 (j:Int))=1)(p:¬(gI g.2 (j:Int)).1=(gI g.2 (j:Int)).2):l++[(j:Int)]=bj g (j+1):=by
 have e:k=g.2.length:=by omega
 subst e
 rw[iF (decide_eq_true (by rw[hs] at q;exact q)) p,hl]
theorem jI{l size:List Int}{j:Nat}(hs:size=cI (a0 g).1 (Int.toNat (a0 g).2.2) k)(hk:(k:Int)=g.2.length)(hl:l=bj g j)(q:¬gI size (gI (a0 g).1 (j:Int))=1\/(gI g.2 (j:Int)).1=(gI g.2 (j:Int)).2):l=bj g (j+1):=by
 have e:k=g.2.length:=by omega
 subst e
 rw[ji (q.imp_left λh=>by rw[hs] at h;exact h),hl]
def ju(g:bK)(k:Nat):List Bool:=(g.2.take k).foldl (λb e=>(b.set e.1.toNat true).set e.2.toNat true) (List.replicate g.1.toNat false)
structure gP(g:bK)(at_:List Bool)(k:Nat):Prop where
 eq:at_=ju g k
 lo:(at_.length:Int)=g.1
 no:∀j:Int,0<=j->j<k->¬(gI g.2 j).1=(gI g.2 j).2
theorem gP.start(h0:0<=g.1):gP g (List.replicate (Int.toNat g.1) false) 0:=⟨rfl,by simp;omega,λj a b=>by omega⟩
theorem gP.next{at_:List Bool}(h:gP g at_ k)(hk:(k:Int)<g.2.length)(hn:¬(gI g.2 (k:Int)).1=(gI g.2 (k:Int)).2):gP g ((at_.set (Int.toNat (gI g.2 (k:Int)).1) true).set (Int.toNat (gI g.2 (k:Int)).2) true) (k+1):=by
 have hk':k<g.2.length:=by omega
 refine⟨?_,by simp only[List.length_set];exact h.lo,λj a b=>?_⟩
 · unfold ju
   rw[List.take_succ_eq_append_getElem hk',List.foldl_append]
   have e:gI g.2 (k:Int)=g.2[k]:=by simp[gI,hk']
   rw[e,h.eq];rfl
 · by_cases c:j=(k:Int)
   · rw[c];exact hn
   · exact h.no j a (by omega)
def bX(g:bK):Bool:=decide (2<=g.1/\(∀e∈g.2,¬e.1=e.2)/\¬false∈ju g g.2.length/\cX g=1)
theorem iO(h:g.1<2):false=bX g:=by
 unfold bX;rw[decide_eq_false];rintro⟨a,_⟩;omega
theorem jr(hk:(k:Int)<g.2.length)(h:(gI g.2 (k:Int)).1=(gI g.2 (k:Int)).2):false=bX g:=by
 unfold bX;rw[decide_eq_false];rintro⟨_,a,_⟩
 exact a _ (bV (xs:=g.2) (i:=(k:Int)) (by omega) hk) h
theorem kI{at_:List Bool}(h:gP g at_ k)(hk:k=g.2.length)(hf:false∈at_):false=bX g:=by
 subst hk
 unfold bX;rw[decide_eq_false];rintro⟨_,_,a,_⟩
 rw[h.eq] at hf;exact a hf
theorem lF{at_:List Bool}(h:gP g at_ k)(hk:k=g.2.length)(h2:¬g.1<2)(hf:¬false∈at_):decide ((a0 g).2.2=1)=bX g:=by
 subst hk
 unfold bX
 rw[decide_eq_decide]
 refine⟨λhc=>⟨by omega,λe he=>?_,by rw[<-h.eq];exact hf,hc⟩,λhc=>hc.2.2.2⟩
 obtain⟨i,hi,rfl⟩:=List.mem_iff_getElem.1 he
 have:=h.no (i:Int) (by omega) (by omega)
 have e:gI g.2 (i:Int)=g.2[i]:=by simp[gI,hi]
 rwa[e] at this
def bZ(g:bK):Bool×Int:=if bw g then(bX g,0) else(false,1)
def eZ(s:List Bool)(v:Bool):Int:=if v∈s then(s.idxOf v:Int) else-1
theorem kK{s:List Bool}{v:Bool}{i:Nat}(h:∀j:Nat,j<i->¬v=gI s (j:Int))(hi:(i:Int)<s.length)(he:v=gI s (i:Int)):(i:Int)=eZ s v:=by
 have hlt:i<s.length:=by omega
 have e:gI s (i:Int)=s[i]:=by simp[gI,hlt]
 have hm:v∈s:=by rw[he];exact bV (by omega) hi
 unfold eZ
 rw[if_pos hm]
 have hlt2:=List.idxOf_lt_length_iff.2 hm
 have h1:¬s.idxOf v<i:=λhlt'=>h _ hlt' (by simp[gI,hlt2])
 have h2:¬i<s.idxOf v:=λhlt'=>by
   have:=List.not_of_lt_findIdx (xs:=s) (p:=(· ==v)) (i:=i) hlt'
   simp at this
   exact this (by rw[<-e,<-he])
 omega
theorem mD{s:List Bool}{v:Bool}{i:Nat}(h:∀j:Nat,j<i->¬v=gI s (j:Int))(hi:¬(i:Int)<s.length): -1=eZ s v:=by
 unfold eZ
 rw[if_neg]
 intro hm
 obtain⟨j,hj,e⟩:=List.mem_iff_getElem.1 hm
 apply h j (by omega)
 rw[<-e];simp[gI,hj]
theorem kH{l:List Bool}{x:Bool}:decide (0<=eZ l x)=decide (x∈l):=by
 unfold eZ
 by_cases h:x∈l
 · rw[if_pos h,decide_eq_true h,decide_eq_true (by omega)]
 · rw[if_neg h,decide_eq_false h];rfl
end TL
/-
  TlBlk6: ears, as the program makes them.
  By an AI agent.
-/
set_option linter.all false
namespace TL
variable{g:bK}{pl by_:List Int}{R ears:List (List Int)}{rest:List (Int×Int)}{u:List Bool}{w v h:Int}{ear:List Int}
def lG(g:bK)(by_:List Int):Nat->List Bool->Int->List Int->Option (List Bool×List Int)
 |0,u,w,ear=>if gI u w=true then some (u,ear) else none
 |n+1,u,w,ear=>if gI u w=true then some (u,ear) else if gI by_ w<0 then none else lG g by_ n (u.set w.toNat true) (dE g (cY (gI by_ w))) (ear++[cY (gI by_ w)])
def eG(g:bK)(pl by_:List Int):List (Int×Int)->List Bool->List (List Int)->Option (List (List Int))
 |[],_,ears=>some ears
 |(v,h)::r,u,ears=>
   if gI by_ (dE g h)=h\/gI pl (dE g h)<gI pl v then eG g pl by_ r u ears
   else match lG g by_ g.1.toNat (u.set v.toNat true) (dE g h) [h] with
     |none=>none
     |some p=>eG g pl by_ r p.1 (ears++[p.2])
def dd(O:List (List Int))(l:List Int):List (Int×Int):=l.flatMap λv=>(gI O v).map λh=>(v,h)
def gA(pl:List Int)(n k:Nat):List Int:=(c7 k).foldl (λo v=>o.set (gI pl v-1).toNat v) (List.replicate n 0)
def dS(g:bK):Option (List (List Int)):=eG g (cO g g.1.toNat).place (cO g g.1.toNat).by_ (dd (aY g) (gA (cO g g.1.toNat).place g.1.toNat g.1.toNat)) (List.replicate g.1.toNat false) []
def l8(g:bK):Prop:=bw g->bX g=true->2<=g.2.length->(∀v∈c7 g.1.toNat,1<=gI (cO g g.1.toNat).place v/\gI (cO g g.1.toNat).place v<=g.1)/\(dd (aY g) (gA (cO g g.1.toNat).place g.1.toNat g.1.toNat)).length<=100000/\(dS g).isSome=true
def cS(g:bK):List (List Int)×Int:=if bw g then if bX g=true then if 2<=g.2.length then((dS g).getD [],0) else([],9) else([],7) else([],1)
structure i4(pl:List Int)(n:Int)(o:List Int)(k:Nat):Prop where
 eq:o=gA pl (Int.toNat n) k
 lo:(o.length:Int)=n
 rg:∀x∈o,0<=x/\x<n
theorem i4.start{n:Int}(h0:0<n):i4 pl n (List.replicate (Int.toNat n) 0) 0:=⟨rfl,by simp;omega,λx hx=>by rw[(List.mem_replicate.1 hx).2];omega⟩
theorem i4.next{n:Int}{o:List Int}{k:Nat}(h:i4 pl n o k)(hk:(k:Int)<n):i4 pl n (o.set (Int.toNat (gI pl (k:Int)-1)) (k:Int)) (k+1):=by
 refine⟨?_,by rw[List.length_set];exact h.lo,λx hx=>?_⟩
 · unfold gA
   rw[cJ,List.foldl_append,h.eq];rfl
 · rcases List.mem_or_eq_of_mem_set hx with c|c
   · exact h.rg x c
   · rw[c];omega
structure ga(g:bK)(pl by_:List Int)(R:List (List Int))(rest:List (Int×Int))(u:List Bool)(ears:List (List Int)):Prop where
 len:(u.length:Int)=g.1
 run:eG g pl by_ rest u ears=some R
 few:(ears.length:Int)+rest.length<=100000
structure lS(g:bK)(pl by_:List Int)(R:List (List Int))(rest:List (Int×Int))(ears:List (List Int))(u:List Bool)(w:Int)(ear:List Int):Prop where
 len:(u.length:Int)=g.1
 w0:0<=w
 w1:w<g.1
 run:∃f u2 e2,lG g by_ f u w ear=some (u2,e2)/\eG g pl by_ rest u2 (ears++[e2])=some R
 few:(ears.length:Int)+1+rest.length<=100000
 sh:(ear.length:Int)+(u.count false:Int)<=g.1+1
theorem ga.skip(hi:ga g pl by_ R ((v,h)::rest) u ears)(hw:dE g h=w)(hc:gI by_ w=h\/gI pl w<gI pl v):ga g pl by_ R rest u ears:=by
 subst hw
 have h1:=hi.run
 have h2:=hi.few
 rw[List.length_cons] at h2
 unfold eG at h1
 rw[if_pos hc] at h1
 exact⟨hi.len,h1,by omega⟩
theorem ga.up(hi:ga g pl by_ R ((v,h)::rest) u ears)(hw:dE g h=w)(hc:¬(gI by_ w=h\/gI pl w<gI pl v))(w0:0<=w)(w1:w<g.1):lS g pl by_ R rest ears (u.set (Int.toNat v) true) w [h]:=by
 subst hw
 have h1:=hi.run
 have h2:=hi.few
 rw[List.length_cons] at h2
 unfold eG at h1
 rw[if_neg hc] at h1
 have hl:=hi.len
 refine⟨by rw[List.length_set];exact hi.len,w0,w1,?_,by omega,?_⟩
 · cases e:lG g by_ g.1.toNat (u.set v.toNat true) (dE g h) [h] with
   |none=>rw[e] at h1;cases h1
   |some p=>rw[e] at h1;exact⟨_,p.1,p.2,e,h1⟩
 · have:(u.set (Int.toNat v) true).count false<=(u.set (Int.toNat v) true).length:=List.count_le_length
   rw[List.length_set] at this
   simp only[List.length_cons,List.length_nil];omega
theorem lS.byp(hi:lS g pl by_ R rest ears u w ear)(hu:¬gI u w=true):0<=gI by_ w:=by
 obtain⟨f,u2,e2,h1,_⟩:=hi.run
 cases f with
 |zero=>unfold lG at h1;rw[if_neg hu] at h1;cases h1
 |succ f=>
   unfold lG at h1
   rw[if_neg hu] at h1
   by_cases c:gI by_ w<0
   · rw[if_pos c] at h1;cases h1
   · omega
theorem fX{u:List Bool}{w:Int}(w0:0<=w)(w1:w<u.length)(hu:¬gI u w=true):(u.set (Int.toNat w) true).count false+1=u.count false:=by
 have hlt:w.toNat<u.length:=by omega
 have e:u[w.toNat]=false:=by
   have:gI u w=u[w.toNat]:=by simp[gI,hlt]
   rw[this] at hu;simpa using hu
 have hp:0<u.count false:=List.count_pos_iff.2 (e▸List.getElem_mem hlt)
 rw[List.count_set hlt,e]
 simp;omega
theorem lS.next(hi:lS g pl by_ R rest ears u w ear)(hu:¬gI u w=true){x y:Int}(hx:cY (gI by_ w)=x)(hy:dE g x=y)(y0:0<=y)(y1:y<g.1):lS g pl by_ R rest ears (u.set (Int.toNat w) true) y (ear++[x])/\(u.set (Int.toNat w) true).count false<u.count false:=by
 subst hx hy
 have hl:=hi.len
 have w0:=hi.w0
 have w1:=hi.w1
 have hb:=hi.byp hu
 have hc:=fX w0 (by omega) hu
 have hs:=hi.sh
 refine⟨⟨by rw[List.length_set];exact hl,y0,y1,?_,hi.few,by rw[List.length_append,List.length_singleton];omega⟩,by omega⟩
 obtain⟨f,u2,e2,h1,h2⟩:=hi.run
 cases f with
 |zero=>unfold lG at h1;rw[if_neg hu] at h1;cases h1
 |succ f=>
   unfold lG at h1
   rw[if_neg hu,if_neg (by omega)] at h1
   exact⟨f,u2,e2,h1,h2⟩
theorem lS.done(hi:lS g pl by_ R rest ears u w ear)(hu:gI u w=true):ga g pl by_ R rest u (ears++[ear]):=by
 obtain⟨f,u2,e2,h1,h2⟩:=hi.run
 have e:lG g by_ f u w ear=some (u,ear):=by
   cases f with
   |zero=>unfold lG;rw[if_pos hu]
   |succ f=>unfold lG;rw[if_pos hu]
 rw[e] at h1
 obtain⟨rfl,rfl⟩:u=u2/\ear=e2:=by simpa using h1
 exact⟨hi.len,h2,by have:=hi.few;rw[List.length_append,List.length_singleton];omega⟩
def dh(O:List (List Int))(o:List Int)(k i:Nat):List (Int×Int):=((gI O (gI o (k:Int))).drop i).map (λh=>(gI o (k:Int),h))++dd O (o.drop (k+1))
theorem ga.row{O:List (List Int)}{o:List Int}{k:Nat}(hi:ga g pl by_ R (dd O (o.drop k)) u ears)(hk:(k:Int)<o.length):ga g pl by_ R (dh O o k 0) u ears:=by
 have hk':k<o.length:=by omega
 have e:dd O (o.drop k)=dh O o k 0:=by
   rw[List.drop_eq_getElem_cons hk']
   have e2:gI o (k:Int)=o[k]:=by simp[gI,hk']
   unfold dh dd
   rw[List.flatMap_cons,e2];rfl
 rwa[e] at hi
theorem ga.one{O:List (List Int)}{o:List Int}{k i:Nat}(hi:ga g pl by_ R (dh O o k i) u ears)(hk:(i:Int)<((gI O (gI o (k:Int))).length:Int)):ga g pl by_ R ((gI o (k:Int),gI (gI O (gI o (k:Int))) (i:Int))::dh O o k (i+1)) u ears:=by
 have hk':i<(gI O (gI o (k:Int))).length:=by omega
 have e:dh O o k i=(gI o (k:Int),gI (gI O (gI o (k:Int))) (i:Int))::dh O o k (i+1):=by
   unfold dh
   rw[List.drop_eq_getElem_cons hk']
   have e3:∀(L:List Int) (hL:i<L.length),gI L (i:Int)=L[i]:=λL hL=>by simp[gI,hL]
   have e2:=e3 (gI O (gI o (k:Int))) hk'
   rw[List.map_cons,e2];rfl
 rwa[e] at hi
theorem ga.rowdone{O:List (List Int)}{o:List Int}{k i:Nat}(hi:ga g pl by_ R (dh O o k i) u ears)(hk:¬(i:Int)<((gI O (gI o (k:Int))).length:Int)):ga g pl by_ R (dd O (o.drop (k+1))) u ears:=by
 have e:dh O o k i=dd O (o.drop (k+1)):=by
   unfold dh
   rw[List.drop_eq_nil_of_le (by omega)];rfl
 rwa[e] at hi
theorem ga.done{O:List (List Int)}{o:List Int}{k:Nat}(hi:ga g pl by_ R (dd O (o.drop k)) u ears)(hk:¬(k:Int)<(o.length:Int)):ears=R:=by
 have h1:=hi.run
 rw[List.drop_eq_nil_of_le (by omega)] at h1
 unfold dd eG at h1
 simpa using h1
theorem lQ{o:List Int}(hm:bw g)(hok:l8 g)(hb:bX g=true)(h2:2<=g.2.length)(hp:pl=(cO g g.1.toNat).place)(hy:by_=(cO g g.1.toNat).by_){O:List (List Int)}(hO:O=aY g){k:Nat}(ho:i4 pl g.1 o k)(hk:(k:Int)=g.1):ga g pl by_ ((dS g).getD []) (dd O (o.drop 0)) (List.replicate (Int.toNat g.1) false) []:=by
 obtain⟨_,h3,h4⟩:=hok hm hb h2
 have e:k=g.1.toNat:=by omega
 subst hO
 have eo:o=gA (cO g g.1.toNat).place g.1.toNat g.1.toNat:=by rw[ho.eq,e,hp]
 have hm0:=hm.1
 refine⟨by simp;omega,?_,?_⟩
 · rw[List.drop_zero,eo,hp,hy]
   show dS g=_
   cases h5:dS g with
   |none=>rw[h5] at h4;cases h4
   |some r=>rfl
 · rw[List.drop_zero,eo]
   simp only[List.length_nil];omega
theorem km(h:bX g=true):2<=g.1:=(of_decide_eq_true h).1
theorem kO{O:List (List Int)}{i:Int}(hO:O=aY g)(v0:0<=v)(v1:v<g.1)(i0:0<=i)(i1:i<((gI O v).length:Int)):0<=gI (gI O v) i/\gI (gI O v) i<2*(g.2.length:Int):=by
 subst hO
 have hin:gI (gI (aY g) v) i∈gI (aY g) v:=bV i0 i1
 rw[e7 v0 v1] at hin
 have ho:=(hH hin).1
 rw[<-e7 v0 v1] at ho
 exact ho
end TL
/-
  TlArr2: a variable that holds two numbers, as a list; lengths of small numbers in bits.
  By an AI agent.
-/
set_option linter.all false
namespace TL
open Go
section
variable{P:Program}{f:Fr}{w:World}{dst:Option Tmp}{ty:TypeId}{pos:String}{after:Array Edge}{g:Option (Nat×Bool)}{t e:TypeId}{x y:Operand}
theorem gn{b:Nat}(ht:P.underlying t=some (.array 2 e))(hs:(P.info? e).map (·.size)=some 1)(hx:ev f x= .pointer (some ⟨b,0,none⟩)):
   (execOp (ev f) ⟨dst,.slice t x none none none,ty,pos,after,g⟩).run P w= .ok (.value (.slice (some ⟨b,0,none⟩) 2 2)) w:=by
 cases hq:P.info? e with
 |none=>simp[hq] at hs
 |some q=>
   have hsub:execOp (ev f) ⟨dst,.slice t x none none none,ty,pos,after,g⟩=(do pure (.value (<-Instr.sliceAt t (.pointer (some ⟨b,0,none⟩)) none none none))):=by
     simp[execOp,hx]
   rw[hsub]
   have ha:(⟨b,0,none⟩:Addr).add 0=⟨b,0,none⟩:=rfl
   simp[Instr.sliceAt,Instr.sureAddr,Instr.sliceBounds,ax ht,bN hq,ha]
end
theorem mX{γ:av}{S:bI->Prop}{w:World}{b:Nat}{x y:Int}(h:Bx γ S w b [.int .i64 x,.int .i64 y]):Sl (α:=Int) γ S w (.slice (some ⟨b,0,none⟩) 2 2) [x,y]:=by
 obtain⟨h1,e,h2⟩:=h
 refine .inr ⟨b,0,2,rfl,⟨by simp,by simp⟩,λi z hi=>⟨cb h2,h1,[.int .i64 z],λj hj=>?_,rfl⟩⟩
 have hj0:j=0:=by have:j<1:=hj;omega
 subst hj0
 have hl:=(List.getElem?_eq_some_iff.1 hi).1
 have hi2:i=0\/i=1:=by simp at hl;omega
 have hs:Rp.sz Int=1:=rfl
 rcases hi2 with rfl|rfl
 · simp at hi
   simp[World.cell?,h2,hs,hi]
 · simp at hi
   simp[World.cell?,h2,hs,hi]
theorem kY{x:Int}(h0:0<=x)(h1:x<=4611686018427387904):IntKind.u64.wrap x=x:=by
 have:IntKind.u64.wrap x=x%18446744073709551616:=by simp[IntKind.wrap,IntKind.bits,IntKind.signed]
 rw[this];omega
theorem mh{x:Int}(h0:0<=x)(h1:x<=255):IntKind.u8.wrap x=x:=by
 have:IntKind.u8.wrap x=x%256:=by simp[IntKind.wrap,IntKind.bits,IntKind.signed]
 rw[this];omega
def dL(i:Int):Int:=gI [0,1,2,2,3,3,3,3,4,4,4,4,4] i
theorem iS{i:Int}(h0:0<=i)(h1:i<=12):i=0\/i=1\/i=2\/i=3\/i=4\/i=5\/i=6\/i=7\/i=8\/i=9\/i=10\/i=11\/i=12:=by omega
theorem m8{i:Int}(h0:0<=i)(h1:i<=12):0<=dL i/\dL i<=4:=by
 rcases iS h0 h1 with rfl|rfl|rfl|rfl|rfl|rfl|rfl|rfl|rfl|rfl|rfl|rfl|rfl<;>decide
theorem lR{i:Int}(h0:0<=i)(h1:i<=12){str:ByteArray}(h:(List.range 13).all (λk=>decide (str[k]? =some (UInt8.ofNat (dL (k:Int)).toNat)))=true):str[i.toNat]? =some (UInt8.ofNat (dL i).toNat):=by
 obtain⟨k,rfl⟩:∃k:Nat,i=k:=⟨i.toNat,by omega⟩
 exact of_decide_eq_true (List.all_eq_true.1 h k (List.mem_range.2 (by omega)))
theorem kV{i:Int}(h0:0<=i)(h1:i<=12):((UInt8.ofNat (dL i).toNat).toNat:Int)=dL i:=by
 rcases iS h0 h1 with rfl|rfl|rfl|rfl|rfl|rfl|rfl|rfl|rfl|rfl|rfl|rfl|rfl<;>decide
end TL
/-
  TlBlk7: the tree of blocks, as the program makes it, with the library's sort of few elements.
  By an AI agent.
-/
set_option linter.all false
namespace TL
def cP:List Int->List Int->Int
  |[],[]=>0
  |[],_::_=> -1
  |_::_,[]=>1
  |a::l,b::m=>if db a b=0 then cP l m else db a b
section
variable{s t:List Int}{k:Nat}
theorem dZ{l:List Int}(h:(k:Int)<l.length):l.drop k=gI l (k:Int)::l.drop (k+1):=by
 have h':k<l.length:=by omega
 rw[List.drop_eq_getElem_cons h']
 have e:gI l (k:Int)=l[k]:=by simp[gI,h']
 rw[e]
theorem lj(hi:cP (s.drop k) (t.drop k)=cP s t)(h1:(k:Int)<s.length)(h2:(k:Int)<t.length)(h:db (gI s (k:Int)) (gI t (k:Int))=0):cP (s.drop (k+1)) (t.drop (k+1))=cP s t:=by
 rw[<-hi,dZ h1,dZ h2]
 show _=if db _ _=0 then _ else _
 rw[if_pos h]
theorem nj(hi:cP (s.drop k) (t.drop k)=cP s t)(h1:(k:Int)<s.length)(h2:(k:Int)<t.length)(h:¬db (gI s (k:Int)) (gI t (k:Int))=0):db (gI s (k:Int)) (gI t (k:Int))=cP s t:=by
 rw[<-hi,dZ h1,dZ h2]
 show _=if db _ _=0 then _ else _
 rw[if_neg h]
theorem kX(hi:cP (s.drop k) (t.drop k)=cP s t)(h1:(k:Int)<s.length)(h2:(t.length:Int)<=k):1=cP s t:=by
 have e:t.drop k=[]:=List.drop_eq_nil_of_le (by omega)
 rw[<-hi,dZ h1,e];rfl
theorem lN(hi:cP (s.drop k) (t.drop k)=cP s t)(h1:¬(k:Int)<s.length)(hk:(k:Int)<=s.length)(h2:(s.length:Int)<t.length): -1=cP s t:=by
 rw[<-hi,List.drop_eq_nil_of_le (by omega),dZ (by omega)];rfl
theorem lk(hi:cP (s.drop k) (t.drop k)=cP s t)(h1:¬(k:Int)<s.length)(hk:(k:Int)<=s.length)(h2:¬(s.length:Int)<t.length):0=cP s t:=by
 rw[<-hi,List.drop_eq_nil_of_le (by omega),List.drop_eq_nil_of_le (by omega)];rfl
end
def mE(x y:Int×Int):Int:=cP [x.1,x.2] [y.1,y.2]
def l7(xs:List (Int×Int))(j:Nat):List (Int×Int):=(xs.set j (gI xs ((j:Int)-1))).set (j-1) (gI xs (j:Int))
def iK(xs:List (Int×Int)):Nat->List (Int×Int)
 |0=>xs
 |j+1=>if mE (gI xs ((j:Int)+1)) (gI xs (j:Int))<0 then iK (l7 xs (j+1)) j else xs
def mo(xs:List (Int×Int)):Nat->List (Int×Int)
 |0=>xs
 |k+1=>iK (mo xs k) (k+1)
def jt(xs:List (Int×Int)):List (Int×Int):=mo xs (xs.length-1)
structure gw(x0 xs:List (Int×Int))(i:Int):Prop where
 len:xs.length=x0.length
 lo:1<=i
 hi:i=1\/i<=x0.length
 eq:xs=mo x0 (i.toNat-1)
structure iI(x0 xs:List (Int×Int))(i j:Int):Prop where
 len:xs.length=x0.length
 lo:0<=j
 hi:j<=i
 li:i<x0.length
 l1:1<=i
 run:iK xs j.toNat=mo x0 i.toNat
section
variable{x0 xs:List (Int×Int)}{i j:Int}
theorem gw.start:gw x0 x0 1:=⟨rfl,by omega,.inl rfl,rfl⟩
theorem gw.inner(h:gw x0 xs i)(hi:i<(xs.length:Int)):iI x0 xs i i:=by
 have h1:=h.lo
 have h2:=h.len
 refine⟨h.len,by omega,by omega,by omega,h1,?_⟩
 obtain⟨k,hk⟩:∃k:Nat,i.toNat=k+1:=⟨i.toNat-1,by omega⟩
 have h3:=h.eq
 rw[hk] at h3 ⊢
 rw[h3];rfl
theorem iI.next(h:iI x0 xs i j)(hj:0<j)(hc:mE (gI xs j) (gI xs (j-1))<0){ys:List (Int×Int)}(he:ys=(xs.set (Int.toNat j) (gI xs (j-1))).set (Int.toNat (j-1)) (gI xs j)):iI x0 ys i (j-1):=by
 have h1:=h.hi
 refine⟨by rw[he];simp only[List.length_set];exact h.len,by omega,by omega,h.li,h.l1,?_⟩
 have h2:=h.run
 obtain⟨q,hq⟩:∃q:Nat,j.toNat=q+1:=⟨j.toNat-1,by omega⟩
 have e1:((q:Int)+1)=j:=by omega
 have e2:(q:Int)=j-1:=by omega
 rw[hq] at h2
 unfold iK at h2
 rw[e1,e2,if_pos hc] at h2
 have e3:l7 xs (q+1)=ys:=by
   rw[he]
   unfold l7
   have e4:((q+1:Nat):Int)=j:=by omega
   have e5:(j-1).toNat=q:=by omega
   rw[e4,hq,e5];rfl
 rw[e3] at h2
 have e6:(j-1).toNat=q:=by omega
 rw[e6];exact h2
theorem iI.done(h:iI x0 xs i j)(hc:¬0<j\/¬mE (gI xs j) (gI xs (j-1))<0):gw x0 xs (i+1):=by
 have h1:=h.l1
 have h2:=h.li
 refine⟨h.len,by omega,.inr (by omega),?_⟩
 have h3:=h.run
 have e0:(i+1).toNat-1=i.toNat:=by omega
 rw[e0,<-h3]
 have hlo:=h.lo
 by_cases c:j=0
 · subst c;rfl
 · obtain⟨q,hq⟩:∃q:Nat,j.toNat=q+1:=⟨j.toNat-1,by omega⟩
   have e1:((q:Int)+1)=j:=by omega
   have e2:(q:Int)=j-1:=by omega
   have hc2:¬mE (gI xs j) (gI xs (j-1))<0:=hc.resolve_left (by omega)
   rw[hq]
   unfold iK
   rw[e1,e2,if_neg hc2]
theorem gw.done(h:gw x0 xs i)(hi:¬i<(xs.length:Int)):xs=jt x0:=by
 have h1:=h.lo
 have h2:=h.len
 have h3:=h.hi
 rw[h.eq]
 unfold jt
 congr 1
 rcases h3 with c|c<;>omega
end
section
variable{g:bK}
def jf(g:bK)(k:Nat):Int->Int:=(c7 k).foldl (λF j=>λq=>if q=gI (a0 g).2.1 j then(a0 g).2.2+j else F q) (λ_=>0)
theorem ko{F:Int->Int}{k:Nat}(h:F=jf g k):(λq=>if q=gI (a0 g).2.1 (k:Int) then(a0 g).2.2+(k:Int) else F q)=jf g (k+1):=by
 unfold jf
 rw[cJ,List.foldl_append,h];rfl
def nH(g:bK)(F:Int->Int)(s:List (Int×Int)×(Int×Int->Int))(h:Int):List (Int×Int)×(Int×Int->Int):=
 (if 0<F (bA g h)/\s.2 (gI (a0 g).1 (h/2),F (bA g h))=0 then s.1++[(gI (a0 g).1 (h/2),F (bA g h))] else s.1,λq=>if q=(gI (a0 g).1 (h/2),F (bA g h)) then s.2 (gI (a0 g).1 (h/2),F (bA g h))+1 else s.2 q)
def mR(g:bK)(F:Int->Int)(n:Nat):List (Int×Int)×(Int×Int->Int):=(c7 n).foldl (nH g F) ([],λ_=>0)
def lA(g:bK):List (Int×Int):=(mR g (jf g (a0 g).2.1.length) (2*g.2.length)).1
def jk(g:bK):bK:=((a0 g).2.2+((a0 g).2.1.length:Int),jt (lA g))
def cf(g:bK):bK×Int:=if bw g then if bw (jk g) then(jk g,0) else((0,[]),3) else((0,[]),1)
def kL(g:bK):Prop:=bw g->(lA g).length<=12
structure dR(g:bK)(F:Int->Int)(ed:List (Int×Int))(sn:Int×Int->Int)(n:Nat):Prop where
 eq:(ed,sn)=mR g F n
 le:(ed.length:Int)<=n
 s0:∀q,0<=sn q/\sn q<=n
theorem dR.start{F:Int->Int}:dR g F [] (λ_=>0) 0:=⟨rfl,by simp,λq=>⟨by omega,by omega⟩⟩
theorem dR.next{F:Int->Int}{ed ed':List (Int×Int)}{sn sn':Int×Int->Int}{n:Nat}(h:dR g F ed sn n){v e:Int}{K:Int×Int}(hv:bA g (n:Int)=v)(he:(n:Int)/2=e)(hK:K=(gI (a0 g).1 e,F v))(hs:sn'=λq=>if q=K then sn K+1 else sn q)(hd:ed'=if 0<F v/\sn K=0 then ed++[K] else ed):dR g F ed' sn' (n+1):=by
 subst hv he hK hs hd
 have h1:=h.le
 refine⟨?_,?_,λq=>?_⟩
 · unfold mR
   rw[cJ,List.foldl_append]
   show _=nH g F (mR g F n) (n:Int)
   rw[<-h.eq];rfl
 · split
   · rw[List.length_append,List.length_singleton];omega
   · omega
 · have h2:=h.s0 q
   have h3:=h.s0 (gI (a0 g).1 ((n:Int)/2),F (bA g (n:Int)))
   by_cases c:q=(gI (a0 g).1 ((n:Int)/2),F (bA g (n:Int)))
   · simp only[if_pos c];omega
   · simp only[if_neg c];omega
theorem dR.two{F:Int->Int}{ed ed1 ed2:List (Int×Int)}{sn sn1 sn2:Int×Int->Int}{k:Nat}(h:dR g F ed sn (2*k)){v v2:Int}{K K2:Int×Int}(hv:(gI g.2 (k:Int)).1=v)(hv2:(gI g.2 (k:Int)).2=v2)(hK:K=(gI (a0 g).1 (k:Int),F v))(hK2:K2=(gI (a0 g).1 (k:Int),F v2))
   (hs:sn1=λq=>if q=K then sn K+1 else sn q)(hs2:sn2=λq=>if q=K2 then sn1 K2+1 else sn1 q)(hd:ed1=if 0<F v/\sn K=0 then ed++[K] else ed)(hd2:ed2=if 0<F v2/\sn1 K2=0 then ed1++[K2] else ed1):dR g F ed2 sn2 (2*(k+1)):=by
 have e1:((2*k:Nat):Int)/2=(k:Int):=by omega
 have e2:((2*k+1:Nat):Int)/2=(k:Int):=by omega
 have f1:bA g ((2*k:Nat):Int)=v:=by
   rw[<-hv];unfold bA;rw[e1,show((2*k:Nat):Int)%2=0 by omega];rfl
 have f2:bA g ((2*k+1:Nat):Int)=v2:=by
   rw[<-hv2];unfold bA;rw[e2,show((2*k+1:Nat):Int)%2=1 by omega];rfl
 exact(h.next f1 e1 hK hs hd).next f2 e2 hK2 hs2 hd2
theorem hE{a b:Int}{x y:List (Int×Int)}(h:0<a)(h2:b=0):y=if 0<a/\b=0 then y else x:=(if_pos ⟨h,h2⟩).symm
theorem fP{a b:Int}{x y:List (Int×Int)}(h:¬0<a):x=if 0<a/\b=0 then y else x:=(if_neg λk=>h k.1).symm
theorem fB{a b:Int}{x y:List (Int×Int)}(h:¬b=0):x=if 0<a/\b=0 then y else x:=(if_neg λk=>h k.2).symm
theorem lf{F:Int->Int}{ed:List (Int×Int)}{sn:Int×Int->Int}{e k:Nat}(h:dR g F ed sn (2*e))(hF:F=jf g k)(hk:(k:Int)=((a0 g).2.1.length:Int))(he:(e:Int)=(g.2.length:Int)):ed=lA g:=by
 have e1:k=(a0 g).2.1.length:=by omega
 have e2:e=g.2.length:=by omega
 have h1:=h.eq
 rw[hF,e1,e2] at h1
 unfold lA
 rw[<-h1]
theorem ku(h0:0<=g.1):((a0 g).2.1.length:Int)<=g.1:=by
 have:=iJ (a:=ke g) (l:=(kz (e9 g) g (2*g.2.length)).2) (k:=g.1.toNat) rfl
 show((ke g).length:Int)<=g.1
 omega
end
end TL
/-
  TlBlk8: what the statements on blocks ask of samples.
  By an AI agent.
-/
set_option linter.all false
namespace TL
def aG:bK:=(4,[(0,1),(1,2),(2,0),(2,3),(3,3)])
theorem ln:kL aG:=by
 intro _;decide+kernel
theorem m1:l8 (2,[(0,1),(0,1)]):=by
 intro _ _ _
 refine⟨?_,?_,?_⟩<;>decide+kernel
theorem gJ{g:bK}(hm:bw g):(aD g).1=a0 g:=by unfold aD;rw[if_pos hm];rfl
theorem fv{g:bK}(hm:bw g):(aI g).1=bj g g.2.length:=by unfold aI;rw[if_pos hm]
theorem kZ{g:bK}(h:c6 g=true)(h2:g.1<=40):decide ((g.2.length:Int)<=60)=decide (¬bw g\/(g.1<=40/\g.2.length<=60)):=by
 have hm:bw g:=of_decide_eq_true h
 rw[decide_eq_decide]
 exact⟨λa=>.inr ⟨h2,by omega⟩,λa=>by have:=(a.resolve_left (λk=>k hm)).2;omega⟩
theorem kU{g:bK}(h:c6 g=true)(h2:¬g.1<=40):false=decide (¬bw g\/(g.1<=40/\g.2.length<=60)):=by
 have hm:bw g:=of_decide_eq_true h
 rw[decide_eq_false]
 exact λa=>h2 (a.resolve_left (λk=>k hm)).1
theorem lE{g:bK}(h:¬c6 g=true):true=decide (¬bw g\/(g.1<=40/\g.2.length<=60)):=by
 rw[decide_eq_true]
 exact .inl λk=>h (decide_eq_true k)
section
variable{g:bK}{br:List Bool}{many:List Int}{j k:Nat}{e:Int}
theorem lu(hm:bw g)(hr:br=dH (bj g g.2.length) g.2.length j)(hj:(j:Int)=((aI g).1.length:Int))(hs:many=cI (a0 g).1 (Int.toNat (a0 g).2.2) k)(hk:(k:Int)=(g.2.length:Int))(e0:0<=e)(e1:e<(g.2.length:Int)):
   gI br e=(decide (gI many (gI (aD g).1.1 e)=1)&& !decide ((gI g.2 e).1=(gI g.2 e).2)):=by
 have h1:=jc hm e0 e1
 have e2:k=g.2.length:=by omega
 have e3:j=(bj g g.2.length).length:=by rw[fv hm] at hj;omega
 rw[hr,e3,h1,hs,e2,gJ hm];rfl
theorem o8(hm:bw g)(hr:br=dH (bj g g.2.length) g.2.length j)(hj:(j:Int)=((aI g).1.length:Int))(hs:many=cI (a0 g).1 (Int.toNat (a0 g).2.2) k)(hk:(k:Int)=(g.2.length:Int))(e0:0<=e)(e1:e<(g.2.length:Int))(q:gI many (gI (aD g).1.1 e)=1):
   gI br e= !decide ((gI g.2 e).1=(gI g.2 e).2):=by
 rw[lu hm hr hj hs hk e0 e1,decide_eq_true q];rfl
theorem nV(hm:bw g)(hr:br=dH (bj g g.2.length) g.2.length j)(hj:(j:Int)=((aI g).1.length:Int))(hs:many=cI (a0 g).1 (Int.toNat (a0 g).2.2) k)(hk:(k:Int)=(g.2.length:Int))(e0:0<=e)(e1:e<(g.2.length:Int))(q:¬gI many (gI (aD g).1.1 e)=1):
   gI br e=false:=by
 rw[lu hm hr hj hs hk e0 e1,decide_eq_false q];rfl
end
end TL
/-
  TlNil: a list that is none, compared.
  By an AI agent.
-/
set_option linter.all false
namespace TL
open Go
section
variable{P:Program}{w:World}{t t':TypeId}{f:Fr}{x y:Operand}{dst:Option Tmp}{ty:TypeId}{pos:String}{after:Array Edge}{g:Option (Nat×Bool)}
end
theorem dM{α:Type}[Rp α]{γ:av}{J S:bI->Prop}{w:World}{v:Value}{xs:List α}{hi:Nat}(h:Ow γ J S w v xs)(h2:hi<=xs.length):Ow γ J S w (bF v (Rp.sz α) 0 hi) (xs.take hi):=by
  rcases h with⟨rfl,rfl⟩|⟨b,cap,c,e,rfl,hc,hm,hJ,hb,hcs,hx⟩
  · simp only[List.length_nil] at h2
    have:hi=0:=by omega
    subst this
    exact .inl ⟨rfl,rfl⟩
  · have hl:(xs.take hi).length=hi:=by simp;omega
    refine .inr ⟨b,cap,c,e,?_,⟨by omega,by omega⟩,hm,hJ,hb,hcs,λi x hi'=>hx i x ?_⟩
    · rw[kn]
      simp only[hl]
    · rw[List.getElem?_take] at hi'
      split at hi'
      · exact hi'
      · cases hi'
end TL
/-
  TlOrb: going round by a permutation; two places changed; what that does to the numbers of rounds.
  By an AI agent.
-/
set_option linter.all false
namespace TL
def tr(a b x:Int):Int:=if x=a then b else if x=b then a else x
end TL
/-
  TlDual: faces as nodes: the dual, corners' faces, edges laid, taken and split, ways over faces, as plain functions.
  By an AI agent.
-/
set_option linter.all false
namespace TL
def mU(g:bK)(r:gM)(c:Int×Int):Prop:=(0<=c.1/\c.1<g.1)/\if((gI r c.1).length:Int)=0 then c.2= -1 else c.2∈gI r c.1
instance (g:bK)(r:gM)(c:Int×Int):Decidable (mU g r c):=by unfold mU;infer_instance
end TL
namespace TL
end TL
namespace TL
end TL
namespace TL
section
variable{g:bK}{r:gM}{a b:Int×Int}
end
end TL
/-
  TlKru: edges of the least weight that join all that is joined (package path's Least): Kruskal's way by labels, and a forest of parents that agrees with the labels.
  By an AI agent.
-/
set_option linter.all false
namespace TL
def nF(ws:List Nat)(i:Int):Pl:=(zf (gI ws i),i)
def oe(ws:List Nat)(i k:Int):Prop:=nU (nF ws i) (nF ws k)
instance (ws:List Nat)(i k:Int):Decidable (oe ws i k):=by unfold oe;infer_instance
-- by labels
variable{n:Int}{of0 of c:List Int}{rho:Int->Nat}{v v0:Int}
end TL
namespace TL
variable{g:bK}{ws:List Nat}{of l:List Int}{k:Nat}
end TL
namespace TL
end TL
namespace TL
end TL
/-
  TlOnes: ways of weights 1, 0 and of none: as a walk breadth first goes.
  By an AI agent.
-/
set_option linter.all false
namespace TL
variable{g g1 g2:bK}{ws w1 w2:List Nat}{s v:Int}{f1 f2 far:List Nat}{b1 b2 by_:List Int}{r1 r2 rk:Int->Nat}{C:Nat}
end TL
namespace TL
variable{g:bK}{s:Int}
end TL
namespace TL
open Go
theorem i3{P:Program}{f:Fr}{w:World}{dst:Option Tmp}{ty:TypeId}{pos:String}{after:Array Edge}{g:Option (Nat×Bool)}{t t':TypeId}{x y:Operand}{op:BinOp}{k:IntKind}{m n r:Int}(hx:ev f x= .int k m)(hy:ev f y= .int k n)(h:binOp op t (.int k m) (.int k n)=pure (.int k r)):(execOp (ev f) ⟨dst,.binOp op t x y t',ty,pos,after,g⟩).run P w= .ok (.value (.int k r)) w:=
 bT op x y hx hy (by rw[h];rfl)
end TL
namespace TL
variable{g:bK}{s v:Int}{on ze so:List Nat}{op:List Int}{i:Nat}
end TL
/-
  TlPerm: several new objects that are made in whatever order is drawn: all orders end alike.
  By an AI agent.
-/
set_option linter.all false
namespace TL
open Go
def gQ(f:Fr)(val:Nat->Value)(S:List Nat):Fr:=λt=>bif S.contains t then val t else f t
theorem kA{f:Fr}{val:Nat->Value}{S S':List Nat}(h:∀t,t∈S↔t∈S'):gQ f val S=gQ f val S':=by
 funext t
 unfold gQ
 have:S.contains t=S'.contains t:=by
   rw[Bool.eq_iff_iff]
   simp only[List.contains_iff_mem];exact h t
 rw[this]
theorem mP{f:Fr}{val:Nat->Value}{S:List Nat}{d:Nat}{v:Value}(hd:d∉S):dw (gQ f val S) (some d) v=gQ f (λt=>if t=d then v else val t) (d::S):=by
 funext t
 unfold dw gQ
 simp only
 by_cases c:t=d
 · subst c
   have e1:(t::S).contains t=true:=by simp
   rw[e1,Nat.beq_refl];simp
 · have e1:Nat.beq t d=false:=by
     cases h:Nat.beq t d with
     |false=>rfl
     |true=>exact absurd (Nat.eq_of_beq_eq_true h) c
   have e2:(d::S).contains t=S.contains t:=by
     rw[Bool.eq_iff_iff]
     simp[c]
   rw[e1,e2,if_neg c];rfl
def iM{α:Type}:List α->List (List α)
 |[]=>[[]]
 |a::l=>iM l++(iM l).map (a:: ·)
theorem fU{α:Type}(p:α->Bool):∀l:List α,l.filter p∈iM l
 |[]=>List.mem_singleton.2 rfl
 |a::l=>by
   have ih:=fU p l
   unfold iM
   rw[List.filter_cons]
   split
   · exact List.mem_append_right _ (List.mem_map.2 ⟨_,ih,rfl⟩)
   · exact List.mem_append_left _ ih
theorem eW:∀(D A:List (Nat×Nat)),D.Nodup->(∀p∈D,p∈A)->D.length<=A.length
 |[],A,_,_=>Nat.zero_le _
 |a::D,A,hn,hs=>by
   have hn':=List.nodup_cons.1 hn
   have ha:=hs a (List.mem_cons_self ..)
   have h3:=eW D (A.erase a) hn'.2 (λx hx=>by
     have hne:x≠a:=λe=>hn'.1 (by rw[<-e];exact hx)
     exact(List.mem_erase_of_ne hne).2 (hs x (List.mem_cons_of_mem _ hx)))
   have h4:=List.length_erase_of_mem ha
   have h5:=List.length_pos_of_mem ha
   rw[List.length_cons];omega
theorem gx:∀{A:List (Nat×Nat)},(A.map Prod.fst).Nodup->A.Nodup
 |[],_=>List.nodup_nil
 |a::A,h=>by
   rw[List.map_cons,List.nodup_cons] at h
   exact List.nodup_cons.2 ⟨λk=>h.1 (List.mem_map.2 ⟨a,k,rfl⟩),gx h.2⟩
theorem gN{A:List (Nat×Nat)}(h:(A.map Prod.snd).Nodup){p q:Nat×Nat}(hp:p∈A)(hq:q∈A)(e:p.2=q.2):p=q:=by
 induction A with
 |nil=>exact absurd hp List.not_mem_nil
 |cons a A ih=>
   rw[List.map_cons,List.nodup_cons] at h
   rcases List.mem_cons.1 hp with e1|e1
   · rcases List.mem_cons.1 hq with e2|e2
     · rw[e1,e2]
     · exact absurd (List.mem_map.2 ⟨q,e2,by rw[<-e,e1]⟩) h.1
   · rcases List.mem_cons.1 hq with e2|e2
     · exact absurd (List.mem_map.2 ⟨p,e1,by rw[e,e2]⟩) h.1
     · exact ih h.2 e1 e2
section
variable{P:Program}{n:Nat}{l:List Oper}{qs:List Nat}{K:Fr->World->Prop}{f:Fr}{w:World}{done:List Nat}{fuel:Nat}
theorem gy{n:Nat}{d d':List Nat}(h:∀t,t∈d↔t∈d'):bx n d=bx n d':=by
 unfold bx
 congr 1
 apply List.map_congr_left
 intro t _
 rw[decide_eq_decide];exact h t
theorem kq{done':List Nat}(h:∀t,t∈done↔t∈done')(hw:eU P n l qs K fuel done f w):eU P n l qs K fuel done' f w:=by
 unfold eU at*
 rw[<-gy h];exact hw
def lB(dep:Nat->List Nat)(D:List (Nat×Nat)):Bool:=D.all λp=>(dep p.2).all λt=>(D.map Prod.snd).contains t
def iC(dep:Nat->List Nat)(A D:List (Nat×Nat)):List (Nat×Nat):=A.filter λp=> !(D.map Prod.fst).contains p.1&&(dep p.2).all λt=>(D.map Prod.snd).contains t
def o9(l:List Oper)(done:List Nat)(dep:Nat->List Nat)(A:List (Nat×Nat)):Bool:=(iM A).all λD=>decide (D.length=A.length)||(lB dep D).not||(decide (Region.ready .any l.toArray (bx l.length (D.map Prod.fst++done))=(iC dep A D).map Prod.fst)&& !(iC dep A D).isEmpty)
theorem nn(A:List (Nat×Nat))(dep:Nat->List Nat)(Φ:Nat->List Value->av->World->Value->Prop)(γ:av)
    (hst:∀p∈A,∀vs γ w γ' w' v,aM no γ w γ' w'->Φ p.2 vs γ w v->Φ p.2 vs γ' w' v)
    (hnd:(A.map Prod.snd).Nodup)(hnf:(A.map Prod.fst).Nodup)
    (hrd:o9 l done dep A=true)
    (hop:∀p∈A,qs.contains p.1=false/\∃o,l[p.1]? =some o/\o.dst=some p.2/\fH n o=true/\∀(f':Fr) (val:Nat->Value),(∀t,(A.map Prod.snd).contains t=false->f' t=f t)->(∀t∈dep p.2,f' t=val t)->bS l o f'=true/\∀γ w,(∀t∈dep p.2,Φ t ((dep t).map val) γ w (val t))->dv P o f' w λv w'=>∃γ',aM no γ w γ' w'/\Φ p.2 ((dep p.2).map val) γ' w' v)
    (hk:∀val γ' w',aM no γ w γ' w'->(∀p∈A,Φ p.2 ((dep p.2).map val) γ' w' (val p.2))->eU P n l qs K fuel (A.map Prod.fst++done) (gQ f val (A.map Prod.snd)) w'):eU P n l qs K (fuel+A.length) done f w:=by
  have main:∀(m:Nat) (D:List (Nat×Nat)) (val:Nat->Value) (γ':av) (w':World),D.Nodup->(∀p∈D,p∈A)->(∀p∈D,∀t∈dep p.2,t∈D.map Prod.snd)->D.length+m=A.length->aM no γ w γ' w'->(∀p∈D,Φ p.2 ((dep p.2).map val) γ' w' (val p.2))->eU P n l qs K (fuel+m) (D.map Prod.fst++done) (gQ f val (D.map Prod.snd)) w':=by
    have hAn:A.Nodup:=gx hnf
    intro m
    induction m with
    |zero=>
      intro D val γ' w' hD hsub hcl hl hc hF
      have hmem:∀p,p∈A↔p∈D:=by
        intro p
        refine⟨λhp=>?_,hsub p⟩
        by_cases c:p∈D
        · exact c
        · exfalso
          have:=eW (p::D) A (List.nodup_cons.2 ⟨c,hD⟩) (λq hq=>(List.mem_cons.1 hq).elim (λe=>by rw[e];exact hp) (hsub q))
          rw[List.length_cons] at this;omega
      have h1:=hk val γ' w' hc (λp hp=>hF p ((hmem p).1 hp))
      have e1:∀t,t∈A.map Prod.fst++done↔t∈D.map Prod.fst++done:=λt=>by
        simp only[List.mem_append,List.mem_map]
        constructor
        · rintro(⟨p,hp,rfl⟩|h)
          · exact .inl ⟨p,(hmem p).1 hp,rfl⟩
          · exact .inr h
        · rintro(⟨p,hp,rfl⟩|h)
          · exact .inl ⟨p,(hmem p).2 hp,rfl⟩
          · exact .inr h
      have e2:gQ f val (A.map Prod.snd)=gQ f val (D.map Prod.snd):=kA λt=>by
        simp only[List.mem_map]
        constructor
        · rintro⟨p,hp,rfl⟩;exact⟨p,(hmem p).1 hp,rfl⟩
        · rintro⟨p,hp,rfl⟩;exact⟨p,(hmem p).2 hp,rfl⟩
      rw[e2] at h1
      exact kq e1 h1
    |succ m ih=>
      intro D val γ' w' hD hsub hcl hl hc hF
      let D':=A.filter λp=>decide (p∈D)
      have hD':∀p,p∈D'↔p∈D:=λp=>by
        show p∈A.filter _↔_
        rw[List.mem_filter,decide_eq_true_iff]
        exact⟨λh=>h.2,λh=>⟨hsub p h,h⟩⟩
      have hD1:∀t,t∈D'.map Prod.fst↔t∈D.map Prod.fst:=λt=>by
        simp only[List.mem_map]
        exact⟨λ⟨p,hp,e⟩=>⟨p,(hD' p).1 hp,e⟩,λ⟨p,hp,e⟩=>⟨p,(hD' p).2 hp,e⟩⟩
      have hD2:∀t,t∈D'.map Prod.snd↔t∈D.map Prod.snd:=λt=>by
        simp only[List.mem_map]
        exact⟨λ⟨p,hp,e⟩=>⟨p,(hD' p).1 hp,e⟩,λ⟨p,hp,e⟩=>⟨p,(hD' p).2 hp,e⟩⟩
      have hlD:D'.length≠A.length:=by
        have h1:=eW D' D (hAn.filter _) (λp hp=>(hD' p).1 hp)
        omega
      have hcD:lB dep D'=true:=by
        unfold lB
        simp only[List.all_eq_true,List.contains_iff_mem]
        exact λp hp t ht=>(hD2 t).2 (hcl p ((hD' p).1 hp) t ht)
      have hr0:=List.all_eq_true.1 hrd D' (fU _ A)
      rw[decide_eq_false hlD,hcD] at hr0
      simp only[Bool.not_true,Bool.or_false,Bool.false_or,Bool.and_eq_true] at hr0
      obtain⟨hr1,hne⟩:=hr0
      have hr:=of_decide_eq_true hr1
      have em:bx l.length (D'.map Prod.fst++done)=bx l.length (D.map Prod.fst++done):=gy λt=>by
        simp only[List.mem_append];rw[hD1 t]
      rw[em] at hr
      have hnx:∀p,p∈iC dep A D'->p∈A/\p∉D/\∀t∈dep p.2,t∈D.map Prod.snd:=λp hp=>by
        unfold iC at hp
        rw[List.mem_filter,Bool.and_eq_true,List.all_eq_true] at hp
        obtain⟨h1,h2,h3⟩:=hp
        refine⟨h1,λk=>?_,λt ht=>(hD2 t).1 (List.contains_iff_mem.1 (h3 t ht))⟩
        have:p.1∈D'.map Prod.fst:=List.mem_map.2 ⟨p,(hD' p).2 k,rfl⟩
        simp[this] at h2
      intro a ha
      refine⟨λh0=>?_,λk hk2=>?_⟩
      · rw[hr] at h0
        have h5:iC dep A D'=[]:=List.map_eq_nil_iff.1 h0
        rw[h5] at hne;cases hne
      · rw[hr] at hk2
        obtain⟨p,hp0,rfl⟩:=List.mem_map.1 hk2
        obtain⟨hp,hpD,hdp⟩:=hnx p hp0
        obtain⟨hq,o,hi,hdst,hdk,ho⟩:=hop p hp
        have hlt:p.1<l.length:=(List.getElem?_eq_some_iff.1 hi).1
        have hq':decide (p.1∈qs)=false:=by simpa using hq
        have hd2:p.2∉D.map Prod.snd:=by
          intro k
          obtain⟨q,hq2,e⟩:=List.mem_map.1 k
          have:q=p:=gN hnd (hsub q hq2) hp e
          rw[this] at hq2;exact hpD hq2
        obtain⟨hw1,hw2⟩:=ho (gQ f val (D.map Prod.snd)) val (λt ht=>by
          unfold gQ
          have:(D.map Prod.snd).contains t=false:=by
            cases hc2:(D.map Prod.snd).contains t with
            |false=>rfl
            |true=>
              obtain⟨q,hq2,e⟩:=List.mem_map.1 (List.contains_iff_mem.1 hc2)
              have:(A.map Prod.snd).contains t=true:=List.contains_iff_mem.2 (List.mem_map.2 ⟨q,hsub q hq2,e⟩)
              rw[this] at ht;cases ht
          rw[this];rfl) (λt ht=>by
          unfold gQ
          rw[List.contains_iff_mem.2 (hdp t ht)];rfl)
        simp only[hq',Bool.false_eq_true,if_false]
        refine dk ha hi hw1 (hw2 γ' w' (λt ht=>?_)) λv w2 ⟨γ2,c2,h2⟩=>?_
        · obtain⟨q,hq2,e⟩:=List.mem_map.1 (hdp t ht)
          rw[<-e];exact hF q hq2
        rw[bY _ hlt]
        have hc2:aM no γ w γ2 w2:=hc.trans c2 (λ_ _ h=>h.elim id id)
        have hval:∀q:Nat×Nat,(∀t∈dep q.2,t∈D.map Prod.snd)->(dep q.2).map (λt=>if t=p.2 then v else val t)=(dep q.2).map val:=λq hq2=>List.map_congr_left λt ht=>by
          rw[if_neg]
          intro e
          exact hd2 (by rw[<-e];exact hq2 t ht)
        have hnext:=ih (p::D) (λt=>if t=p.2 then v else val t) γ2 w2 (List.nodup_cons.2 ⟨hpD,hD⟩) (λq hq2=>(List.mem_cons.1 hq2).elim (λe=>by rw[e];exact hp) (hsub q)) (λq hq2 t ht=>by
          rw[List.map_cons]
          rcases List.mem_cons.1 hq2 with e|e
          · rw[e] at ht;exact List.mem_cons_of_mem _ (hdp t ht)
          · exact List.mem_cons_of_mem _ (hcl q e t ht)) (by rw[List.length_cons];omega) hc2 (λq hq2=>by
          rcases List.mem_cons.1 hq2 with e|e
          · rw[e,if_pos rfl,hval p hdp];exact h2
          · have hne:q.2≠p.2:=λk=>hd2 (by rw[<-k];exact List.mem_map.2 ⟨q,e,rfl⟩)
            rw[if_neg hne,hval q (hcl q e)]
            exact hst q (hsub q e) _ _ _ _ _ _ c2 (hF q e))
        have ef:dw (gQ f val (D.map Prod.snd)) o.dst v=gQ f (λt=>if t=p.2 then v else val t) ((p::D).map Prod.snd):=by
          rw[hdst,mP hd2];rfl
        have:=hnext (a.put o.dst v) (by rw[<-ef];exact ha.put hdk v)
        exact this
  have h0:=main A.length [] (λ_=>undef) γ w List.nodup_nil (λp hp=>absurd hp List.not_mem_nil) (λp hp=>absurd hp List.not_mem_nil) (by simp) (aM.refl _ _ _) (λp hp=>absurd hp List.not_mem_nil)
  have e0:gQ f (λ_=>undef) (([]:List (Nat×Nat)).map Prod.snd)=f:=by
    funext t;rfl
  rw[e0] at h0
  exact h0
end
end TL
namespace TL
open Go
structure Mk where
  op:Nat
  slot:Nat
  dep:List Nat
  ok:List Value->av->World->Value->Prop
def mm:List Mk->Prop
 |[]=>True
 |p::r=>(∀vs γ w γ' w' v,aM no γ w γ' w'->p.ok vs γ w v->p.ok vs γ' w' v)/\mm r
def dQ:List Mk->Nat->List Nat
 |[],_=>[]
 |p::r,t=>bif Nat.beq t p.slot then p.dep else dQ r t
def g5:List Mk->Nat->List Value->av->World->Value->Prop
 |[],_=>λ_ _ _ _=>False
 |p::r,t=>bif Nat.beq t p.slot then p.ok else g5 r t
def mL(P:Program)(n:Nat)(l:List Oper)(qs:List Nat)(f:Fr)(L:List Mk)(S:List Nat):List Mk->Prop
  |[]=>True
  |p::r=>(qs.contains p.op=false/\∃o,l[p.op]? =some o/\o.dst=some p.slot/\fH n o=true/\∀(f':Fr) (val:Nat->Value),(∀t,S.contains t=false->f' t=f t)->(∀t∈p.dep,f' t=val t)->bS l o f'=true/\∀γ w,(∀t∈p.dep,g5 L t ((dQ L t).map val) γ w (val t))->dv P o f' w λv w'=>∃γ',aM no γ w γ' w'/\p.ok (p.dep.map val) γ' w' v)/\mL P n l qs f L S r
theorem mm.mem{L:List Mk}(h:mm L):∀p∈L,∀vs γ w γ' w' v,aM no γ w γ' w'->p.ok vs γ w v->p.ok vs γ' w' v:=by
 induction L with
 |nil=>intro p hp;exact absurd hp List.not_mem_nil
 |cons a L ih=>
   intro p hp
   rcases List.mem_cons.1 hp with e|e
   · rw[e];exact h.1
   · exact ih h.2 p e
theorem gV{a b:Nat}(h:a≠b):Nat.beq a b=false:=by
 cases k:Nat.beq a b with
 |false=>rfl
 |true=>exact absurd (Nat.eq_of_beq_eq_true k) h
theorem fx:∀{L:List Mk},(L.map Mk.slot).Nodup->∀p∈L,dQ L p.slot=p.dep/\g5 L p.slot=p.ok
 |[],_,p,hp=>absurd hp List.not_mem_nil
 |a::L,h,p,hp=>by
   rw[List.map_cons,List.nodup_cons] at h
   rcases List.mem_cons.1 hp with e|e
   · rw[e];unfold dQ g5;rw[Nat.beq_refl];exact⟨rfl,rfl⟩
   · have hne:p.slot≠a.slot:=λk=>h.1 (by rw[<-k];exact List.mem_map.2 ⟨p,e,rfl⟩)
     unfold dQ g5
     rw[gV hne];exact fx h.2 p e
def kD(K:Fr->Prop)(γ:av)(w:World):List Mk->List (Nat×Value)->Fr->Prop
  |[],_,f=>K f
  |p::r,env,f=>∀v,p.ok (p.dep.map λt=>(env.lookup t).getD undef) γ w v->kD K γ w r ((p.slot,v)::env) (dw f (some p.slot) v)
def jS:List Mk->List Nat->Bool
 |[],_=>true
 |p::r,S=>(p.dep.all λt=>S.contains t)&&jS r (p.slot::S)
theorem lL{f:Fr}{val:Nat->Value}{d:Nat}{S:List Nat}:gQ (dw f (some d) (val d)) val S=gQ f val (d::S):=by
 funext t
 unfold gQ dw
 simp only
 by_cases c:t=d
 · subst c
   have e1:(t::S).contains t=true:=by simp
   rw[e1,Nat.beq_refl];cases S.contains t<;>rfl
 · have e1:Nat.beq t d=false:=gV c
   have e2:(d::S).contains t=S.contains t:=by
     rw[Bool.eq_iff_iff]
     simp[c]
   rw[e1,e2];rfl
theorem kD.use{K:Fr->Prop}{γ:av}{w:World}{val:Nat->Value}:∀{L:List Mk} {env:List (Nat×Value)} {f:Fr},kD K γ w L env f->(∀t∈env.map Prod.fst,(env.lookup t).getD undef=val t)->jS L (env.map Prod.fst)=true->(∀p∈L,p.ok (p.dep.map val) γ w (val p.slot))->K (gQ f val (L.map Mk.slot))
 |[],_,f,h,_,_,_=>by
   have:gQ f val (([]:List Mk).map Mk.slot)=f:=by funext t;rfl
   rw[this];exact h
 |p::L,env,f,h,he,ht,hF=>by
   unfold jS at ht
   rw[Bool.and_eq_true,List.all_eq_true] at ht
   have e1:p.dep.map (λt=>(env.lookup t).getD undef)=p.dep.map val:=List.map_congr_left λt h1=>he t (List.contains_iff_mem.1 (ht.1 t h1))
   have h2:=h (val p.slot) (by rw[e1];exact hF p (List.mem_cons_self ..))
   have:=kD.use h2 (λt h3=>by
     rw[List.lookup_cons]
     by_cases c:t=p.slot
     · rw[c];simp
     · have:(t==p.slot)=false:=by simpa using c
       rw[this]
       exact he t ((List.mem_cons.1 h3).resolve_left c)) ht.2 (λq hq=>hF q (List.mem_cons_of_mem _ hq))
   rw[lL] at this;exact this
section
variable{P:Program}{n:Nat}{l:List Oper}{qs:List Nat}{K:Fr->World->Prop}{f:Fr}{w:World}{done:List Nat}{fuel:Nat}{S:List Nat}
theorem mL.mem{L M:List Mk}(h:mL P n l qs f M S L):∀p∈L,qs.contains p.op=false/\∃o,l[p.op]? =some o/\o.dst=some p.slot/\fH n o=true/\∀(f':Fr) (val:Nat->Value),(∀t,S.contains t=false->f' t=f t)->(∀t∈p.dep,f' t=val t)->bS l o f'=true/\∀γ w,(∀t∈p.dep,g5 M t ((dQ M t).map val) γ w (val t))->dv P o f' w λv w'=>∃γ',aM no γ w γ' w'/\p.ok (p.dep.map val) γ' w' v:=by
 induction L with
 |nil=>intro p hp;exact absurd hp List.not_mem_nil
 |cons a L ih=>
   intro p hp
   rcases List.mem_cons.1 hp with e|e
   · rw[e];exact h.1
   · exact ih h.2 p e
theorem dv.mono{o:Oper}{N N':Value->World->Prop}(h:dv P o f w N)(hN:∀v w,N v w->N' v w):dv P o f w N':=by
 unfold dv at*
 generalize(execOp (ev f) o).run P w=r at*
 cases r with
 |halt x w'=>exact h.elim
 |ok nx w'=>
   cases nx<;>simp only[k7] at h ⊢
   case value v=>exact hN _ _ h
   case skip=>exact hN _ _ h
   case enter g args=>
     refine h.mono λe w'' he=>?_
     cases e with
     |returned v=>exact hN _ _ he
     |panicked c=>exact he.elim
     |outgrown=>exact he.elim
theorem kg(γ:av)(L:List Mk)(A:List (Nat×Nat))(fu:Nat)(hA:L.map (λp=>(p.op,p.slot))=A)(hst:mm L)(hnd0:(A.map Prod.snd).Nodup)(hnf:(A.map Prod.fst).Nodup)
    (hrd:o9 l done (dQ L) A=true)(htp:jS L []=true)
    (hfu:fu=fuel+A.length)(hop:mL P n l qs f L (A.map Prod.snd) L)
    (hk:∀γ' w',aM no γ w γ' w'->kD (λf'=>eU P n l qs K fuel (A.map Prod.fst++done) f' w') γ' w' L [] f):eU P n l qs K fu done f w:=by
  subst hfu
  have e1:A.map Prod.snd=L.map Mk.slot:=by rw[<-hA,List.map_map];rfl
  have hnd:(L.map Mk.slot).Nodup:=by rw[<-e1];exact hnd0
  refine nn A (dQ L) (g5 L) γ (λq hq=>?_) hnd0 hnf hrd (λq hq=>?_) (λval γ' w' hc hF=>?_)
  · rw[<-hA] at hq
    obtain⟨p,hp,rfl⟩:=List.mem_map.1 hq
    intro vs γ w γ' w' v hc
    show g5 L p.slot vs γ w v->g5 L p.slot vs γ' w' v
    rw[(fx hnd p hp).2];exact hst.mem p hp vs γ w γ' w' v hc
  · rw[<-hA] at hq
    obtain⟨p,hp,rfl⟩:=List.mem_map.1 hq
    obtain⟨a,o,b,c,d,e⟩:=hop.mem p hp
    show qs.contains p.op=false/\∃o,l[p.op]? =some o/\o.dst=some p.slot/\fH n o=true/\∀(f':Fr) (val:Nat->Value),(∀t,(A.map Prod.snd).contains t=false->f' t=f t)->(∀t∈dQ L p.slot,f' t=val t)->bS l o f'=true/\∀γ w,(∀t∈dQ L p.slot,g5 L t ((dQ L t).map val) γ w (val t))->dv P o f' w λv w'=>∃γ',aM no γ w γ' w'/\g5 L p.slot ((dQ L p.slot).map val) γ' w' v
    rw[(fx hnd p hp).1,(fx hnd p hp).2]
    exact⟨a,o,b,c,d,e⟩
  · have h1:=(hk γ' w' hc).use (val:=val) (λt ht=>absurd ht List.not_mem_nil) htp (λp hp=>by
      have:=hF (p.op,p.slot) (by rw[<-hA];exact List.mem_map.2 ⟨p,hp,rfl⟩)
      have h2:g5 L p.slot ((dQ L p.slot).map val) γ' w' (val p.slot):=this
      rw[(fx hnd p hp).1,(fx hnd p hp).2] at h2;exact h2)
    rw[e1];exact h1
theorem iE{o:Oper}{v:Value}{N:Value->World->Prop}(h:(execOp (ev f) o).run P w= .ok (.value v) w)(hk:N v w):dv P o f w N:=by unfold dv;rw[h];exact hk
end
theorem cW{t:Nat}{l:List Nat}(h:l.contains t=true):t∈l:=List.contains_iff_mem.1 h
theorem eP{f:Fr}{i:Nat}{x:Operand}{xs:List (Nat×Operand)}{v:Value}{vs:List (Nat×Value)}(h:ev f x=v)(h2:xs.map (λx=>(x.1,ev f x.2))=vs):((i,x)::xs).map (λx=>(x.1,ev f x.2))=(i,v)::vs:=by subst h h2;rfl
end TL
/-
  TlPost: what is owed behind a law that returns true and writes nothing of the caller's.
  By an AI agent.
-/
namespace TL
open Go Go.Proofs Go.ChangeShapes Go.WideShapes Go.RowKit
def jM(P:Program)(ts:List TypeId):Bool:=ts.all λt=>P.readableRec t&&decide (t<P.types.size)
theorem gY{H:Type}{enc:TypeId×Value->H}{P:Program}(hl:laidOutB P=true){W W':World}(hb:Below W.heap.size W W')(sp:Nat->Bool):
   ∀{ts:List TypeId} {vs:List Value} {ds:List (DataW H)} {ps:List MemPlace},jM P ts=true->DataW.TrodAll enc P W 0 (λ_=>true) true ts vs ds ps->(∀p∈ps,p.block<W.heap.size)->(∀p∈ps,sp p.block=true)->DataW.TrodAll enc P W' 0 sp true ts vs ds ps
 |[],[],[],_,_,h,_,_=>h
 |[],[],_::_,_,_,h,_,_=>h.elim
 |[],_::_,_,_,_,h,_,_=>by cases‹List (DataW H)›<;>exact h.elim
 |_::_,[],_,_,_,h,_,_=>by cases‹List (DataW H)›<;>exact h.elim
 |_::_,_::_,[],_,_,h,_,_=>h.elim
 |t::ts,v::vs,d::ds,ps,hr,h,hlt,hsp=>by
   obtain⟨p,q,h1,h2,rfl⟩:=h
   simp only[jM,List.all_cons,Bool.and_eq_true,decide_eq_true_eq] at hr
   exact⟨p,q,WideElems.Trod_stays hl hr.1.1 hr.1.2 h1 (λx hx=>hb.same (hlt x (by simp[hx]))) (λx hx=>hsp x (by simp[hx])),
     gY hl hb sp hr.2 h2 (λx hx=>hlt x (by simp[hx])) (λx hx=>hsp x (by simp[hx])),rfl⟩
theorem lz{H:Type}{enc:TypeId×Value->H}{P:Program}{f:Func}{s:ChangeSpec}{W W':World}{args:Array Value}{ds gs:List (DataW H)}{before:List MemPlace}{tb:TypeId}
   (hl:laidOutB P=true)(hr:jM P f.params.toList=true)(hv:s.vars=[])(hrt:f.resultTypes= #[tb])(htb:P.underlying tb=some .bool)
   (hW:DataW.Whole enc P f.params.toList s.vars false W args.toList ds gs before)(hfn:s.fn H (ds++gs)={results:=[.lit (.bool true)],args:=ds})(hB:Below W.heap.size W W'):
   s.post enc P f false true false false W args (.bool true) W':=by
 have hlt:=hW.lt
 have hW0:=hW
 obtain⟨p,q,hA,hV,rfl,hfz,_⟩:=hW
 rw[hv] at hV
 obtain⟨rfl,rfl⟩:=trodVars_none hV
 simp only[List.append_nil] at hlt hfz hW0 hfn
 have hres:∀(b:Nat) (sp:Nat->Bool) (hd:Bool),DataW.TrodAll enc P W' b sp hd f.resultTypes.toList ((Value.bool true).resultList f.resultTypes.size) (s.fn H (ds++[])).results []:=λb sp hd=>by
   rw[hrt,List.append_nil,hfn]
   exact trodAll_cons_mk (shut_bool htb true) trodAll_mk0
 have hargs:∀sp:Nat->Bool,(∀x∈p,sp x.block=true)->DataW.TrodAll enc P W' 0 sp true f.params.toList args.toList (s.fn H (ds++[])).args p:=λsp hsp=>by
   rw[List.append_nil,hfn]
   exact gY hl hB sp hr hA hlt hsp
 have hvars:∀sp:Nat->Bool,DataW.TrodVars enc P W' sp s.vars (s.fn H (ds++[])).vars []:=λsp=>by
   rw[List.append_nil,hfn,hv]
   rfl
 refine⟨ds,[],p,[],p,[],hW0,hres _ _ _,hargs _ (λx hx=>by simpa using hlt x hx),hvars _,World.keptBut_mono (λx hx=>⟨hx,Or.inr (by simpa using hx)⟩) (hB.frame _),λ_=>?_⟩
 refine⟨?_,_,_,([]++p)++[],⟨[]++p,[],trodAll_append (hargs _ (λ_ _=>rfl)) (hres _ _ _),hvars _,rfl,?_,?_⟩,?_⟩
 · exact ok_one hrt rfl (okWide_bool_mk htb true)
 · intro b off hp
   have hp':MemPlace.cell b off∈p:=by simpa using hp
   rw[hB.frozen (p:=⟨b,off,none⟩) (hlt _ hp')]
   exact hfz b off hp'
 · intro ha;cases ha
 · intro x hx _
   simpa using hx
end TL
