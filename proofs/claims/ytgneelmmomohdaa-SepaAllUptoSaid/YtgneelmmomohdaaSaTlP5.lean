/- Plain texts of this claim, part 5. By an AI agent. -/
import Derived.Test.YtgneelmmomohdaaSaTlP4
import Derived.RowKit
/-
  TlRef7L: the document's own Least, step by step: the ib edge not yet seen, labels, and what is told.
  By an AI agent.
-/
set_option linter.all false
namespace TL
variable{g:bz}{ws:List Nat}{c c2:List Int}{seen taken:List Bool}{i k:Nat}{a b at_:Int}
def iV(ws:List Nat)(seen:List Bool):Nat->Int
 |0=> -1
 |k+1=>if gI seen (k:Int)=false/\(iV ws seen k<0\/zf (gI ws (k:Int))<zf (gI ws (iV ws seen k))) then(k:Int) else iV ws seen k
theorem pQ(ws:List Nat)(seen:List Bool):∀k,iV ws seen k<k
 |0=>by unfold iV;omega
 |k+1=>by
   have:=pQ ws seen k
   unfold iV;split<;>omega
theorem n7:∀k,iV ws seen k<0->∀v:Nat,v<k->gI seen (v:Int)=true
 |0,_,v,hv=>by omega
 |k+1,h,v,hv=>by
   unfold iV at h
   split at h
   · omega
   · rename_i d
     by_cases e:v=k
     · subst e
       cases hc:gI seen (v:Int) with
       |true=>rfl
       |false=>exact absurd ⟨hc,.inl h⟩ d
     · exact n7 k h v (by omega)
theorem nA:∀k,¬iV ws seen k<0->gI seen (iV ws seen k)=false/\∀v:Nat,v<k->gI seen (v:Int)=false->¬qy ws v (iV ws seen k)
 |0,h=>absurd (show(-1:Int)<0 by decide) h
 |k+1,h=>by
   unfold iV at h ⊢
   by_cases d:gI seen (k:Int)=false/\(iV ws seen k<0\/zf (gI ws (k:Int))<zf (gI ws (iV ws seen k)))
   · rw[if_pos d]
     refine⟨d.1,λv hv hs=>?_⟩
     by_cases e:v=k
     · rw[e];exact o9 _ _
     · by_cases c3:iV ws seen k<0
       · have:=n7 k c3 v (by omega)
         rw[this] at hs;cases hs
       · obtain⟨_,i2⟩:=nA k c3
         have h1:=i2 v (by omega) hs
         have h2:=d.2.resolve_left c3
         unfold qy rr wB at*
         simp only at*
         omega
   · rw[if_neg d] at h ⊢
     obtain⟨i1,i2⟩:=nA k h
     refine⟨i1,λv hv hs=>?_⟩
     by_cases e:v=k
     · subst e
       have h3:¬zf (gI ws (v:Int))<zf (gI ws (iV ws seen v)):=λx=>d ⟨hs,.inr x⟩
       have h4:=pQ ws seen v
       unfold qy rr wB
       simp only
       omega
     · exact i2 v (by omega) hs
structure vh(g:bz)(ws:List Nat)(c:List Int)(seen taken:List Bool)(i:Nat):Prop where
 lc:(c.length:Int)=g.1
 ls:(seen.length:Int)=g.2.length
 lt:(taken.length:Int)=g.2.length
 eq:c=(me g ((fa ws).take i)).1
 sn:∀k:Int,0<=k->k<g.2.length->(gI seen k=true↔k∈(fa ws).take i)
 tk:∀k:Int,0<=k->k<g.2.length->(gI taken k=true↔k∈(me g ((fa ws).take i)).2)
theorem vh.start(hm:aX g)(hc:c=bp g.1.toNat):vh g ws c (List.replicate (Int.toNat (g.2.length:Int)) false) (List.replicate (Int.toNat (g.2.length:Int)) false) 0:=by
 have h0:=hm.1
 refine⟨by rw[hc,eY];omega,by simp,by simp,by rw[hc,List.take_zero];rfl,λk h0 h1=>?_,λk h0 h1=>?_⟩
 · rw[ut h0 (by omega),List.take_zero];simp
 · rw[ut h0 (by omega),List.take_zero];simp[me]
theorem vh.at(h:vh g ws c seen taken i)(hwl:ws.length=g.2.length)(hi:(i:Int)<g.2.length):iV ws seen g.2.length=gI (fa ws) (i:Int):=by
 have hol:=pW ws
 have hlt:i<(fa ws).length:=by omega
 obtain⟨x,ex⟩:∃x,x=gI (fa ws) (i:Int):=⟨_,rfl⟩
 have ex2:x=(fa ws)[i]:=by rw[ex];simp[gI,hlt]
 have hx:=tG.1 (show x∈fa ws by rw[ex2];exact List.getElem_mem hlt)
 have hnd:=v7 ws
 have hsplit:fa ws=(fa ws).take i++x::(fa ws).drop (i+1):=by
   rw[ex2,<-List.drop_eq_getElem_cons hlt,List.take_append_drop]
 have hxn:x∉(fa ws).take i:=by
   rw[hsplit] at hnd
   intro k
   have:=(List.nodup_append.1 hnd).2.2 x k x (List.mem_cons_self ..)
   exact this rfl
 have hxs:gI seen x=false:=by
   cases hc:gI seen x with
   |false=>rfl
   |true=>exact absurd ((h.sn x hx.1 (by omega)).1 hc) hxn
 obtain⟨n,en⟩:∃n:Nat,x=n:=⟨x.toNat,by omega⟩
 have hneg:¬iV ws seen g.2.length<0:=by
   intro k
   have:=n7 g.2.length k n (by omega)
   rw[<-en,hxs] at this;cases this
 obtain⟨m1,m2⟩:=nA g.2.length hneg
 have hlt2:=pQ ws seen g.2.length
 obtain⟨y,ey⟩:∃y,y=iV ws seen g.2.length:=⟨_,rfl⟩
 rw[<-ey] at m1 m2 hlt2 hneg ⊢
 have k1:¬qy ws x y:=by rw[en];exact m2 n (by omega) (by rw[<-en];exact hxs)
 have hy:y∈fa ws:=tG.2 ⟨by omega,by omega⟩
 have hyn:y∉(fa ws).take i:=by
   intro k
   have:=(h.sn y (by omega) (by omega)).2 k
   rw[m1] at this;cases this
 have k2:¬qy ws y x:=by
   rw[hsplit] at hy
   rcases List.mem_append.1 hy with k|k
   · exact absurd k hyn
   · rcases List.mem_cons.1 k with k|k
     · rw[k];exact o9 _ _
     · have hs:=At ws
       unfold sO at hs
       rw[hsplit] at hs
       exact(List.pairwise_cons.1 (List.pairwise_append.1 hs).2.1).1 y k
 rw[<-ex]
 exact Ar k2 k1
theorem oa(hwl:ws.length=g.2.length)(hi:(i:Int)<g.2.length):(fa ws).take (i+1)=(fa ws).take i++[gI (fa ws) (i:Int)]:=uS (by rw[pW];omega)
theorem seen_next(h:vh g ws c seen taken i)(hwl:ws.length=g.2.length)(hi:(i:Int)<g.2.length)(ha:at_=gI (fa ws) (i:Int))(a0:0<=at_)(a1:at_<g.2.length)(k:Int)(k0:0<=k)(k1:k<g.2.length):gI (seen.set at_.toNat true) k=true↔k∈(fa ws).take (i+1):=by
 rw[oa hwl hi,<-ha,List.mem_append,List.mem_singleton,bT a0 (by have:=h.ls;omega) k0]
 by_cases e:k=at_
 · rw[if_pos e];simp[e]
 · rw[if_neg e,h.sn k k0 k1];simp[e]
theorem vh.same(h:vh g ws c seen taken i)(hwl:ws.length=g.2.length)(hi:(i:Int)<g.2.length)(ha:at_=gI (fa ws) (i:Int))(a0:0<=at_)(a1:at_<g.2.length)(e:gI c (gI g.2 at_).1=gI c (gI g.2 at_).2):vh g ws c (seen.set at_.toNat true) taken (i+1):=by
 have e2:me g ((fa ws).take (i+1))=me g ((fa ws).take i):=by
   rw[oa hwl hi,ry,<-ha]
   unfold Ay
   rw[<-h.eq,if_pos e]
 exact⟨h.lc,by rw[List.length_set];exact h.ls,h.lt,by rw[e2];exact h.eq,seen_next h hwl hi ha a0 a1,by rw[e2];exact h.tk⟩
structure yk(n:Int)(c c2:List Int)(a b:Int)(v:Nat):Prop where
 l2:(c2.length:Int)=n
 l1:(c.length:Int)=n
 at_:∀k:Int,0<=k->k<n->gI c2 k=if k<v then(if gI c k=b then a else gI c k) else gI c k
theorem yk.start{n:Int}(h:(c.length:Int)=n):yk n c c a b 0:=⟨h,h,λk k0 k1=>by rw[if_neg (by omega)]⟩
theorem yk.yes{n:Int}{v:Nat}(h:yk n c c2 a b v)(hv:(v:Int)<n)(e:gI c2 (v:Int)=b):yk n c (c2.set (Int.toNat (v:Int)) a) a b (v+1):=by
 refine⟨by rw[List.length_set];exact h.l2,h.l1,λk k0 k1=>?_⟩
 have hvv:=h.at_ v (by omega) hv
 rw[if_neg (by omega)] at hvv
 have hk:=h.at_ k k0 k1
 rw[bT (by omega) (by have:=h.l2;omega) k0]
 by_cases c1:k=v
 · subst c1
   have e1:(v:Int)<((v+1:Nat):Int):=by omega
   have e2:gI c (v:Int)=b:=by rw[<-hvv];exact e
   rw[if_pos rfl,if_pos e1,if_pos e2]
 · rw[if_neg c1]
   by_cases c2:k<v
   · have e1:k<((v+1:Nat):Int):=by omega
     rw[if_pos c2] at hk
     rw[if_pos e1];exact hk
   · have e1:¬k<((v+1:Nat):Int):=by omega
     rw[if_neg c2] at hk
     rw[if_neg e1];exact hk
theorem yk.no{n:Int}{v:Nat}(h:yk n c c2 a b v)(hv:(v:Int)<n)(e:¬gI c2 (v:Int)=b):yk n c c2 a b (v+1):=by
 refine⟨h.l2,h.l1,λk k0 k1=>?_⟩
 have hvv:=h.at_ v (by omega) hv
 rw[if_neg (by omega)] at hvv
 have hk:=h.at_ k k0 k1
 by_cases c1:k=v
 · subst c1
   have e1:(v:Int)<((v+1:Nat):Int):=by omega
   have e2:¬gI c (v:Int)=b:=by rw[<-hvv];exact e
   rw[if_pos e1,if_neg e2];exact hvv
 · by_cases c2:k<v
   · have e1:k<((v+1:Nat):Int):=by omega
     rw[if_pos c2] at hk
     rw[if_pos e1];exact hk
   · have e1:¬k<((v+1:Nat):Int):=by omega
     rw[if_neg c2] at hk
     rw[if_neg e1];exact hk
theorem yk.done{n:Int}{v:Nat}(h:yk n c c2 a b v)(hv:¬(v:Int)<n):c2=rG c a b:=by
 have h1:=h.l1
 have h2:=h.l2
 apply fp
 · unfold rG;rw[List.length_map];omega
 · intro i hi
   rw[h.at_ i (by omega) (by omega),if_pos (by omega),xS (by omega) (by omega)]
theorem vh.join{v:Nat}(h:vh g ws c seen taken i)(hwl:ws.length=g.2.length)(hi:(i:Int)<g.2.length)(ha:at_=gI (fa ws) (i:Int))(a0:0<=at_)(a1:at_<g.2.length)(e:¬gI c (gI g.2 at_).1=gI c (gI g.2 at_).2)
   (hr:yk g.1 c c2 (gI c (gI g.2 at_).1) (gI c (gI g.2 at_).2) v)(hv:¬(v:Int)<g.1):vh g ws c2 (seen.set at_.toNat true) (taken.set at_.toNat true) (i+1):=by
 have e2:me g ((fa ws).take (i+1))=(rG c (gI c (gI g.2 at_).1) (gI c (gI g.2 at_).2),(me g ((fa ws).take i)).2++[at_]):=by
   rw[oa hwl hi,ry,<-ha]
   unfold Ay
   rw[<-h.eq,if_neg e]
 refine⟨hr.l2,by rw[List.length_set];exact h.ls,by rw[List.length_set];exact h.lt,by rw[e2];exact hr.done hv,seen_next h hwl hi ha a0 a1,λk k0 k1=>?_⟩
 rw[e2]
 show _↔k∈(me g ((fa ws).take i)).2++[at_]
 rw[List.mem_append,List.mem_singleton,bT a0 (by have:=h.lt;omega) k0]
 by_cases e:k=at_
 · rw[if_pos e];simp[e]
 · rw[if_neg e,h.tk k k0 k1];simp[e]
theorem vh.all(h:vh g ws c seen taken i)(hwl:ws.length=g.2.length)(hi:¬(i:Int)<g.2.length)(k:Int)(k0:0<=k)(k1:k<g.2.length):gI taken k=true↔k∈(me g (fa ws)).2:=by
 have:=h.tk k k0 k1
 rw[List.take_of_length_le (by rw[pW];omega)] at this
 exact this
end TL
/-
  TlOnes: ways of weights 1, 0 and of none: as a walk breadth first goes.
  By an AI agent.
-/
set_option linter.all false
namespace TL
variable{g g1 g2:bz}{ws w1 w2:List Nat}{s v:Int}{f1 f2 far:List Nat}{b1 b2 by_:List Int}{r1 r2 rk:Int->Nat}{C:Nat}
end TL
namespace TL
variable{g:bz}{s:Int}
end TL
namespace TL
open Go
theorem Ce{P:Program}{f:Fr}{w:World}{dst:Option Tmp}{ty:TypeId}{pos:String}{after:Array Edge}{g:Option (Nat×Bool)}{t t':TypeId}{x y:Operand}{op:BinOp}{k:IntKind}{m n r:Int}(hx:ev f x= .int k m)(hy:ev f y= .int k n)(h:binOp op t (.int k m) (.int k n)=pure (.int k r)):(execOp (ev f) ⟨dst,.binOp op t x y t',ty,pos,after,g⟩).run P w= .ok (.value (.int k r)) w:=
 dj op x y hx hy (by rw[h];rfl)
end TL
namespace TL
variable{g:bz}{s v:Int}{on ze so:List Nat}{op:List Int}{i:Nat}
end TL
/-
  TlPerm: several new objects that are made in whatever order is drawn: all orders end alike.
  By an AI agent.
-/
set_option linter.all false
namespace TL
open Go
def oy(f:Fr)(val:Nat->Value)(S:List Nat):Fr:=λt=>bif S.contains t then val t else f t
theorem uT{f:Fr}{val:Nat->Value}{S S':List Nat}(h:∀t,t∈S↔t∈S'):oy f val S=oy f val S':=by
 funext t
 unfold oy
 have:S.contains t=S'.contains t:=by
   rw[Bool.eq_iff_iff]
   simp only[List.contains_iff_mem];exact h t
 rw[this]
theorem zT{f:Fr}{val:Nat->Value}{S:List Nat}{d:Nat}{v:Value}(hd:d∉S):gK (oy f val S) (some d) v=oy f (λt=>if t=d then v else val t) (d::S):=by
 funext t
 unfold gK oy
 simp only
 by_cases c:t=d
 · subst c
   have e1:(t::S).contains t=true:=by simp
   rw[e1,Nat.beq_refl];simp
 · have e1:Nat.beq t d=false:=by
     cases h:Nat.beq t d with
     |false=>rfl
     |true=>exact absurd (Nat.eq_of_beq_eq_true h) c
   have e2:(d::S).contains t=S.contains t:=by
     rw[Bool.eq_iff_iff]
     simp[c]
   rw[e1,e2,if_neg c];rfl
def qI{α:Type}:List α->List (List α)
 |[]=>[[]]
 |a::l=>qI l++(qI l).map (a:: ·)
theorem lX{α:Type}(p:α->Bool):∀l:List α,l.filter p∈qI l
 |[]=>List.mem_singleton.2 rfl
 |a::l=>by
   have ih:=lX p l
   unfold qI
   rw[List.filter_cons]
   split
   · exact List.mem_append_right _ (List.mem_map.2 ⟨_,ih,rfl⟩)
   · exact List.mem_append_left _ ih
theorem jU:∀(D A:List (Nat×Nat)),D.Nodup->(∀p∈D,p∈A)->D.length<=A.length
 |[],A,_,_=>Nat.zero_le _
 |a::D,A,hn,hs=>by
   have hn':=List.nodup_cons.1 hn
   have ha:=hs a (List.mem_cons_self ..)
   have h3:=jU D (A.erase a) hn'.2 (λx hx=>by
     have hne:x≠a:=λe=>hn'.1 (by rw[<-e];exact hx)
     exact(List.mem_erase_of_ne hne).2 (hs x (List.mem_cons_of_mem _ hx)))
   have h4:=List.length_erase_of_mem ha
   have h5:=List.length_pos_of_mem ha
   rw[List.length_cons];omega
theorem mI:∀{A:List (Nat×Nat)},(A.map Prod.fst).Nodup->A.Nodup
 |[],_=>List.nodup_nil
 |a::A,h=>by
   rw[List.map_cons,List.nodup_cons] at h
   exact List.nodup_cons.2 ⟨λk=>h.1 (List.mem_map.2 ⟨a,k,rfl⟩),mI h.2⟩
theorem oD{A:List (Nat×Nat)}(h:(A.map Prod.snd).Nodup){p q:Nat×Nat}(hp:p∈A)(hq:q∈A)(e:p.2=q.2):p=q:=by
 induction A with
 |nil=>exact absurd hp List.not_mem_nil
 |cons a A ih=>
   rw[List.map_cons,List.nodup_cons] at h
   rcases List.mem_cons.1 hp with e1|e1
   · rcases List.mem_cons.1 hq with e2|e2
     · rw[e1,e2]
     · exact absurd (List.mem_map.2 ⟨q,e2,by rw[<-e,e1]⟩) h.1
   · rcases List.mem_cons.1 hq with e2|e2
     · exact absurd (List.mem_map.2 ⟨p,e1,by rw[e,e2]⟩) h.1
     · exact ih h.2 e1 e2
section
variable{P:Program}{n:Nat}{l:List Oper}{qs:List Nat}{K:Fr->World->Prop}{f:Fr}{w:World}{done:List Nat}{fuel:Nat}
theorem nN{n:Nat}{d d':List Nat}(h:∀t,t∈d↔t∈d'):cI n d=cI n d':=by
 unfold cI
 congr 1
 apply List.map_congr_left
 intro t _
 rw[decide_eq_decide];exact h t
theorem vP{done':List Nat}(h:∀t,t∈done↔t∈done')(hw:kh P n l qs K fuel done f w):kh P n l qs K fuel done' f w:=by
 unfold kh at*
 rw[<-nN h];exact hw
def yW(dep:Nat->List Nat)(D:List (Nat×Nat)):Bool:=D.all λp=>(dep p.2).all λt=>(D.map Prod.snd).contains t
def rf(dep:Nat->List Nat)(A D:List (Nat×Nat)):List (Nat×Nat):=A.filter λp=> !(D.map Prod.fst).contains p.1&&(dep p.2).all λt=>(D.map Prod.snd).contains t
def DD(l:List Oper)(done:List Nat)(dep:Nat->List Nat)(A:List (Nat×Nat)):Bool:=(qI A).all λD=>decide (D.length=A.length)||(yW dep D).not||(decide (Region.ready .any l.toArray (cI l.length (D.map Prod.fst++done))=(rf dep A D).map Prod.fst)&& !(rf dep A D).isEmpty)
theorem BO(A:List (Nat×Nat))(dep:Nat->List Nat)(Φ:Nat->List Value->aG->World->Value->Prop)(γ:aG)
    (hst:∀p∈A,∀vs γ w γ' w' v,bD no γ w γ' w'->Φ p.2 vs γ w v->Φ p.2 vs γ' w' v)
    (hnd:(A.map Prod.snd).Nodup)(hnf:(A.map Prod.fst).Nodup)
    (hrd:DD l done dep A=true)
    (hop:∀p∈A,qs.contains p.1=false/\∃o,l[p.1]? =some o/\o.dst=some p.2/\lV n o=true/\∀(f':Fr) (val:Nat->Value),(∀t,(A.map Prod.snd).contains t=false->f' t=f t)->(∀t∈dep p.2,f' t=val t)->dm l o f'=true/\∀γ w,(∀t∈dep p.2,Φ t ((dep t).map val) γ w (val t))->fS P o f' w λv w'=>∃γ',bD no γ w γ' w'/\Φ p.2 ((dep p.2).map val) γ' w' v)
    (hk:∀val γ' w',bD no γ w γ' w'->(∀p∈A,Φ p.2 ((dep p.2).map val) γ' w' (val p.2))->kh P n l qs K fuel (A.map Prod.fst++done) (oy f val (A.map Prod.snd)) w'):kh P n l qs K (fuel+A.length) done f w:=by
  have main:∀(m:Nat) (D:List (Nat×Nat)) (val:Nat->Value) (γ':aG) (w':World),D.Nodup->(∀p∈D,p∈A)->(∀p∈D,∀t∈dep p.2,t∈D.map Prod.snd)->D.length+m=A.length->bD no γ w γ' w'->(∀p∈D,Φ p.2 ((dep p.2).map val) γ' w' (val p.2))->kh P n l qs K (fuel+m) (D.map Prod.fst++done) (oy f val (D.map Prod.snd)) w':=by
    have hAn:A.Nodup:=mI hnf
    intro m
    induction m with
    |zero=>
      intro D val γ' w' hD hsub hcl hl hc hF
      have hmem:∀p,p∈A↔p∈D:=by
        intro p
        refine⟨λhp=>?_,hsub p⟩
        by_cases c:p∈D
        · exact c
        · exfalso
          have:=jU (p::D) A (List.nodup_cons.2 ⟨c,hD⟩) (λq hq=>(List.mem_cons.1 hq).elim (λe=>by rw[e];exact hp) (hsub q))
          rw[List.length_cons] at this;omega
      have h1:=hk val γ' w' hc (λp hp=>hF p ((hmem p).1 hp))
      have e1:∀t,t∈A.map Prod.fst++done↔t∈D.map Prod.fst++done:=λt=>by
        simp only[List.mem_append,List.mem_map]
        constructor
        · rintro(⟨p,hp,rfl⟩|h)
          · exact .inl ⟨p,(hmem p).1 hp,rfl⟩
          · exact .inr h
        · rintro(⟨p,hp,rfl⟩|h)
          · exact .inl ⟨p,(hmem p).2 hp,rfl⟩
          · exact .inr h
      have e2:oy f val (A.map Prod.snd)=oy f val (D.map Prod.snd):=uT λt=>by
        simp only[List.mem_map]
        constructor
        · rintro⟨p,hp,rfl⟩;exact⟨p,(hmem p).1 hp,rfl⟩
        · rintro⟨p,hp,rfl⟩;exact⟨p,(hmem p).2 hp,rfl⟩
      rw[e2] at h1
      exact vP e1 h1
    |succ m ih=>
      intro D val γ' w' hD hsub hcl hl hc hF
      let D':=A.filter λp=>decide (p∈D)
      have hD':∀p,p∈D'↔p∈D:=λp=>by
        show p∈A.filter _↔_
        rw[List.mem_filter,decide_eq_true_iff]
        exact⟨λh=>h.2,λh=>⟨hsub p h,h⟩⟩
      have hD1:∀t,t∈D'.map Prod.fst↔t∈D.map Prod.fst:=λt=>by
        simp only[List.mem_map]
        exact⟨λ⟨p,hp,e⟩=>⟨p,(hD' p).1 hp,e⟩,λ⟨p,hp,e⟩=>⟨p,(hD' p).2 hp,e⟩⟩
      have hD2:∀t,t∈D'.map Prod.snd↔t∈D.map Prod.snd:=λt=>by
        simp only[List.mem_map]
        exact⟨λ⟨p,hp,e⟩=>⟨p,(hD' p).1 hp,e⟩,λ⟨p,hp,e⟩=>⟨p,(hD' p).2 hp,e⟩⟩
      have hlD:D'.length≠A.length:=by
        have h1:=jU D' D (hAn.filter _) (λp hp=>(hD' p).1 hp)
        omega
      have hcD:yW dep D'=true:=by
        unfold yW
        simp only[List.all_eq_true,List.contains_iff_mem]
        exact λp hp t ht=>(hD2 t).2 (hcl p ((hD' p).1 hp) t ht)
      have hr0:=List.all_eq_true.1 hrd D' (lX _ A)
      rw[decide_eq_false hlD,hcD] at hr0
      simp only[Bool.not_true,Bool.or_false,Bool.false_or,Bool.and_eq_true] at hr0
      obtain⟨hr1,hne⟩:=hr0
      have hr:=of_decide_eq_true hr1
      have em:cI l.length (D'.map Prod.fst++done)=cI l.length (D.map Prod.fst++done):=nN λt=>by
        simp only[List.mem_append];rw[hD1 t]
      rw[em] at hr
      have hnx:∀p,p∈rf dep A D'->p∈A/\p∉D/\∀t∈dep p.2,t∈D.map Prod.snd:=λp hp=>by
        unfold rf at hp
        rw[List.mem_filter,Bool.and_eq_true,List.all_eq_true] at hp
        obtain⟨h1,h2,h3⟩:=hp
        refine⟨h1,λk=>?_,λt ht=>(hD2 t).1 (List.contains_iff_mem.1 (h3 t ht))⟩
        have:p.1∈D'.map Prod.fst:=List.mem_map.2 ⟨p,(hD' p).2 k,rfl⟩
        simp[this] at h2
      intro a ha
      refine⟨λh0=>?_,λk hk2=>?_⟩
      · rw[hr] at h0
        have h5:rf dep A D'=[]:=List.map_eq_nil_iff.1 h0
        rw[h5] at hne;cases hne
      · rw[hr] at hk2
        obtain⟨p,hp0,rfl⟩:=List.mem_map.1 hk2
        obtain⟨hp,hpD,hdp⟩:=hnx p hp0
        obtain⟨hq,o,hi,hdst,hdk,ho⟩:=hop p hp
        have hlt:p.1<l.length:=(List.getElem?_eq_some_iff.1 hi).1
        have hq':decide (p.1∈qs)=false:=by simpa using hq
        have hd2:p.2∉D.map Prod.snd:=by
          intro k
          obtain⟨q,hq2,e⟩:=List.mem_map.1 k
          have:q=p:=oD hnd (hsub q hq2) hp e
          rw[this] at hq2;exact hpD hq2
        obtain⟨hw1,hw2⟩:=ho (oy f val (D.map Prod.snd)) val (λt ht=>by
          unfold oy
          have:(D.map Prod.snd).contains t=false:=by
            cases hc2:(D.map Prod.snd).contains t with
            |false=>rfl
            |true=>
              obtain⟨q,hq2,e⟩:=List.mem_map.1 (List.contains_iff_mem.1 hc2)
              have:(A.map Prod.snd).contains t=true:=List.contains_iff_mem.2 (List.mem_map.2 ⟨q,hsub q hq2,e⟩)
              rw[this] at ht;cases ht
          rw[this];rfl) (λt ht=>by
          unfold oy
          rw[List.contains_iff_mem.2 (hdp t ht)];rfl)
        simp only[hq',Bool.false_eq_true,if_false]
        refine gi ha hi hw1 (hw2 γ' w' (λt ht=>?_)) λv w2 ⟨γ2,c2,h2⟩=>?_
        · obtain⟨q,hq2,e⟩:=List.mem_map.1 (hdp t ht)
          rw[<-e];exact hF q hq2
        rw[dG _ hlt]
        have hc2:bD no γ w γ2 w2:=hc.trans c2 (λ_ _ h=>h.elim id id)
        have hval:∀q:Nat×Nat,(∀t∈dep q.2,t∈D.map Prod.snd)->(dep q.2).map (λt=>if t=p.2 then v else val t)=(dep q.2).map val:=λq hq2=>List.map_congr_left λt ht=>by
          rw[if_neg]
          intro e
          exact hd2 (by rw[<-e];exact hq2 t ht)
        have hnext:=ih (p::D) (λt=>if t=p.2 then v else val t) γ2 w2 (List.nodup_cons.2 ⟨hpD,hD⟩) (λq hq2=>(List.mem_cons.1 hq2).elim (λe=>by rw[e];exact hp) (hsub q)) (λq hq2 t ht=>by
          rw[List.map_cons]
          rcases List.mem_cons.1 hq2 with e|e
          · rw[e] at ht;exact List.mem_cons_of_mem _ (hdp t ht)
          · exact List.mem_cons_of_mem _ (hcl q e t ht)) (by rw[List.length_cons];omega) hc2 (λq hq2=>by
          rcases List.mem_cons.1 hq2 with e|e
          · rw[e,if_pos rfl,hval p hdp];exact h2
          · have hne:q.2≠p.2:=λk=>hd2 (by rw[<-k];exact List.mem_map.2 ⟨q,e,rfl⟩)
            rw[if_neg hne,hval q (hcl q e)]
            exact hst q (hsub q e) _ _ _ _ _ _ c2 (hF q e))
        have ef:gK (oy f val (D.map Prod.snd)) o.dst v=oy f (λt=>if t=p.2 then v else val t) ((p::D).map Prod.snd):=by
          rw[hdst,zT hd2];rfl
        have:=hnext (a.put o.dst v) (by rw[<-ef];exact ha.put hdk v)
        exact this
  have h0:=main A.length [] (λ_=>undef) γ w List.nodup_nil (λp hp=>absurd hp List.not_mem_nil) (λp hp=>absurd hp List.not_mem_nil) (by simp) (bD.refl _ _ _) (λp hp=>absurd hp List.not_mem_nil)
  have e0:oy f (λ_=>undef) (([]:List (Nat×Nat)).map Prod.snd)=f:=by
    funext t;rfl
  rw[e0] at h0
  exact h0
end
end TL
namespace TL
open Go
structure Mk where
  op:Nat
  slot:Nat
  dep:List Nat
  ok:List Value->aG->World->Value->Prop
def Am:List Mk->Prop
 |[]=>True
 |p::r=>(∀vs γ w γ' w' v,bD no γ w γ' w'->p.ok vs γ w v->p.ok vs γ' w' v)/\Am r
def ig:List Mk->Nat->List Nat
 |[],_=>[]
 |p::r,t=>bif Nat.beq t p.slot then p.dep else ig r t
def mh:List Mk->Nat->List Value->aG->World->Value->Prop
 |[],_=>λ_ _ _ _=>False
 |p::r,t=>bif Nat.beq t p.slot then p.ok else mh r t
def zr(P:Program)(n:Nat)(l:List Oper)(qs:List Nat)(f:Fr)(L:List Mk)(S:List Nat):List Mk->Prop
  |[]=>True
  |p::r=>(qs.contains p.op=false/\∃o,l[p.op]? =some o/\o.dst=some p.slot/\lV n o=true/\∀(f':Fr) (val:Nat->Value),(∀t,S.contains t=false->f' t=f t)->(∀t∈p.dep,f' t=val t)->dm l o f'=true/\∀γ w,(∀t∈p.dep,mh L t ((ig L t).map val) γ w (val t))->fS P o f' w λv w'=>∃γ',bD no γ w γ' w'/\p.ok (p.dep.map val) γ' w' v)/\zr P n l qs f L S r
theorem Am.mem{L:List Mk}(h:Am L):∀p∈L,∀vs γ w γ' w' v,bD no γ w γ' w'->p.ok vs γ w v->p.ok vs γ' w' v:=by
 induction L with
 |nil=>intro p hp;exact absurd hp List.not_mem_nil
 |cons a L ih=>
   intro p hp
   rcases List.mem_cons.1 hp with e|e
   · rw[e];exact h.1
   · exact ih h.2 p e
theorem pf{a b:Nat}(h:a≠b):Nat.beq a b=false:=by
 cases k:Nat.beq a b with
 |false=>rfl
 |true=>exact absurd (Nat.eq_of_beq_eq_true k) h
theorem li:∀{L:List Mk},(L.map Mk.slot).Nodup->∀p∈L,ig L p.slot=p.dep/\mh L p.slot=p.ok
 |[],_,p,hp=>absurd hp List.not_mem_nil
 |a::L,h,p,hp=>by
   rw[List.map_cons,List.nodup_cons] at h
   rcases List.mem_cons.1 hp with e|e
   · rw[e];unfold ig mh;rw[Nat.beq_refl];exact⟨rfl,rfl⟩
   · have hne:p.slot≠a.slot:=λk=>h.1 (by rw[<-k];exact List.mem_map.2 ⟨p,e,rfl⟩)
     unfold ig mh
     rw[pf hne];exact li h.2 p e
def kD(K:Fr->Prop)(γ:aG)(w:World):List Mk->List (Nat×Value)->Fr->Prop
  |[],_,f=>K f
  |p::r,env,f=>∀v,p.ok (p.dep.map λt=>(env.lookup t).getD undef) γ w v->kD K γ w r ((p.slot,v)::env) (gK f (some p.slot) v)
def tM:List Mk->List Nat->Bool
 |[],_=>true
 |p::r,S=>(p.dep.all λt=>S.contains t)&&tM r (p.slot::S)
theorem xi{f:Fr}{val:Nat->Value}{d:Nat}{S:List Nat}:oy (gK f (some d) (val d)) val S=oy f val (d::S):=by
 funext t
 unfold oy gK
 simp only
 by_cases c:t=d
 · subst c
   have e1:(t::S).contains t=true:=by simp
   rw[e1,Nat.beq_refl];cases S.contains t<;>rfl
 · have e1:Nat.beq t d=false:=pf c
   have e2:(d::S).contains t=S.contains t:=by
     rw[Bool.eq_iff_iff]
     simp[c]
   rw[e1,e2];rfl
theorem kD.use{K:Fr->Prop}{γ:aG}{w:World}{val:Nat->Value}:∀{L:List Mk} {env:List (Nat×Value)} {f:Fr},kD K γ w L env f->(∀t∈env.map Prod.fst,(env.lookup t).getD undef=val t)->tM L (env.map Prod.fst)=true->(∀p∈L,p.ok (p.dep.map val) γ w (val p.slot))->K (oy f val (L.map Mk.slot))
 |[],_,f,h,_,_,_=>by
   have:oy f val (([]:List Mk).map Mk.slot)=f:=by funext t;rfl
   rw[this];exact h
 |p::L,env,f,h,he,ht,hF=>by
   unfold tM at ht
   rw[Bool.and_eq_true,List.all_eq_true] at ht
   have e1:p.dep.map (λt=>(env.lookup t).getD undef)=p.dep.map val:=List.map_congr_left λt h1=>he t (List.contains_iff_mem.1 (ht.1 t h1))
   have h2:=h (val p.slot) (by rw[e1];exact hF p (List.mem_cons_self ..))
   have:=kD.use h2 (λt h3=>by
     rw[List.lookup_cons]
     by_cases c:t=p.slot
     · rw[c];simp
     · have:(t==p.slot)=false:=by simpa using c
       rw[this]
       exact he t ((List.mem_cons.1 h3).resolve_left c)) ht.2 (λq hq=>hF q (List.mem_cons_of_mem _ hq))
   rw[xi] at this;exact this
section
variable{P:Program}{n:Nat}{l:List Oper}{qs:List Nat}{K:Fr->World->Prop}{f:Fr}{w:World}{done:List Nat}{fuel:Nat}{S:List Nat}
theorem zr.mem{L M:List Mk}(h:zr P n l qs f M S L):∀p∈L,qs.contains p.op=false/\∃o,l[p.op]? =some o/\o.dst=some p.slot/\lV n o=true/\∀(f':Fr) (val:Nat->Value),(∀t,S.contains t=false->f' t=f t)->(∀t∈p.dep,f' t=val t)->dm l o f'=true/\∀γ w,(∀t∈p.dep,mh M t ((ig M t).map val) γ w (val t))->fS P o f' w λv w'=>∃γ',bD no γ w γ' w'/\p.ok (p.dep.map val) γ' w' v:=by
 induction L with
 |nil=>intro p hp;exact absurd hp List.not_mem_nil
 |cons a L ih=>
   intro p hp
   rcases List.mem_cons.1 hp with e|e
   · rw[e];exact h.1
   · exact ih h.2 p e
theorem fS.mono{o:Oper}{N N':Value->World->Prop}(h:fS P o f w N)(hN:∀v w,N v w->N' v w):fS P o f w N':=by
 unfold fS at*
 generalize(execOp (ev f) o).run P w=r at*
 cases r with
 |halt x w'=>exact h.elim
 |ok nx w'=>
   cases nx<;>simp only[uG] at h ⊢
   case value v=>exact hN _ _ h
   case skip=>exact hN _ _ h
   case enter g args=>
     refine h.mono λe w'' he=>?_
     cases e with
     |returned v=>exact hN _ _ he
     |panicked c=>exact he.elim
     |outgrown=>exact he.elim
theorem AG(γ:aG)(L:List Mk)(A:List (Nat×Nat))(fu:Nat)(hA:L.map (λp=>(p.op,p.slot))=A)(hst:Am L)(hnd0:(A.map Prod.snd).Nodup)(hnf:(A.map Prod.fst).Nodup)
    (hrd:DD l done (ig L) A=true)(htp:tM L []=true)
    (hfu:fu=fuel+A.length)(hop:zr P n l qs f L (A.map Prod.snd) L)
    (hk:∀γ' w',bD no γ w γ' w'->kD (λf'=>kh P n l qs K fuel (A.map Prod.fst++done) f' w') γ' w' L [] f):kh P n l qs K fu done f w:=by
  subst hfu
  have e1:A.map Prod.snd=L.map Mk.slot:=by rw[<-hA,List.map_map];rfl
  have hnd:(L.map Mk.slot).Nodup:=by rw[<-e1];exact hnd0
  refine BO A (ig L) (mh L) γ (λq hq=>?_) hnd0 hnf hrd (λq hq=>?_) (λval γ' w' hc hF=>?_)
  · rw[<-hA] at hq
    obtain⟨p,hp,rfl⟩:=List.mem_map.1 hq
    intro vs γ w γ' w' v hc
    show mh L p.slot vs γ w v->mh L p.slot vs γ' w' v
    rw[(li hnd p hp).2];exact hst.mem p hp vs γ w γ' w' v hc
  · rw[<-hA] at hq
    obtain⟨p,hp,rfl⟩:=List.mem_map.1 hq
    obtain⟨a,o,b,c,d,e⟩:=hop.mem p hp
    show qs.contains p.op=false/\∃o,l[p.op]? =some o/\o.dst=some p.slot/\lV n o=true/\∀(f':Fr) (val:Nat->Value),(∀t,(A.map Prod.snd).contains t=false->f' t=f t)->(∀t∈ig L p.slot,f' t=val t)->dm l o f'=true/\∀γ w,(∀t∈ig L p.slot,mh L t ((ig L t).map val) γ w (val t))->fS P o f' w λv w'=>∃γ',bD no γ w γ' w'/\mh L p.slot ((ig L p.slot).map val) γ' w' v
    rw[(li hnd p hp).1,(li hnd p hp).2]
    exact⟨a,o,b,c,d,e⟩
  · have h1:=(hk γ' w' hc).use (val:=val) (λt ht=>absurd ht List.not_mem_nil) htp (λp hp=>by
      have:=hF (p.op,p.slot) (by rw[<-hA];exact List.mem_map.2 ⟨p,hp,rfl⟩)
      have h2:mh L p.slot ((ig L p.slot).map val) γ' w' (val p.slot):=this
      rw[(li hnd p hp).1,(li hnd p hp).2] at h2;exact h2)
    rw[e1];exact h1
theorem wF{o:Oper}{v:Value}{N:Value->World->Prop}(h:(execOp (ev f) o).run P w= .ok (.value v) w)(hk:N v w):fS P o f w N:=by unfold fS;rw[h];exact hk
end
theorem jN{t:Nat}{l:List Nat}(h:l.contains t=true):t∈l:=List.contains_iff_mem.1 h
theorem sj{f:Fr}{i:Nat}{x:Operand}{xs:List (Nat×Operand)}{v:Value}{vs:List (Nat×Value)}(h:ev f x=v)(h2:xs.map (λx=>(x.1,ev f x.2))=vs):((i,x)::xs).map (λx=>(x.1,ev f x.2))=(i,v)::vs:=by subst h h2;rfl
end TL
/-
  TlNilV: a list compared with none.
  By an AI agent.
-/
set_option linter.all false
namespace TL
open Go
def qA:Value->Bool
  | .slice none _ _=>false
  |_=>true
section
variable{P:Program}{w w':World}{t t':TypeId}{f:Fr}{x y:Operand}{dst:Option Tmp}{ty:TypeId}{pos:String}{after:Array Edge}{g:Option (Nat×Bool)}{α:Type}[Rp α]{γ:aG}{S:cH->Prop}{v:Value}{xs:List α}
theorem nL{e:TypeId}(ht:P.underlying t=some (.slice e))(hv:∃a l c,v= .slice a l c):(Op.equal t v (.slice none 0 0)).run P w= .ok (Bool.not (qA v)) w:=by
 obtain⟨a,l,c,rfl⟩:=hv
 unfold Op.equal
 rw[show Op.maxDepth=9999+1 from rfl]
 unfold Op.equalIn
 cases a<;>simp[b5 ht,qA]
theorem Sl.shape(hs:Sl γ S w v xs):∃a l c,v= .slice a l c:=by
 rcases hs with⟨⟨a,rfl⟩,_⟩|⟨b,off,cap,rfl,_⟩
 · exact⟨_,_,_,rfl⟩
 · exact⟨_,_,_,rfl⟩
theorem iH{e:TypeId}(ht:P.underlying t=some (.slice e))(hs:Sl γ S w' v xs)(hx:ev f x=v)(hy:ev f y= .slice none 0 0):(execOp (ev f) ⟨dst,.binOp .neq t x y t',ty,pos,after,g⟩).run P w= .ok (.value (.bool (qA v))) w:=
 ub .neq hx hy (by simp[eqGuard]) (by simp[binOp,nL ht hs.shape])
theorem zd(hs:Sl γ S w v xs)(h:¬qA v=true):xs=[]:=by
 rcases hs with⟨_,h2⟩|⟨b,off,cap,rfl,_⟩
 · exact h2
 · exact absurd rfl h
end
end TL
/-
  TlDocD: biconnected, as the document has it; ears, as its check goes over them.
  By an AI agent.
-/
set_option linter.all false
namespace TL
variable{g:bz}{of cu l:List Int}{E:List (List Int)}{eb nb eb1 nb1:List Bool}{a b v w h i j x y e:Int}{k m q:Nat}{round_:Bool}
theorem BC(hm:aX g){pl by_:List Int}{r:Int}(ht:Cz g pl by_)(hp:∀x,0<=x->x<g.1->gI pl x≠0)(h:AncB g by_ a x)(x0:0<=x)(x1:x<g.1):Cn (d6 g [] []) a x:=by
 have hP:=i7 (gone:=[]) (cut:=[]) hm
 induction h with
 |refl=>exact(Cn.eqv _).rfl _ ⟨x0,x1⟩
 |step p q ih=>
   obtain⟨t1,t2,t3,t4⟩:=ht.up _ x0 x1 (hp _ x0 x1) q
   obtain⟨f0,f1⟩:=ck hm t1
   obtain⟨⟨a0,a1⟩,_⟩:=p.le hm ht ⟨f0,f1⟩ (hp _ f0 f1)
   have:=hP.one _ t1 ⟨by simp[gI],by simp[gI],by simp[gI]⟩
   rw[t2] at this
   exact(Cn.eqv (d6 g [] [])).trans _ _ _ ⟨a0,a1⟩ ⟨f0,f1⟩ ⟨x0,x1⟩ (ih f0 f1) this
theorem wj(hm:aX g)(hn:1<=g.1):(aU g [] []).2=1↔∀x y,fI g x->fI g y->Cn (d6 g [] []) x y:=by
 obtain⟨l,hi⟩:=dJ (gone:=[]) (cut:=[]) hm
 have hq:=Cn.eqv (d6 g [] [])
 have hall:∀x,fI g x->∃y∈l,Cn (d6 g [] []) x y:=λx hx=>by
   have h0:=hx.1
   have h1:=hx.2
   have:=hi.all x.toNat (by omega) (by omega) (by simp[gI])
   rwa[show((x.toNat:Nat):Int)=x by omega] at this
 rw[hi.num]
 constructor
 · intro h x y hx hy
   match l,h,hall,hi with
   |[z],_,hall,hi=>
     obtain⟨u,u1,u2⟩:=hall x hx
     obtain⟨w,w1,w2⟩:=hall y hy
     rw[List.mem_singleton.1 u1] at u2
     rw[List.mem_singleton.1 w1] at w2
     have hz:=(hi.dom z (by simp)).1
     exact hq.trans _ _ _ hx hz hy u2 (hq.symm _ _ hy hz w2)
   |[],h,_,_=>simp at h
   |_::_::_,h,_,_=>simp at h;omega
 · intro h
   have h1:l≠[]:=λe=>by
     obtain⟨y,y1,_⟩:=hall 0 ⟨Int.le_refl _,by omega⟩
     rw[e] at y1;cases y1
   match l,h1,hi with
   |[z],_,_=>rfl
   |a::b::t,_,hi=>
     have:=hi.one a (by simp) b (by simp) (h a b (hi.dom a (by simp)).1 (hi.dom b (by simp)).1)
     have hn:=hi.nd
     rw[this] at hn
     simp at hn
theorem rh(hm:aX g)(hh:hf g h):∀k:Nat,k<=g.2.length->h/2<(k:Int)->gI (e8 g k) (aA g h)=true
 |0,_,hk=>by have:=hh.1;omega
 |k+1,hk,hlt=>by
   have hl:=(jp hm (ck hm hh).1 (ck hm hh).2 k (by omega)).1
   have hkl:k<g.2.length:=by omega
   have e:e8 g (k+1)=((e8 g k).set (g.2[k]).1.toNat true).set (g.2[k]).2.toNat true:=by
     unfold e8
     rw[List.take_succ_eq_append_getElem hkl,List.foldl_append];rfl
   have eg:gI g.2 (k:Int)=g.2[k]:=by simp[gI,hkl]
   obtain⟨⟨a0,a1⟩,b0,b1⟩:=hm.2.2.2 _ (List.getElem_mem hkl)
   obtain⟨f0,f1⟩:=ck hm hh
   rw[e,dv b0 (by rw[List.length_set,hl];omega) f0,dv a0 (by rw[hl];omega) f0]
   by_cases c:h/2=(k:Int)
   · rcases jg (g:=g) hh.1 with⟨p,_⟩|⟨p,_⟩
     · rw[c,eg] at p
       rw[if_pos p];split<;>rfl
     · rw[c,eg] at p
       rw[if_pos p]
   · have:=rh hm hh k (by omega) (by omega)
     split
     · rfl
     · split
       · rfl
       · exact this
theorem mx(hm:aX g):bY g=true↔2<=g.1/\(aU g [] []).2=1/\(∀e∈g.2,¬e.1=e.2)/\gJ g=[]:=by
 have hq:=Cn.eqv (d6 g [] [])
 have hP:=i7 (gone:=[]) (cut:=[]) hm
 constructor
 · intro hb
   obtain⟨h1,h2,h3,h4⟩:=of_decide_eq_true hb
   have h0:=hm.1
   have ht:=yJ hm g.1.toNat (by omega)
   obtain⟨hd,hu,hp⟩:=nl hm g.1.toNat (by omega)
   have hpp:∀x,0<=x->x<g.1->gI (dC g g.1.toNat).place x≠0:=λx a b=>hp x a (by omega)
   obtain⟨r,r1,r3⟩:=rt hm ht.tb (λx a b=>⟨(hd.se.pl x a b).1,hpp x a b⟩) _ 0 (Int.le_refl _) (by omega) (Nat.le_refl _)
   obtain⟨⟨r4,r5⟩,_⟩:=r1.le hm ht.tb ⟨Int.le_refl _,by omega⟩ (hpp 0 (by omega) (by omega))
   have hrx:∀x,fI g x->Cn (d6 g [] []) r x:=λx hx=>BC (r:=r) hm ht.tb hpp (vN hm hb r4 r5 hx.1 hx.2 r3) hx.1 hx.2
   refine⟨h1,(wj hm (by omega)).2 λx y hx hy=>hq.trans _ _ _ hx ⟨r4,r5⟩ hy (hq.symm _ _ ⟨r4,r5⟩ hx (hrx x hx)) (hrx y hy),h2,?_⟩
   unfold gJ
   rw[List.filter_eq_nil_iff]
   intro v hv
   obtain⟨v0,v1⟩:=ch.1 hv
   refine y6 hm v0 (by omega) λj j1 j2=>?_
   have a1:=(cQ (br (xs:=bO g v) (i:=j) (by omega) j2)).1
   have a2:=(cQ (br (xs:=bO g v) (i:=0) (by omega) (by omega))).1
   have b1:=iN g (i:=gI (bO g v) j/2) (by have:=a1.1;omega) (by have:=a1.2;omega)
   have b2:=iN g (i:=gI (bO g v) 0/2) (by have:=a2.1;omega) (by have:=a2.2;omega)
   omega
 · rintro⟨h1,h2,h3,h4⟩
   have hc:=(wj hm (by omega)).1 h2
   have htch:∀v,fI g v->∃h,hf g h/\aA g h=v:=λv hv=>Classical.byContradiction λhn=>by
     obtain⟨w,hw,hne⟩:∃w,fI g w/\w≠v:=by
       by_cases c:v=0
       · exact⟨1,⟨by omega,by omega⟩,by omega⟩
       · exact⟨0,⟨by omega,by omega⟩,λj=>c j.symm⟩
     exact hne (hP.cl (λz=>z=v) (λh hh _ e=>absurd ⟨h,hh,e⟩ hn) v w (hc v w hv hw) rfl)
   have hrow:∀x y,hf g x->hf g y->aA g x=aA g y->gI (fJ g) (x/2)=gI (fJ g) (y/2):=λx y hx hy e=>Classical.byContradiction λhn=>by
     obtain⟨f0,f1⟩:=ck hm hx
     have:aA g x∈gJ g:=by
       unfold gJ
       rw[List.mem_filter]
       exact⟨ch.2 ⟨f0,by omega⟩,(jB hm f0 f1).2 ⟨x,fc hx,y,by rw[e];exact fc hy,hn⟩⟩
     rw[h4] at this;cases this
   obtain⟨x0,hx0,_⟩:=htch 0 ⟨Int.le_refl _,by omega⟩
   have hsame:∀y,hf g y->gI (fJ g) (y/2)=gI (fJ g) (x0/2):=λy hy=>by
     have hS:=hP.cl (λz=>∀k,hf g k->aA g k=z->gI (fJ g) (k/2)=gI (fJ g) (x0/2)) (λh hh _ hs k hk e=>by
       obtain⟨t1,t2,t3,t4⟩:=dR (g:=g) hh
       rw[hrow k (iu h) hk t1 (by rw[e,t3]),t2]
       exact hs h hh rfl) _ _ (hc (aA g x0) (aA g y) (ck hm hx0) (ck hm hy)) (λk hk e=>hrow k x0 hk hx0 e)
     exact hS y hy rfl
   have hcnt:gm g=1:=by
     obtain⟨a,b⟩:=(tx g).top
     have r0:=iN g (i:=x0/2) (ik hx0) (fN hx0)
     obtain⟨i,i1,i2⟩:=b (by omega)
     have e1:=hsame (2*(i:Int)) ⟨by omega,by omega⟩
     rw[show 2*(i:Int)/2=(i:Int) by omega] at e1
     have h6:=(jz (dC g g.1.toNat).block g.2.length 0 (by omega)).1
     have e2:=hsame 0 ⟨Int.le_refl _,by omega⟩
     -- the first edge's number is 0
     have hfirst:gI (fJ g) 0=0:=by
       have hfn:=tx g
       have key:∀(L:List Int) (k:Nat) (n:Int),Fn L k n->0<k->gI L 0=0:=by
         intro L k n h
         induction h with
         |zero=>intro q;omega
         | @old k n j p1 p2 p3 ih=>
           intro _
           exact ih (by omega)
         | @new k n p1 p2 p3 ih=>
           intro _
           by_cases c:k=0
           · subst c
             cases p1
             exact p3
           · exact ih (by omega)
       exact key _ _ _ hfn (by omega)
     rw[show(0:Int)/2=0 by omega] at e2
     omega
   refine decide_eq_true ⟨h1,h3,λhf=>?_,hcnt⟩
   obtain⟨i,hi,e⟩:=List.mem_iff_getElem.1 hf
   have hl:=(jp hm (v:=0) (Int.le_refl _) (by omega) g.2.length (Nat.le_refl _)).1
   obtain⟨h,hh,e2⟩:=htch (i:Int) ⟨by omega,by omega⟩
   have:=rh hm hh g.2.length (Nat.le_refl _) (fN hh)
   rw[e2] at this
   have e3:gI (e8 g g.2.length) (i:Int)=(e8 g g.2.length)[i]:=by
     unfold gI
     rw[List.getD_eq_getElem?_getD,List.getElem?_eq_getElem (by simpa using hi)];rfl
   rw[e3,e] at this;cases this
theorem CH(hm:aX g)(h:¬2<=g.1):false=bY g:=(Bool.eq_false_iff.2 λc=>h ((mx hm).1 c).1).symm
theorem D5(hm:aX g)(h:¬(aU g [] []).2=1):false=bY g:=(Bool.eq_false_iff.2 λc=>h ((mx hm).1 c).2.1).symm
theorem D2(hm:aX g)(h:¬∀e∈g.2,¬e.1=e.2):false=bY g:=(Bool.eq_false_iff.2 λc=>h ((mx hm).1 c).2.2.1).symm
theorem CU(hm:aX g)(h1:2<=g.1)(h2:(aU g [] []).2=1)(h3:∀e∈g.2,¬e.1=e.2):decide (((c7 g).2.1.length:Int)=0)=bY g:=by
 have:(((c7 g).2.1.length:Int)=0)↔bY g=true:=by
   rw[mx hm]
   constructor
   · intro h
     exact⟨h1,h2,h3,List.eq_nil_of_length_eq_zero (by have:((gJ g).length:Int)=0:=h;omega)⟩
   · rintro⟨_,_,_,h⟩
     show((gJ g).length:Int)=0
     rw[h];rfl
 rw[Bool.eq_iff_iff,decide_eq_true_iff]
 exact this
theorem wc(hk:(k:Int)<g.2.length)(h:(gI g.2 (k:Int)).1=(gI g.2 (k:Int)).2):false=decide (∀e∈g.2,¬e.1=e.2):=(decide_eq_false λq=>q _ (br (by omega) hk) h).symm
theorem zX(hk:¬(k:Int)<g.2.length)(h:∀j:Nat,j<k->¬(gI g.2 (j:Int)).1=(gI g.2 (j:Int)).2):true=decide (∀e∈g.2,¬e.1=e.2):=(decide_eq_true λe he=>by
 obtain⟨i,hi,rfl⟩:=List.mem_iff_getElem.1 he
 have:=h i (by omega)
 have e3:gI g.2 (i:Int)=g.2[i]:=by simp[gI,hi]
 rwa[e3] at this).symm
theorem vE(h:∀j:Nat,j<k->¬(gI g.2 (j:Int)).1=(gI g.2 (j:Int)).2)(hk:¬(gI g.2 (k:Int)).1=(gI g.2 (k:Int)).2):∀j:Nat,j<k+1->¬(gI g.2 (j:Int)).1=(gI g.2 (j:Int)).2:=λj hj=>by
 by_cases c:j=k
 · subst c;exact hk
 · exact h j (by omega)
end TL
/-
  TlPost: what is owed behind a law that returns true and writes nothing of the caller's.
  By an AI agent.
-/
namespace TL
open Go Go.Proofs Go.ChangeShapes Go.WideShapes Go.RowKit
def uC(P:Program)(ts:List TypeId):Bool:=ts.all λt=>P.readableRec t&&decide (t<P.types.size)
theorem pd{H:Type}{enc:TypeId×Value->H}{P:Program}(hl:laidOutB P=true){W W':World}(hb:Below W.heap.size W W')(sp:Nat->Bool):
   ∀{ts:List TypeId} {vs:List Value} {ds:List (DataW H)} {ps:List MemPlace},uC P ts=true->DataW.TrodAll enc P W 0 (λ_=>true) true ts vs ds ps->(∀p∈ps,p.block<W.heap.size)->(∀p∈ps,sp p.block=true)->DataW.TrodAll enc P W' 0 sp true ts vs ds ps
 |[],[],[],_,_,h,_,_=>h
 |[],[],_::_,_,_,h,_,_=>h.elim
 |[],_::_,_,_,_,h,_,_=>by cases‹List (DataW H)›<;>exact h.elim
 |_::_,[],_,_,_,h,_,_=>by cases‹List (DataW H)›<;>exact h.elim
 |_::_,_::_,[],_,_,h,_,_=>h.elim
 |t::ts,v::vs,d::ds,ps,hr,h,hlt,hsp=>by
   obtain⟨p,q,h1,h2,rfl⟩:=h
   simp only[uC,List.all_cons,Bool.and_eq_true,decide_eq_true_eq] at hr
   exact⟨p,q,WideElems.Trod_stays hl hr.1.1 hr.1.2 h1 (λx hx=>hb.same (hlt x (by simp[hx]))) (λx hx=>hsp x (by simp[hx])),
     pd hl hb sp hr.2 h2 (λx hx=>hlt x (by simp[hx])) (λx hx=>hsp x (by simp[hx])),rfl⟩
theorem yu{H:Type}{enc:TypeId×Value->H}{P:Program}{f:Func}{s:ChangeSpec}{W W':World}{args:Array Value}{ds gs:List (DataW H)}{before:List MemPlace}{tb:TypeId}
   (hl:laidOutB P=true)(hr:uC P f.params.toList=true)(hv:s.vars=[])(hrt:f.resultTypes= #[tb])(htb:P.underlying tb=some .bool)
   (hW:DataW.Whole enc P f.params.toList s.vars false W args.toList ds gs before)(hfn:s.fn H (ds++gs)={results:=[.lit (.bool true)],args:=ds})(hB:Below W.heap.size W W'):
   s.post enc P f false true false false W args (.bool true) W':=by
 have hlt:=hW.lt
 have hW0:=hW
 obtain⟨p,q,hA,hV,rfl,hfz,_⟩:=hW
 rw[hv] at hV
 obtain⟨rfl,rfl⟩:=trodVars_none hV
 simp only[List.append_nil] at hlt hfz hW0 hfn
 have hres:∀(b:Nat) (sp:Nat->Bool) (hd:Bool),DataW.TrodAll enc P W' b sp hd f.resultTypes.toList ((Value.bool true).resultList f.resultTypes.size) (s.fn H (ds++[])).results []:=λb sp hd=>by
   rw[hrt,List.append_nil,hfn]
   exact trodAll_cons_mk (shut_bool htb true) trodAll_mk0
 have hargs:∀sp:Nat->Bool,(∀x∈p,sp x.block=true)->DataW.TrodAll enc P W' 0 sp true f.params.toList args.toList (s.fn H (ds++[])).args p:=λsp hsp=>by
   rw[List.append_nil,hfn]
   exact pd hl hB sp hr hA hlt hsp
 have hvars:∀sp:Nat->Bool,DataW.TrodVars enc P W' sp s.vars (s.fn H (ds++[])).vars []:=λsp=>by
   rw[List.append_nil,hfn,hv]
   rfl
 refine⟨ds,[],p,[],p,[],hW0,hres _ _ _,hargs _ (λx hx=>by simpa using hlt x hx),hvars _,World.keptBut_mono (λx hx=>⟨hx,Or.inr (by simpa using hx)⟩) (hB.frame _),λ_=>?_⟩
 refine⟨?_,_,_,([]++p)++[],⟨[]++p,[],trodAll_append (hargs _ (λ_ _=>rfl)) (hres _ _ _),hvars _,rfl,?_,?_⟩,?_⟩
 · exact ok_one hrt rfl (okWide_bool_mk htb true)
 · intro b off hp
   have hp':MemPlace.cell b off∈p:=by simpa using hp
   rw[hB.frozen (p:=⟨b,off,none⟩) (hlt _ hp')]
   exact hfz b off hp'
 · intro ha;cases ha
 · intro x hx _
   simpa using hx
end TL
/-
  TlOpenN: an argument that is a net, with the bound of its edges.
  By an AI agent.
-/
set_option linter.all false
namespace TL
open Go Go.Proofs Go.ChangeShapes Go.WideShapes Go.Joins Go.Deep
theorem C3{α:Type}[Rp α]{P:Program}{t:TypeId}(h:A6 α P t):CB α (λ_=>True) P t:=by
 intro H enc w fuel cs x hx
 obtain⟨y,hy⟩:=h enc w fuel cs x hx
 exact⟨y,hy,trivial⟩
theorem y8{α:Type}[Rp α][Inhabited α]{P:Program}{t t0 t1 e:TypeId}{f0 f1:Field}(hs:P.underlying t=some (.struct #[f0,f1]))(hone:oneCellFields P #[f0,f1]=true)(hC:P.cellsOf t=2)(hts:P.cellTypes P.depth t=some [t0,t1])
   (h0:f0.type=t0)(h1:f1.type=t1)(hi:P.underlying t0=some (.int .i64))(ht:P.underlying t1=some (.slice e))(hc:P.cellsOf e=Rp.sz α)(hz:0<Rp.sz α)(he:A6 α P e)
   {H:Type}{enc:TypeId×Value->H}{w:World}{f:DataW H->Nat}(hf:sU f){base:Nat}{v:Value}{d:DataW H}{p:List MemPlace}
   (hval:Value.okWide P w .any base t v)(h:DataW.Trod enc P w 0 (λ_=>true) true t v d p)(hb:f d<=1048576):∃(n:Int) (u:Value) (xs:List α),v= .agg #[.int .i64 n,u]/\Ro w u xs/\(xs.length:Int)<=1048576:=by
 obtain⟨v0,v1,y0,y1,n,rfl,rfl,rfl,r0,r1⟩:=open_agg2 hs hone hC hval h
 subst h0 h1
 obtain⟨k,hk,_,_⟩:=DataW.trod_int hi r0
 obtain rfl:v0= .int .i64 k:=by simpa using hk
 have hcell:Cell.okWide P w .any base f1.type v1:=by
   simp only[Value.okWide,hs] at hval
   obtain⟨cs,hcs,_,ts,h3,_,h4⟩:=hval
   rw[hts] at h3
   obtain rfl:=Option.some.inj h3
   obtain rfl: #[Value.int .i64 k,v1]=cs:=by simpa using hcs
   obtain⟨u,hu,hk⟩:=h4 1 v1 rfl
   simp at hu
   subst hu
   exact hk
 obtain⟨xs,hx,_,hl⟩:=vM (α:=α) ht hc hz (C3 he) hf (pN ht hcell) (x:=y1) r1 (Nat.le_trans (hf.part _ _ (by simp)) hb)
 exact⟨k,v1,xs,rfl,hx,by omega⟩
end TL
