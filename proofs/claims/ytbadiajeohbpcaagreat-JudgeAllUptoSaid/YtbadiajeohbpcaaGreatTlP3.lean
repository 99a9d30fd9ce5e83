/- Plain texts of this claim, part 3. By an AI agent. -/
import Derived.Test.YtbadiajeohbpcaaGreatTlP2
import Derived.Carry
import Derived.Deep.Slices
import Derived.Lib.SmallJoins
import Derived.RowKit
/-
  TlArr: the whole of an array that lies in a list, as a list.
  By an AI agent.
-/
set_option linter.all false
namespace TL
open Go
def tn(v:Value)(i:Nat):Value:=.slice (some (aR v 2 i)) 2 2
section
variable{P:Program}{f:Fr}{w:World}{dst:Option Tmp}{ty:TypeId}{pos:String}{after:Array Edge}{g:Option (Nat×Bool)}{t e:TypeId}{x y:Operand}
theorem ir{v:Value}{i:Nat}(ht:P.underlying t=some (.array 2 e))(hs:(P.info? e).map (·.size)=some 1)(hx:ev f x= .pointer (some (aR v 2 i))):
   (execOp (ev f) ⟨dst,.slice t x none none none,ty,pos,after,g⟩).run P w= .ok (.value (tn v i)) w:=by
 cases hq:P.info? e with
 |none=>simp[hq] at hs
 |some q=>
   have hsub:execOp (ev f) ⟨dst,.slice t x none none none,ty,pos,after,g⟩=(do pure (.value (<-Instr.sliceAt t (.pointer (some (aR v 2 i))) none none none))):=by
     simp[execOp,hx]
   rw[hsub]
   have ha:(aR v 2 i).add 0=aR v 2 i:=by rw[gU,Nat.add_zero,<-gS]
   simp[Instr.sliceAt,Instr.sureAddr,Instr.sliceBounds,bf ht,cK hq,tn,ha]
theorem qD{γ:aK}{S:cx->Prop}{v:Value}{xs:List (Int×Int)}{i:Int}(hs:Sl γ S w v xs)(h0:0<=i)(h1:i<xs.length):Sl γ S w (tn v i.toNat) [(gI xs i).1,(gI xs i).2]:=by
 have hg:=fI h0 h1
 rcases hs with⟨⟨_,rfl⟩,rfl⟩|⟨b,off,cap,rfl,_,hx⟩
 · simp at h1;omega
 · obtain⟨hb,hS,cs,hcs,hr⟩:=hx _ _ hg
   have hr':cs=[.int .i64 (gI xs i).1,.int .i64 (gI xs i).2]:=by
     have:=Fl.rep_iff.1 hr
     simpa[Fl.cells] using this
   refine .inr ⟨b,off+i.toNat*2,2,rfl,⟨by simp,by simp⟩,λj x hj=>?_⟩
   have hc0:=hcs 0 (by decide)
   have hc1:=hcs 1 (by decide)
   rw[hr'] at hc0 hc1
   have hlt:j<2:=by have:=(List.getElem?_eq_some_iff.1 hj).1;simpa using this
   rcases(by omega:j=0\/j=1) with rfl|rfl
   · have hx0:(gI xs i).1=x:=by simpa using hj
     refine⟨hb,hS,[.int .i64 (gI xs i).1],λq hq=>?_,by rw[hx0];rfl⟩
     have:q=0:=by have h9:q<1:=hq;omega
     subst this
     exact hc0
   · have hx0:(gI xs i).2=x:=by simpa using hj
     refine⟨hb,hS,[.int .i64 (gI xs i).2],λq hq=>?_,by rw[hx0];rfl⟩
     have:q=0:=by have h9:q<1:=hq;omega
     subst this
     exact hc1
end
end TL
/-
  TlDual: faces as nodes: the dual, corners' faces, edges laid, taken and split, ways over faces, as plain functions.
  By an AI agent.
-/
set_option linter.all false
namespace TL
def yJ(g:d5)(r:cT)(c:Int×Int):Prop:=(0<=c.1/\c.1<g.1)/\if((gI r c.1).length:Int)=0 then c.2= -1 else c.2∈gI r c.1
instance (g:d5)(r:cT)(c:Int×Int):Decidable (yJ g r c):=by unfold yJ;infer_instance
theorem uF{l:List Int}{x:Int}:decide (0<=dK l x)=decide (x∈l):=by
 unfold dK
 by_cases h:x∈l
 · rw[if_pos h,decide_eq_true h,decide_eq_true (by omega)]
 · rw[if_neg h,decide_eq_false h];rfl
end TL
namespace TL
end TL
namespace TL
end TL
namespace TL
section
variable{g:d5}{r:cT}{a b:Int×Int}
end
end TL
/-
  TlMapL: maps of the call's own whose elements are lists of the call's own.
  By an AI agent.
-/
set_option linter.all false
namespace TL
open Go
theorem oS{P:Program}{kt e bytes:Nat}{z:Value}{f0 f1:Field}(ht:P.underlying kt=some (.struct #[f0,f1]))(h0:f0.type=e)(h1:f1.type=e)(o0:f0.offset=0)(o1:f1.offset=1)(n0:(f0.name != "_")=true)(n1:(f1.name != "_")=true)(he:P.underlying e=some (.int .i64))(hp:Tp P e false 1 bytes z)(hs:P.stoodInHeld kt=false):rT P kt (Int×Int) where
 check b k w:=by
   have hc:∀x:Int,(Instr.checkKey b 9999 e (.int .i64 x)).run P w= .ok () w:=λx=>by
     rw[Instr.checkKey]
     simp only[Sem.run_bind,bf he,Result.andThen_ok]
     rfl
   have p0:=λ(x y:Int)=>go (P:=P) (w:=w) (cs:= #[.int .i64 x,.int .i64 y]) (o:=0) hp (v:=.int .i64 x) (by rfl)
   have p1:=λ(x y:Int)=>go (P:=P) (w:=w) (cs:= #[.int .i64 x,.int .i64 y]) (o:=1) hp (v:=.int .i64 y) (by rfl)
   have n0':f0.name≠ "_" :=by simpa using n0
   have n1':f1.name≠ "_" :=by simpa using n1
   show(Instr.checkKey b (9999+1) kt _).run P w=_
   rw[Instr.checkKey]
   simp only[Ky.val,Sem.run_bind,bf ht,Result.andThen_ok]
   rw[<-Array.forIn_toList]
   simp[n0',n1',h0,h1,o0,o1,p0,p1,hc]
 find k es ks w hm:=by
   have heq1:∀a b:Int×Int,(Op.equal kt (Ky.val a) (Ky.val b)).run P w= .ok (decide (a=b)) w:=λa b=>by
     have e1:P.fieldsOf kt= #[f0,f1]:=by simp[Program.fieldsOf,ht]
     have:=run_equalIn_struct (P:=P) w 9999 kt #[.int .i64 a.1,.int .i64 a.2] #[.int .i64 b.1,.int .i64 b.2] (by rw[e1];exact ht) hs
     rw[e1,hZ (bs:=[decide (a.1=b.1),decide (a.2=b.2)]) (.cons n0 (by rw[h0];exact hp) (by rw[o0];rfl) (by rw[o0];rfl) (.int (by rw[h0];exact he)) (.cons n1 (by rw[h1];exact hp) (by rw[o1];rfl) (by rw[o1];rfl) (.int (by rw[h1];exact he)) .nil)) 9998] at this
     have hq:([decide (a.1=b.1),decide (a.2=b.2)].all id)=decide (a=b):=by simp[Prod.ext_iff,Bool.decide_and]
     rw[hq] at this
     exact this
   have hfn:∀(es:List MapEntry) (i:Nat),es≠[]->(∀e∈es,∃c,e.key= .agg c)->Instr.findNow (.struct #[f0,f1]) (Ky.val k) es i=none:=by
     intro es i h0 _
     cases es with
     |nil=>exact absurd rfl h0
     |cons a l=>simp[Instr.findNow,Instr.sameNow]
   have hask:∀(es:List MapEntry) (ks:List (Int×Int)) (i:Nat),es.map (·.key)=ks.map Ky.val->(Instr.findAsking kt (Ky.val k) es i).run P w= .ok ((ks.findIdx? (· =k)).bind λj=>(es[j]?).map λe=>(i+j,e.val)) w:=by
     intro es
     induction es with
     |nil=>
       intro ks i h
       have:ks=[]:=by cases ks<;>simp at h ⊢
       subst this;simp[Instr.findAsking]
     |cons a l ih=>
       intro ks i h
       cases ks with
       |nil=>simp at h
       |cons q ks=>
         simp only[List.map_cons,List.cons.injEq] at h
         obtain⟨ha,hl⟩:=h
         have heq':(Op.equal kt (Ky.val k) a.key).run P w= .ok (decide (k=q)) w:=by rw[ha];exact heq1 k q
         by_cases hkq:k=q
         · subst hkq
           simp[Instr.findAsking,heq',List.findIdx?_cons]
         · have hqk:¬q=k:=λh=>hkq h.symm
           have ih':=ih ks (i+1) hl
           simp[Instr.findAsking,heq',hkq,List.findIdx?_cons,hqk,ih']
           cases ks.findIdx? (λx=>decide (x=k)) with
           |none=>rfl
           |some j=>simp[Nat.add_comm 1 j,Nat.add_assoc]
   simp only[Instr.findKey,Sem.run_bind,bf ht,Result.andThen_ok]
   cases es with
   |nil=>
     have:ks=[]:=by cases ks<;>simp at hm ⊢
     subst this;simp[Instr.findNow]
   |cons a l=>
     rw[hfn (a::l) 0 (by simp) (λe he=>by
       have:e.key∈(a::l).map (·.key):=List.mem_map_of_mem he
       rw[hm] at this
       obtain⟨q,_,hq⟩:=List.mem_map.1 this
       exact⟨_,hq.symm⟩)]
     simp only[hask (a::l) ks 0 hm,Nat.zero_add]
 bits k:=by
   show Instr.sameBits (9999+1) _ _=true
   simp[Ky.val,Instr.sameBits]
def zz(x:Int):Nat:=if 0<=x then 2*x.toNat else 2*(-x).toNat+1
theorem tG{x y:Int}(h:zz x=zz y):x=y:=by
 unfold zz at h
 split at h<;>split at h<;>omega
def jf(q:Int×Int):Nat:=(zz q.1+zz q.2)*(zz q.1+zz q.2)+zz q.1
theorem uY{a b c d:Nat}(h:(a+b)*(a+b)+a=(c+d)*(c+d)+c):a=c/\b=d:=by
 have lt:∀{a b c d:Nat},a+b<c+d->(a+b)*(a+b)+a<(c+d)*(c+d)+c:=λ {a b c d} hl=>by
   have h1:(a+b+1)*(a+b+1)<=(c+d)*(c+d):=Nat.mul_le_mul hl hl
   have h2:(a+b+1)*(a+b+1)=(a+b)*(a+b)+2*(a+b)+1:=by
     generalize a+b=s
     rw[Nat.add_mul,Nat.mul_add];omega
   omega
 rcases Nat.lt_trichotomy (a+b) (c+d) with hl|hl|hl
 · have:=lt hl;omega
 · rw[hl] at h;omega
 · have:=lt hl;omega
theorem uC{p q:Int×Int}(h:jf p=jf q):p=q:=by
 obtain⟨h1,h2⟩:=uY h
 exact Prod.ext (tG h1) (tG h2)
structure gj(K:Type) where
 key:K
 val:Value
 born:Nat
def gr{K:Type}[Ky K](e:gj K):MapEntry:={key:=Ky.val e.key,val:=e.val,born:=e.born}
def jz{K:Type}[DecidableEq K](es:List (gj K))(k:K):Value:=((es.find? λe=>decide (e.key=k)).map (·.val)).getD (.slice none 0 0)
structure Bb{K:Type}(es:List (gj K))(clock:Nat):Prop where
 keys:(es.map (·.key)).Nodup
 born:(es.map (·.born)).Nodup
 lt:∀e∈es,e.born<clock
def Vp{K:Type}[DecidableEq K][Ky K](γ:aK)(J:cx->Prop)(w:World)(v:Value)(F:K->Value):Prop:=
 ∃(r:Nat) (es:List (gj K)) (clock:Nat),v= .map (some r)/\J (γ r)/\w.heap[r]? =some (.map (es.map gr).toArray clock)/\Bb es clock/\F=jz es
def A9{K:Type}[DecidableEq K][Ky K](γ:aK)(J:cx->Prop)(w:World)(v:Value)(F:K->Value)(s:Int)(k:K):Prop:=
 ∃(r:Nat) (es:List (gj K)) (clock:Nat),v= .map (some r)/\J (γ r)/\w.heap[r]? =some (.map (es.map gr).toArray clock)/\Bb es clock/\F=jz es/\∃(i:Nat) (e:gj K),es[i]? =some e/\e.key=k/\(e.born:Int)=s
section
variable{K:Type}[DecidableEq K][Ky K]{γ γ':aK}{J J':cx->Prop}{w w':World}{v:Value}{F:K->Value}{s:Int}{k:K}
theorem Vp.chg(h:Vp γ J w v F)(hc:bj J' γ w γ' w')(hJ:∀c,J c->¬J' c):Vp γ' J w' v F:=by
 obtain⟨r,es,clock,h1,h2,h3,h4⟩:=h
 exact⟨r,es,clock,h1,by rw[hc.col r (dg h3) (hJ _ h2)];exact h2,by rw[hc.keep r (dg h3) (hJ _ h2)];exact h3,h4⟩
theorem A9.chg(h:A9 γ J w v F s k)(hc:bj J' γ w γ' w')(hJ:∀c,J c->¬J' c):A9 γ' J w' v F s k:=by
 obtain⟨r,es,clock,h1,h2,h3,h4⟩:=h
 exact⟨r,es,clock,h1,by rw[hc.col r (dg h3) (hJ _ h2)];exact h2,by rw[hc.keep r (dg h3) (hJ _ h2)];exact h3,h4⟩
theorem Vp.bel(h:Vp γ J w v F)(hc:cE w.heap.size w w'):Vp γ J w' v F:=by
 obtain⟨r,es,clock,h1,h2,h3,h4⟩:=h
 exact⟨r,es,clock,h1,h2,by rw[hc.block r (dg h3)];exact h3,h4⟩
theorem mX(es:List (gj K))(k:K):(((es.map (·.key)).findIdx? (· =k)).bind λi=>((es.map gr)[i]?).map λe=>(i,e.val))=((es.map (·.key)).findIdx? (· =k)).map λi=>(i,jz es k):=by
 cases h:(es.map (·.key)).findIdx? (· =k) with
 |none=>rfl
 |some i=>
   obtain⟨hi,hk,hlt⟩:=List.findIdx?_eq_some_iff_getElem.1 h
   have hi':i<es.length:=by simpa using hi
   have hke:es[i].key=k:=by simpa using hk
   have hf:es.find? (λe=>decide (e.key=k))=some es[i]:=by
     rw[List.find?_eq_some_iff_getElem]
     refine⟨by simpa using hke,i,hi',rfl,λj hj=>?_⟩
     have:=hlt j hj
     simpa using this
   simp[hi',gr,jz,hf]
end
section
variable{P:Program}{f:Fr}{w:World}{dst:Option Tmp}{ty:TypeId}{pos:String}{after:Array Edge}{g:Option (Nat×Bool)}{t:TypeId}{x y z:Operand}{N:Value->World->Prop}
theorem td{K:Type}[DecidableEq K][Ky K]{γ:aK}{J:cx->Prop}{v u:Value}{F:K->Value}{kt et size bytes:Nat}{agg:Bool}(k:K)(ht:P.underlying t=some (.map kt et))(hk:rT P kt K)(he:Tp P et agg size bytes (.slice none 0 0))(hx:ev f x=v)(hm:Vp γ J w v F)(hy:ev f y=u)(hu:u=Ky.val k):
   (execOp (ev f) ⟨dst,.lookup t x y false,ty,pos,after,g⟩).run P w= .ok (.value (F k)) w:=by
 obtain⟨r,es,clock,rfl,hJ,hb,hok,rfl⟩:=hm
 obtain⟨i,hi,_,_,hz⟩:=he.info
 subst hu
 have hf:=hk.find k (es.map gr) (es.map (·.key)) w (by simp[gr,Function.comp_def])
 rw[mX] at hf
 cases h:(es.map (·.key)).findIdx? (· =k) with
 |none=>
   rw[h] at hf
   have h0:jz es k= .slice none 0 0:=by
     have hn:es.find? (λe=>decide (e.key=k))=none:=by
       rw[List.find?_eq_none]
       intro e he
       have:=List.findIdx?_eq_none_iff.1 h (e.key) (List.mem_map_of_mem he)
       simpa using this
     simp[jz,hn]
   simp[execOp,hx,hy,Instr.lookup,bf ht,ek hb,hk.check,hf,fF hi hz,h0]
 |some i=>
   rw[h] at hf
   simp[execOp,hx,hy,Instr.lookup,bf ht,ek hb,hk.check,hf]
theorem oF{K:Type}[DecidableEq K][Ky K]{γ:aK}{J:cx->Prop}{v u:Value}{F:K->Value}{kt et size bytes:Nat}{agg:Bool}(k:K)(ht:P.underlying t=some (.map kt et))(hk:rT P kt K)(he:Tp P et agg size bytes (.slice none 0 0))(hx:ev f x=v)(hm:Vp γ J w v F)(hy:ev f y=u)(hu:u=Ky.val k)
   (hn:∀w' s,bj J γ w γ w'->A9 γ J w' v F s k->N (.tuple (List.toArray [F k,.int .i64 s])) w'):h7 P ⟨dst,.mapEntry t x y,ty,pos,after,g⟩ f w N:=by
 obtain⟨r,es,clock,rfl,hJ,hb,hok,rfl⟩:=hm
 obtain⟨q,hi,_,_,hz⟩:=he.info
 subst hu
 have hf:=hk.find k (es.map gr) (es.map (·.key)) w (by simp[gr,Function.comp_def])
 rw[mX] at hf
 cases h:(es.map (·.key)).findIdx? (· =k) with
 |none=>
   rw[h] at hf
   have hnk:∀e∈es,e.key≠k:=λe he=>by
     have:=List.findIdx?_eq_none_iff.1 h (e.key) (List.mem_map_of_mem he)
     simpa using this
   have h0:jz es k= .slice none 0 0:=by
     have hn:es.find? (λe=>decide (e.key=k))=none:=by
       rw[List.find?_eq_none]
       intro e he
       simpa using hnk e he
     simp[jz,hn]
   refine bC (v:=.tuple (List.toArray [jz es k,.int .i64 (clock:Int)])) (w':={w with heap:=w.heap.setIfInBounds r (.map ((es++[(⟨k,.slice none 0 0,clock⟩:gj K)]).map gr).toArray (clock+1))}) ?_ ?_
   rotate_left
   · refine hn _ _ (ju γ _ hJ) ⟨r,es++[⟨k,.slice none 0 0,clock⟩],clock+1,rfl,hJ,iR hb,⟨?_,?_,?_⟩,?_,es.length,⟨k,.slice none 0 0,clock⟩,by simp,rfl,rfl⟩
     rotate_left 3
     · funext k'
       simp only[jz,List.find?_append]
       by_cases hkk:k=k'
       · subst hkk
         have hn:es.find? (λe=>decide (e.key=k))=none:=by
           rw[List.find?_eq_none]
           intro e he
           simpa using hnk e he
         simp[hn]
       · cases es.find? (λe=>decide (e.key=k'))<;>simp[hkk]
     · rw[List.map_append,List.nodup_append]
       refine⟨hok.keys,by simp,λa ha b hb=>?_⟩
       obtain⟨e,he,rfl⟩:=List.mem_map.1 ha
       have:b=k:=by simpa using hb
       subst this;exact hnk e he
     · rw[List.map_append,List.nodup_append]
       refine⟨hok.born,by simp,λa ha b hb=>?_⟩
       obtain⟨e,he,rfl⟩:=List.mem_map.1 ha
       have:b=clock:=by simpa using hb
       subst this;exact Nat.ne_of_lt (hok.lt e he)
     · intro e he
       rcases List.mem_append.1 he with h|h
       · exact Nat.lt_succ_of_lt (hok.lt e h)
       · obtain rfl:=List.mem_singleton.1 h;exact Nat.lt_succ_self _
   · simp[execOp,hx,hy,Instr.mapEntry,bf ht,ek hb,hk.check,hf,fF hi hz,gp hb,h0,gr,goInt]
 |some i=>
   rw[h] at hf
   obtain⟨hil,hke,_⟩:=List.findIdx?_eq_some_iff_getElem.1 h
   have hi':i<es.length:=by simpa using hil
   have hke':es[i].key=k:=by simpa using hke
   have hsame:(es.map gr).modify i (λe=>{e with key:=Ky.val k})=es.map gr:=by
     apply List.ext_getElem?
     intro j
     rw[List.getElem?_modify]
     by_cases hij:i=j
     · subst hij;simp[hi',gr,hke']
     · simp[hij]
   refine bC (v:=.tuple (List.toArray [jz es k,.int .i64 ((es[i].born:Nat):Int)])) (w':={w with heap:=w.heap.setIfInBounds r (.map (es.map gr).toArray clock)}) ?_
     (hn _ _ (ju γ _ hJ) ⟨r,es,clock,rfl,hJ,iR hb,hok,rfl,i,es[i],by simp,hke',rfl⟩)
   have hkb:=hk.bits k
   have hold:(Instr.keyThatStays (Ky.val k) (Ky.val k)).run P w= .ok (Ky.val k) w:=by simp[Instr.keyThatStays,hkb]
   simp[execOp,hx,hy,Instr.mapEntry,bf ht,ek hb,hk.check,hf,hi',gr,hke',hold,gp hb,goInt]
   rw[hsame]
theorem mp{K:Type}[DecidableEq K][Ky K]{γ:aK}{J:cx->Prop}{v m:Value}{F:K->Value}{s:Int}{k:K}(hx:ev f x=v)(hm:A9 γ J w v F s k)(hy:ev f y= .int .i64 s)(hz:ev f z=m)
   (hn:∀w',bj J γ w γ w'->Vp γ J w' v (λk'=>if k'=k then m else F k')->N undef w'):h7 P ⟨dst,.entryStore t x y z,ty,pos,after,g⟩ f w N:=by
 obtain⟨r,es,clock,rfl,hJ,hb,hok,rfl,i,e,hie,rfl,rfl⟩:=hm
 have hi':i<es.length:=(List.getElem?_eq_some_iff.1 hie).1
 have hei:es[i]=e:=(List.getElem?_eq_some_iff.1 hie).2
 have hfi:((es.map gr).toArray.findIdx? (λq=>(q.born:Int)==(e.born:Int)))=some i:=by
   rw[List.findIdx?_toArray,List.findIdx?_eq_some_iff_getElem]
   refine⟨by simpa using hi',by simp[gr,hei],λj hj=>?_⟩
   have hj':j<es.length:=by omega
   have hne:es[j].born≠e.born:=λh=>by
     have h1:(es.map (·.born))[j]'(by simpa using hj')=(es.map (·.born))[i]'(by simpa using hi'):=by simp[hei,h]
     have:=(List.getElem_inj hok.born).1 h1
     omega
   simp[gr]
   omega
 have hmod:(es.map gr).modify i (λq=>{q with val:=m})=(es.modify i (λq=>{q with val:=m})).map gr:=by
   apply List.ext_getElem?
   intro j
   rw[List.getElem?_modify,List.getElem?_map,List.getElem?_map,List.getElem?_modify]
   by_cases hij:i=j
   · subst hij;simp[hi',gr]
   · simp[hij]
 have hkeys:(es.modify i (λq=>{q with val:=m})).map (·.key)=es.map (·.key):=by
   apply List.ext_getElem?
   intro j
   rw[List.getElem?_map,List.getElem?_map,List.getElem?_modify]
   by_cases hij:i=j
   · subst hij;simp[hi']
   · simp[hij]
 have hborn:(es.modify i (λq=>{q with val:=m})).map (·.born)=es.map (·.born):=by
   apply List.ext_getElem?
   intro j
   rw[List.getElem?_map,List.getElem?_map,List.getElem?_modify]
   by_cases hij:i=j
   · subst hij;simp[hi']
   · simp[hij]
 refine iJ (w':={w with heap:=w.heap.setIfInBounds r (.map ((es.modify i (λq=>{q with val:=m})).map gr).toArray clock)}) ?_
   (hn _ (ju γ _ hJ) ⟨r,es.modify i (λq=>{q with val:=m}),clock,rfl,hJ,iR hb,⟨by rw[hkeys];exact hok.keys,by rw[hborn];exact hok.born,λq hq=>?_⟩,?_⟩)
 · simp[execOp,hx,hy,hz,Instr.entryStore,ek hb,asInt,asIntOf,hfi,gp hb]
   rw[<-hmod]
 · have:q.born∈es.map (·.born):=by rw[<-hborn];exact List.mem_map_of_mem hq
   obtain⟨q',hq',he'⟩:=List.mem_map.1 this
   rw[<-he'];exact hok.lt q' hq'
 · funext k'
   have hfind:∀(l:List (gj K)),(l.map (·.key)).Nodup->∀j (hj:j<l.length),jz l l[j].key=l[j].val:=by
     intro l hl j hj
     have hf:l.find? (λe=>decide (e.key=l[j].key))=some l[j]:=by
       rw[List.find?_eq_some_iff_getElem]
       refine⟨by simp,j,hj,rfl,λq hq=>?_⟩
       have hne:l[q].key≠l[j].key:=λh=>by
         have h1:(l.map (·.key))[q]'(by simp;omega)=(l.map (·.key))[j]'(by simpa using hj):=by simp[h]
         have:=(List.getElem_inj hl).1 h1
         omega
       simpa using hne
     simp[jz,hf]
   by_cases hkk:k'=e.key
   · subst hkk
     rw[if_pos rfl]
     have h1:=hfind (es.modify i (λq=>{q with val:=m})) (by rw[hkeys];exact hok.keys) i (by simpa using hi')
     simp[List.getElem_modify,hei] at h1
     exact h1.symm
   · rw[if_neg hkk]
     have hfe:(es.modify i (λq=>{q with val:=m})).find? (λe=>decide (e.key=k'))=es.find? (λe=>decide (e.key=k')):=by
       have hgen:∀(l:List (gj K)) (i:Nat) (e:gj K),l[i]? =some e->k'≠e.key->(l.modify i (λq=>{q with val:=m})).find? (λe=>decide (e.key=k'))=l.find? (λe=>decide (e.key=k')):=by
         intro l
         induction l with
         |nil=>intro i e h;simp at h
         |cons a l ih=>
           intro i e h hne
           cases i with
           |zero=>
             obtain rfl:a=e:=by simpa using h
             have:decide (a.key=k')=false:=by simpa using λh=>hne h.symm
             simp[List.find?_cons,this]
           |succ i=>
             have h':l[i]? =some e:=by simpa using h
             simp only[List.modify_succ_cons,List.find?_cons,ih i e h' hne]
       exact hgen es i e hie hkk
     simp[jz,hfe]
end
def Ml{α:Type}[Rp α](γ:aK)(i:Nat)(w:World)(v:Value)(L:(Int×Int)->List α):Prop:=
  ∃F:(Int×Int)->Value,Vp γ (row i 0) w v F/\∀q,Ow γ (row i (jf q+1)) (row i (jf q+1)) w (F q) (L q)
def yP{α:Type}[Rp α](γ:aK)(i:Nat)(w:World)(v:Value)(L:(Int×Int)->List α)(s:Int)(k:Int×Int):Prop:=
  ∃F:(Int×Int)->Value,A9 γ (row i 0) w v F s k/\∀q,q≠k->Ow γ (row i (jf q+1)) (row i (jf q+1)) w (F q) (L q)
section
variable{α:Type}[Rp α]{γ γ':aK}{i:Nat}{w w':World}{v:Value}{L:(Int×Int)->List α}{s:Int}{k:Int×Int}
theorem Ml.chg{J:cx->Prop}(h:Ml γ i w v L)(hc:bj J γ w γ' w')(hJ:∀c,is i c->¬J c):Ml γ' i w' v L:=by
 obtain⟨F,h1,h2⟩:=h
 exact⟨F,h1.chg hc λc h=>hJ c (dd c h),λq=>(h2 q).chg hc (λc h=>hJ c (dd c h)) (λc h=>hJ c (dd c h))⟩
theorem yP.chg{J:cx->Prop}(h:yP γ i w v L s k)(hc:bj J γ w γ' w')(hJ:∀c,is i c->¬J c):yP γ' i w' v L s k:=by
 obtain⟨F,h1,h2⟩:=h
 exact⟨F,h1.chg hc λc h=>hJ c (dd c h),λq hq=>(h2 q hq).chg hc (λc h=>hJ c (dd c h)) (λc h=>hJ c (dd c h))⟩
theorem yP.rowchg(h:yP γ i w v L s k)(hc:bj (row i (jf k+1)) γ w γ' w'):yP γ' i w' v L s k:=by
 obtain⟨F,h1,h2⟩:=h
 refine⟨F,h1.chg hc (d7 (by omega)),λq hq=>?_⟩
 have:jf q+1≠jf k+1:=λe=>hq (uC (by omega))
 exact(h2 q hq).chg hc (d7 this) (d7 this)
theorem zl[Fl α](h:Ml γ i w v L)(k:Int×Int):∃F:(Int×Int)->Value,Vp γ (row i 0) w v F/\Sl γ (is i) w (F k) (L k):=by
  obtain⟨F,h1,h2⟩:=h
  exact⟨F,h1,(h2 k).row_sl⟩
variable{P:Program}{f:Fr}{dst:Option Tmp}{ty:TypeId}{pos:String}{after:Array Edge}{g:Option (Nat×Bool)}{t:TypeId}{x y z:Operand}{N:Value->World->Prop}
theorem pZ(γ:aK)(i:Nat)(hk:∀γ' w' v,bj no γ w γ' w'->Ml (α:=α) γ' i w' v (λ_=>[])->N v w'):h7 P ⟨dst,.makeMap t none,ty,pos,after,g⟩ f w N:=by
 refine bC (v:=.map (some w.heap.size)) (w':=w.alloc (.map #[] 0)) (by simp[execOp,Instr.makeMap]) (hk (jb γ w.heap.size (i,0)) _ _ (gT γ w _ (i,0)) ⟨λ_=>.slice none 0 0,⟨w.heap.size,[],0,rfl,by simp[jb,row],by rw[dR];rfl,⟨by simp,by simp,by simp⟩,?_⟩,λq=>Ow.nil⟩)
 funext k;simp[jz]
theorem pg{u:Value}{kt et size bytes:Nat}{agg:Bool}(k:Int×Int)(ht:P.underlying t=some (.map kt et))(hk:rT P kt (Int×Int))(he:Tp P et agg size bytes (.slice none 0 0))(hx:ev f x=v)(hm:Ml γ i w v L)(hy:ev f y=u)(hu:u=Ky.val k)
   (hn:∀w' s q,bj (row i 0) γ w γ w'->yP γ i w' v L s k->Ow γ (row i (jf k+1)) (row i (jf k+1)) w' q (L k)->N (.tuple (List.toArray [q,.int .i64 s])) w'):h7 P ⟨dst,.mapEntry t x y,ty,pos,after,g⟩ f w N:=by
 obtain⟨F,h1,h2⟩:=hm
 refine oF k ht hk he hx h1 hy hu λw' s hc hv=>hn w' s (F k) hc ⟨F,hv,λq _=>(h2 q).chg hc (d7 (by omega)) (d7 (by omega))⟩ ((h2 k).chg hc (d7 (by omega)) (d7 (by omega)))
theorem mo{m:Value}{l:List α}(hx:ev f x=v)(hm:yP γ i w v L s k)(hy:ev f y= .int .i64 s)(hz:ev f z=m)(ho:Ow γ (row i (jf k+1)) (row i (jf k+1)) w m l)
   (hn:∀w',bj (row i 0) γ w γ w'->Ml γ i w' v (λq=>if q=k then l else L q)->N undef w'):h7 P ⟨dst,.entryStore t x y z,ty,pos,after,g⟩ f w N:=by
 obtain⟨F,h1,h2⟩:=hm
 refine mp hx h1 hy hz λw' hc hv=>hn w' hc ⟨_,hv,λq=>?_⟩
 by_cases e:q=k
 · subst e
   simp only[if_true]
   exact ho.chg hc (d7 (by omega)) (d7 (by omega))
 · simp only[if_neg e]
   exact(h2 q e).chg hc (d7 (by omega)) (d7 (by omega))
end
end TL
namespace TL
open Go
section
variable{α:Type}[Rp α]{γ γ':aK}{w w':World}{v:Value}{L:List Nat}{j k:Nat}{F:(Int×Int)->List α}
theorem Ml.ca(h:Ml γ j w v F)(hc:bj (bV L) γ w γ' w')(hj:L.contains j=false:=by exact rfl):Ml γ' j w' v F:=h.chg hc (bD hj)
theorem Ml.ce(h:Ml γ j w v F)(hc:bj (is k) γ w γ' w')(hj:Nat.beq j k=false:=by exact rfl):Ml γ' j w' v F:=h.chg hc (dT hj)
theorem Ml.cn(h:Ml γ j w v F)(hc:bj no γ w γ' w'):Ml γ' j w' v F:=h.chg hc (i4 _)
end
end TL
/-
  TlMarkP: lists of points with a mark behind each.
  By an AI agent.
-/
set_option linter.all false
namespace TL
open Go
structure pe where
  l:List Pt
  m:Pt
instance:Inhabited pe:=⟨⟨[],(0,0)⟩⟩
def oV(γ:aK)(S:cx->Prop)(w:World)(v:Value)(x:pe):Prop:=Sl γ S w (fS v) (x.l++[x.m])
theorem oV.one{γ:aK}{S:cx->Prop}{w:World}{v:Value}{x:pe}(h:oV γ S w v x):v.oneCell'=true:=by
 obtain⟨a,b,c,rfl⟩:=mD h
 rfl
theorem oV.tr{γ γ':aK}{S S':cx->Prop}{w w':World}{v:Value}{x:pe}(hsz:w.heap.size<=w'.heap.size)(h:∀b,b<w.heap.size->S (γ b)->w'.heap[b]? =w.heap[b]? /\S' (γ' b))(hx:oV γ S w v x):oV γ' S' w' v x:=Sl.tr h hx hsz
instance:Rp pe where
 sz:=1
 rep γ S w cs x:=∃v,cs=[v]/\oV γ S w v x
 len:=by rintro _ _ _ _ _ ⟨v,rfl,_⟩;rfl
 one:=by
   rintro _ _ _ _ _ ⟨v,rfl,h⟩ u hu
   obtain rfl:u=v:=by simpa using hu
   exact h.one
 tr:=by
   rintro _ _ _ _ _ _ _ _ hs h ⟨v,rfl,hv⟩
   exact⟨v,rfl,hv.tr hs h⟩
def kV(r:List (List Pt)):List pe:=r.map λl=>⟨l,((-7:Int),(7:Int))⟩
theorem xe(r:List (List Pt)):(kV r).length=r.length:=by simp[kV]
theorem lH{r:List (List Pt)}{k:Nat}(h:(k:Int)<r.length):kV (r.take (k+1))=kV (r.take k)++[⟨gI r (k:Int),((-7:Int),(7:Int))⟩]:=by
 unfold kV
 rw[bB h,List.map_append];rfl
def l9(γ:aK)(S:cx->Prop)(w:World)(us:List Vc)(rs:List pe):Prop:=us.length=rs.length/\∀(k:Nat) (u:Vc) (x:pe),us[k]? =some u->rs[k]? =some x->oV γ S w u.v x
theorem l9.nil{γ:aK}{S:cx->Prop}{w:World}:l9 γ S w [] []:=⟨rfl,λk u x h=>by simp at h⟩
theorem l9.chg{γ γ':aK}{S K:cx->Prop}{w w':World}{us:List Vc}{rs:List pe}(h:l9 γ S w us rs)(hc:bj K γ w γ' w')(hK:∀c,S c->¬K c):l9 γ' S w' us rs:=
 ⟨h.1,λk u x hu hx=>(h.2 k u x hu hx).tr hc.size λb hb hS=>⟨hc.keep b hb (hK _ hS),by rw[hc.col b hb (hK _ hS)];exact hS⟩⟩
theorem l9.recol{γ γ':aK}{S S':cx->Prop}{w:World}{us:List Vc}{rs:List pe}(h:l9 γ S w us rs)(hc:∀b,S (γ b)->S' (γ' b)):l9 γ' S' w us rs:=
 ⟨h.1,λk u x hu hx=>(h.2 k u x hu hx).tr (Nat.le_refl _) λb _ hS=>⟨rfl,hc b hS⟩⟩
theorem l9.snoc{γ:aK}{S:cx->Prop}{w:World}{us:List Vc}{rs:List pe}{c:Vc}{x:pe}(h:l9 γ S w us rs)(hx:oV γ S w c.v x):l9 γ S w (us++[c]) (rs++[x]):=by
 have hl:=h.1
 refine⟨by simp[hl],λk u y hu hy=>?_⟩
 by_cases hk:k<us.length
 · rw[List.getElem?_append_left hk] at hu
   rw[List.getElem?_append_left (by omega)] at hy
   exact h.2 k u y hu hy
 · rw[List.getElem?_append_right (by omega)] at hu hy
   have e0:k-us.length=0:=by
     have:=(List.getElem?_eq_some_iff.1 hu).1
     simp at this;omega
   rw[e0] at hu
   rw[<-hl,e0] at hy
   obtain rfl:c=u:=by simpa using hu
   obtain rfl:x=y:=by simpa using hy
   exact hx
theorem Ah{γ:aK}{J S0 S:cx->Prop}{w:World}{v:Value}{us:List Vc}{rs:List pe}(h:Ow γ J S0 w v us)(hr:l9 γ S w us rs):Ow γ J S w v rs:=by
 rcases h with⟨rfl,rfl⟩|⟨b,cap,c,e,rfl,hc,hm,hJ,hb,hcs,hx⟩
 · have:rs=[]:=List.eq_nil_of_length_eq_zero (by simpa using hr.1.symm)
   subst this;exact Ow.nil
 · refine .inr ⟨b,cap,c,e,by rw[hr.1],by rw[<-hr.1];exact hc,hm,hJ,hb,hcs,λi x hi=>?_⟩
   have hlt:i<us.length:=by rw[hr.1];exact(List.getElem?_eq_some_iff.1 hi).1
   have hu:us[i]? =some us[i]:=List.getElem?_eq_getElem hlt
   obtain⟨cs,hcs',hrep⟩:=hx i _ hu
   have hrep':cs=[us[i].v]:=hrep
   exact⟨cs,hcs',us[i].v,hrep',hr.2 i _ x hu hi⟩
theorem gb{γ:aK}{S:cx->Prop}{w:World}{v:Value}{r:List (List Pt)}(h:Sl γ S w v (kV r)):Sl γ S w v r:=by
  have hlen:=xe r
  rcases h with⟨h0,h1⟩|⟨b,off,cap,rfl,hc,hx⟩
  · rw[h1] at hlen
    exact .inl ⟨h0,List.eq_nil_of_length_eq_zero hlen.symm⟩
  · refine .inr ⟨b,off,cap,by rw[hlen],by rw[<-hlen];exact hc,λi x hi=>?_⟩
    have hi2:(kV r)[i]? =some ⟨x,((-7:Int),(7:Int))⟩:=by
      unfold kV
      rw[List.getElem?_map,hi];rfl
    obtain⟨h1,h2,cs,hcs,u,rfl,hu⟩:=hx i _ hi2
    exact⟨h1,h2,_,hcs,u,rfl,cz hu⟩
theorem A8{γ:aK}{S:cx->Prop}{w:World}{v:Value}{r:List (List Pt)}{k:Int}(h:Sl γ S w v (kV r))(h0:0<=k)(h1:k<r.length):∃u,w.cell? (aR v 1 k.toNat)=some u/\Sl γ S w (fS u) (gI r k++[((-7:Int),(7:Int))]):=by
  have hk:(kV r)[k.toNat]? =some ⟨gI r k,((-7:Int),(7:Int))⟩:=by
    unfold kV
    rw[List.getElem?_map,fI h0 h1];rfl
  obtain⟨cs,hcs,u,rfl,hu⟩:=h.elem hk
  have:=hcs 0 (Nat.zero_lt_one)
  rw[gU] at this
  simp only[Nat.add_zero,<-gS] at this
  rw[show Rp.sz pe=1 from rfl] at this
  exact⟨u,by simpa using this,hu⟩
end TL
namespace TL
open Go
def u5(v:Value):Value:=v
theorem uy{γ:aK}{S:cx->Prop}{w:World}{v u:Value}{r:List (List Pt)}{k:Int}(h:Sl γ S w (u5 v) (kV r))(h0:0<=k)(h1:k<r.length)(hc:w.cell? (aR v 1 k.toNat)=some u):Ro w (fS u) (gI r k++[((-7:Int),(7:Int))]):=by
 obtain⟨u2,hu2,hs⟩:=A8 h h0 h1
 have:some u2=some u:=hu2.symm.trans hc
 obtain rfl:u2=u:=Option.some.inj this
 exact hs.ro
end TL
namespace TL
open Go
end TL
namespace TL
open Go
variable{γ γ':aK}{w w':World}{j k:Nat}{L:List Nat}
theorem l9.cn{S:cx->Prop}{us:List Vc}{rs:List pe}(h:l9 γ S w us rs)(hc:bj no γ w γ' w'):l9 γ' S w' us rs:=h.chg hc (i4 _)
theorem l9.ca{us:List Vc}{rs:List pe}(h:l9 γ (is j) w us rs)(hc:bj (bV L) γ w γ' w')(hj:L.contains j=false:=by exact rfl):l9 γ' (is j) w' us rs:=h.chg hc (bD hj)
theorem l9.ce{us:List Vc}{rs:List pe}(h:l9 γ (is j) w us rs)(hc:bj (is k) γ w γ' w')(hj:Nat.beq j k=false:=by exact rfl):l9 γ' (is j) w' us rs:=h.chg hc (dT hj)
end TL
/-
  TlJTr: plots moved as a whole: their flaws.
  By an AI agent.
-/
set_option linter.all false
namespace TL
section
variable{T:Pt->Pt}{D:Pt->Prop}{g:d5}{p:dS}{l a b but:List Pt}{q:Pt}{i k:Nat}
end
section
variable{g:d5}{p:dS}
end
def ip(p:dS):Nat->Int
 |0=>(p.1.length:Int)
 |k+1=>ip p k+((gI p.2 (k:Int)).length:Int)+1
theorem sk{p:dS}(h1:(p.1.length:Int)<=1048576)(h:∀l∈p.2,l.length<=1048576):∀k:Nat,(k:Int)<=p.2.length->0<=ip p k/\ip p k<=1048576+1048577*(k:Int)
 |0,_=>by unfold ip;omega
 |k+1,hk=>by
   have h2:=sk h1 h k (by omega)
   have h3:=h _ (bk (xs:=p.2) (i:=(k:Int)) (by omega) (by omega))
   unfold ip;omega
def eD(g:d5)(p:dS):Prop:=ip p p.2.length<=400/\(¬c8 g\/g.1<=30/\(g.2.length:Int)<=40)
instance (g:d5)(p:dS):Decidable (eD g p):=by unfold eD;infer_instance
theorem r8{p:dS}:∀k:Nat,(p.1.length:Int)+k<=ip p k/\∀e:Nat,e<k->((gI p.2 (e:Int)).length:Int)<=ip p k
 |0=>⟨by unfold ip;omega,λe he=>by omega⟩
 |k+1=>by
   obtain⟨h1,h2⟩:=r8 (p:=p) k
   refine⟨by unfold ip;omega,λe he=>?_⟩
   unfold ip
   by_cases c:e=k
   · subst c;omega
   · have:=h2 e (by omega);omega
theorem sI{g:d5}{p:dS}(h:eD g p):(c8 g->(g.2.length:Int)<=2000)/\((p.1.length:Int)<=400/\(p.2.length:Int)<=400)/\∀e:Int,0<=e->e<p.2.length->((gI p.2 e).length:Int)<=400:=by
 obtain⟨h1,h2⟩:=r8 (p:=p) p.2.length
 obtain⟨h3,h4⟩:=h
 refine⟨λhm=>?_,⟨by omega,by omega⟩,λe h0 he=>?_⟩
 · rcases h4 with h4|h4
   · exact absurd hm h4
   · omega
 · have:=h2 e.toNat (by omega)
   rw[Int.toNat_of_nonneg h0] at this
   omega
end TL
namespace TL
def wR(q:Pt):Prop:=(-9223372036854775808<=q.1/\q.1<=9223372036854775807)/\ -9223372036854775808<=q.2/\q.2<=9223372036854775807
def zK(p:dS):Prop:=((p.1.length:Int)<=1048576/\(p.2.length:Int)<=1048576/\∀l∈p.2,l.length<=1048576)/\(∀q∈p.1,wR q)/\∀l∈p.2,∀q∈l,wR q
section
variable{g:d5}{p:dS}{l r:List Pt}{L:List (List Pt)}{k e:Nat}
end
end TL
namespace TL
section
variable{α:Type}[Inhabited α][DecidableEq α]{a b:List α}{k:Nat}
theorem y4(h:List.take k a=List.take k b)(h1:(k:Int)<a.length)(h2:(k:Int)<b.length)(he:gI a (k:Int)=gI b (k:Int)):List.take (k+1) a=List.take (k+1) b:=by
 rw[bB h1,bB h2,h,he]
theorem zE(h:List.take k a=List.take k b)(h1:¬(k:Int)<a.length)(h2:((a.length:Nat):Int)=(b.length:Int)):true=decide (a=b):=by
 rw[List.take_of_length_le (by omega),List.take_of_length_le (by omega)] at h
 exact(decide_eq_true h).symm
theorem Ad(he:¬gI a (k:Int)=gI b (k:Int)):false=decide (a=b):=(decide_eq_false λh=>he (by rw[h])).symm
theorem zB(h2:¬((a.length:Nat):Int)=(b.length:Int)):false=decide (a=b):=(decide_eq_false λh=>h2 (by rw[h])).symm
end
section
variable{g:d5}{p:dS}{n:Int}{e:Nat}
theorem AM(h:n=ip p e)(he:e=p.2.length)(h1:¬n<=400):false=decide (eD g p):=by
 subst he;exact(decide_eq_false λc=>h1 (by rw[h];exact c.1)).symm
theorem Az(h:n=ip p e)(he:e=p.2.length)(h1:n<=400)(h2:¬dq g=true):true=decide (eD g p):=by
 subst he;exact(decide_eq_true ⟨by rw[<-h];exact h1,.inl λc=>h2 (decide_eq_true c)⟩).symm
theorem Ab(h:n=ip p e)(he:e=p.2.length)(h1:n<=400)(h2:dq g=true)(h3:g.1<=30):decide ((g.2.length:Int)<=40)=decide (eD g p):=by
 subst he
 rw[decide_eq_decide]
 exact⟨λc=>⟨by rw[<-h];exact h1,.inr ⟨h3,c⟩⟩,λc=>(c.2.resolve_left λq=>q (of_decide_eq_true h2)).2⟩
theorem AL(h:n=ip p e)(he:e=p.2.length)(h1:n<=400)(h2:dq g=true)(h3:¬g.1<=30):false=decide (eD g p):=by
 subst he
 exact(decide_eq_false λc=>h3 (c.2.resolve_left λq=>q (of_decide_eq_true h2)).1).symm
end
end TL
/-
  TlOpen: arguments opened: what a law's reader says of a slice is what a walk wants of it.
  By an AI agent.
-/
namespace TL
open Go Go.Proofs Go.ChangeShapes Go.WideShapes Go.Joins Go.Deep
structure i8{H:Type}(f:DataW H->Nat):Prop where
 slice:∀l s:List (DataW H),l.length<=f (.slice l s)
 elem:∀l s:List (DataW H),∀d∈l,f d<=f (.slice l s)
 part:∀l:List (DataW H),∀d∈l,f d<=f (.agg l)
def vw(α:Type)[Rp α](P:Program)(t:TypeId):Prop:=
  ∀{H:Type} (enc:TypeId×Value->H) (w:World) (fuel:Nat) (cs:List Value) (x:DataW H×List MemPlace),DataW.trod enc P w 0 (λ_=>true) true fuel t cs=some x->∃y:α,Rp.rep c0 any w cs y
theorem nK{P:Program}{t:TypeId}(ht:P.underlying t=some (.int .i64)):vw Int P t:=by
 intro H enc w fuel cs x h
 obtain⟨n,rfl,_,_⟩:=DataW.trod_int ht h
 exact⟨n,rfl⟩
theorem pp{H:Type}{enc:TypeId×Value->H}{P:Program}{w:World}{base:Nat}{spare:Nat->Bool}{held:Bool}{t e:TypeId}{fuel:Nat}{cs:List Value}{x:DataW H×List MemPlace}(ht:P.underlying t=some (.array 2 e))(hce:P.cellsOf e=1)(hct:P.cellsOf t=2)
   (h:DataW.trod enc P w base spare held fuel t cs=some x):
   ∃v0 v1 y0 y1 n,cs=[v0,v1]/\x=(.agg [y0.1,y1.1],y0.2++y1.2)/\DataW.trod enc P w base spare held n e [v0]=some y0/\DataW.trod enc P w base spare held n e [v1]=some y1:=by
 cases fuel with
 |zero=>simp[DataW.trod] at h
 |succ n=>
   unfold DataW.trod at h
   rw[ht] at h
   have r2:List.range 2=[0,1]:=rfl
   simp only[hct] at h
   by_cases hl:cs.length=2
   · rw[if_pos hl] at h
     match cs,hl with
     |[v0,v1],_=>
       simp[r2,hce] at h
       cases h0:DataW.trod enc P w base spare held n e [v0] with
       |none=>simp[h0] at h
       |some y0=>
         cases h1:DataW.trod enc P w base spare held n e [v1] with
         |none=>simp[h0,h1] at h
         |some y1=>
           simp[h0,h1] at h
           exact⟨v0,v1,y0,y1,n,rfl,h.symm,h0,h1⟩
   · rw[if_neg hl] at h;cases h
theorem wD{P:Program}{t e:TypeId}(ht:P.underlying t=some (.array 2 e))(he:P.underlying e=some (.int .i64))(hce:P.cellsOf e=1)(hct:P.cellsOf t=2):vw (Int×Int) P t:=by
 intro H enc w fuel cs x h
 obtain⟨v0,v1,y0,y1,n,rfl,_,h0,h1⟩:=pp ht hce hct h
 obtain⟨a,ha⟩:=nK he enc w n [v0] y0 h0
 obtain⟨b,hb⟩:=nK he enc w n [v1] y1 h1
 exact⟨(a,b),[v0],[v1],rfl,ha,hb⟩
theorem ss{α:Type}[Rp α][Inhabited α]{P:Program}{t e:TypeId}(ht:P.underlying t=some (.slice e))(hc:P.cellsOf e=Rp.sz α)(hz:0<Rp.sz α)(he:vw α P e)
    {H:Type}{enc:TypeId×Value->H}{w:World}{f:DataW H->Nat}(hf:i8 f){fuel:Nat}{v:Value}{x:DataW H×List MemPlace}
    (hs:∀a len cap,v= .slice (some a) len cap->a.spot=none)(h:DataW.trod enc P w 0 (λ_=>true) true fuel t [v]=some x)(hb:f x.1<=1048576):∃xs:List α,Ro w v xs:=by
  rcases Deep.open_slice ht h with⟨h0,_⟩|⟨a,len,cap,m,n,D,Pl,h0,_,hlc,_,hm,rfl,hx⟩
  · obtain rfl:v= .slice none 0 0:=by simpa using h0
    exact⟨[],.inl ⟨⟨_,rfl⟩,rfl⟩⟩
  · obtain rfl:v= .slice (some a) len cap:=by simpa using h0
    have hsp:=hs a len cap rfl
    obtain⟨b,off,spot⟩:=a
    obtain rfl:spot=none:=hsp
    simp only[if_true] at hm
    subst hm
    obtain⟨Y,hY⟩:=Deep.choose_lt (α:=α) (n:=len) (p:=λi y=>∃cs,(∀j,j<Rp.sz α->w.cell? ⟨b,off+i*Rp.sz α+j,none⟩=cs[j]?)/\Rp.rep c0 any w cs y) (λi hi=>by
      obtain⟨cs',h1,h2⟩:=hx i (by omega)
      obtain⟨y,hy⟩:=he enc w n cs' _ h2
      refine⟨y,cs',λj hj=>?_,hy⟩
      obtain⟨_,hl,hcell⟩:=World.cells?_some h1
      have:=hcell j (by omega)
      rw[Deep.add_add,hc] at this
      rw[<-this]
      unfold Addr.add
      by_cases hij:i*Rp.sz α+j=0
      · rw[if_pos hij,Nat.add_assoc,hij];rfl
      · rw[if_neg hij,Nat.add_assoc])
    have hlen:((List.range len).map Y).length=len:=by simp
    have hbound:=Nat.le_trans (hf.slice _ _) hb
    refine⟨(List.range len).map Y,.inr ⟨b,off,m,by rw[hlen],⟨by omega,by simp at hbound;omega⟩,λi y hi=>?_⟩⟩
    have hil:i<len:=by
      have:=(List.getElem?_eq_some_iff.1 hi).1
      omega
    obtain rfl:Y i=y:=by simpa[hil] using hi
    obtain⟨cs,h1,h2⟩:=hY i hil
    refine⟨?_,trivial,cs,h1,h2⟩
    have h3:=h1 0 hz
    have h4:=Rp.len h2
    have h5:0<cs.length:=by omega
    rw[List.getElem?_eq_getElem h5] at h3
    by_cases hbl:b<w.heap.size
    · exact hbl
    · have:w.heap[b]? =none:=Array.getElem?_eq_none (by omega)
      simp[World.cell?,this] at h3
theorem fU{P:Program}{w:World}{base:Nat}{t e:TypeId}{v:Value}(ht:P.underlying t=some (.slice e))(h:Cell.okWide P w .any base t v):∀a len cap,v= .slice (some a) len cap->a.spot=none:=by
 rintro a len cap rfl
 simp only[Cell.okWide,Cell.ok,ht] at h
 exact h.2.2.2.1
theorem sY{P:Program}{e q:TypeId}(he:P.underlying e=some (.slice q))(hq:P.underlying q=some (.int .i64))(hcq:P.cellsOf q=1)
    {H:Type}{enc:TypeId×Value->H}{w:World}{f:DataW H->Nat}(hf:i8 f){fuel:Nat}{u:Value}{x:DataW H×List MemPlace}
    (h:DataW.trod enc P w 0 (λ_=>true) true fuel e [u]=some x)(hb:f x.1<=1048576):∃xs:List Int,Ro w u xs/\xs.length<=1048576:=by
  have h':=h
  rcases Deep.open_slice he h with⟨h0,_⟩|⟨a,len,cap,m,n,D,Pl,h0,_,hlc,_,hm,rfl,hx⟩
  · obtain rfl:u= .slice none 0 0:=by simpa using h0
    exact⟨[],.inl ⟨⟨_,rfl⟩,rfl⟩,by simp⟩
  · obtain rfl:u= .slice (some a) len cap:=by simpa using h0
    simp only[if_true] at hm
    subst hm
    by_cases hc:m=0
    · have hl:len=0:=by omega
      subst hl hc
      exact⟨[],.inl ⟨⟨_,rfl⟩,rfl⟩,by simp⟩
    · obtain⟨cs',h1,h2⟩:=hx 0 (by omega)
      obtain⟨_,hl,hcell⟩:=World.cells?_some h1
      have h3:=hcell 0 (by rw[hcq];omega)
      have h4:0<cs'.length:=by rw[hl,hcq];omega
      rw[List.getElem?_eq_getElem h4] at h3
      have hs:a.spot=none:=by
        have:=World.cell?_spot h3
        simpa[Addr.add] using this
      obtain⟨xs,hxs⟩:=ss he (α:=Int) (by rw[hcq];rfl) (by decide) (nK hq) hf (by rintro a' len' cap' e';cases e';exact hs) h' hb
      have hform:=hxs.form
      have hlen:xs.length=len:=by
        cases hform;rfl
      have hbound:=Nat.le_trans (hf.slice _ _) hb
      exact⟨xs,hxs,by simp at hbound;omega⟩
theorem wh{P:Program}{t e q:TypeId}(ht:P.underlying t=some (.slice e))(he:P.underlying e=some (.slice q))(hq:P.underlying q=some (.int .i64))(hce:P.cellsOf e=1)(hcq:P.cellsOf q=1)
    {H:Type}{enc:TypeId×Value->H}{w:World}{f:DataW H->Nat}(hf:i8 f){base:Nat}{v:Value}{d:DataW H}{p:List MemPlace}
    (hval:Value.okWide P w .any base t v)(h:DataW.Trod enc P w 0 (λ_=>true) true t v d p)(hb:f d<=1048576):∃xss:List (List Int),Ro w v xss/\(xss.length:Int)<=1048576/\∀l∈xss,l.length<=1048576:=by
  obtain⟨a,len,cap,rfl⟩:=okWide_slice ht hval
  have hs:=fU (w:=w) (base:=base) (v:=.slice a len cap) ht (by simpa[Value.okWide,ht] using hval)
  obtain⟨fuel,hfu⟩:=h
  rcases Deep.open_slice ht hfu with⟨h0,_⟩|⟨a',len',cap',m,n,D,Pl,h0,_,hlc,_,hm,hd,hx⟩
  · have h0':(Value.slice a len cap)= .slice none 0 0:=by simpa[Value.cells] using h0
    rw[h0']
    exact⟨[],.inl ⟨⟨_,rfl⟩,rfl⟩,by simp,by simp⟩
  · have h0':(Value.slice a len cap)= .slice (some a') len' cap':=by simpa[Value.cells] using h0
    cases h0'
    have hsp:=hs a' len cap rfl
    obtain⟨b,off,spot⟩:=a'
    obtain rfl:spot=none:=hsp
    simp only[if_true] at hm
    subst hm
    obtain⟨rfl,_⟩:d=_/\p=_:=by simpa using hd
    have hbound:=Nat.le_trans (hf.slice _ _) hb
    obtain⟨Y,hY⟩:=Deep.choose_lt (α:=List Int) (n:=len) (p:=λi y=>(∃cs,(∀j,j<Rp.sz (List Int)->w.cell? ⟨b,off+i*Rp.sz (List Int)+j,none⟩=cs[j]?)/\Rp.rep c0 any w cs y)/\y.length<=1048576) (λi hi=>by
      obtain⟨cs',h1,h2⟩:=hx i (by omega)
      obtain⟨_,hl,hcell⟩:=World.cells?_some h1
      rw[hce] at hl
      obtain⟨u,rfl⟩:∃u,cs'=[u]:=by
        match cs',hl with
        |[u],_=>exact⟨u,rfl⟩
      obtain⟨y,hy,hyl⟩:=sY he hq hcq hf h2 (Nat.le_trans (hf.elem _ _ _ (by simp;exact⟨i,hi,rfl⟩)) hb)
      refine⟨y,⟨[u],λj hj=>?_,u,rfl,hy⟩,hyl⟩
      have hj0:j<1:=hj
      have:=hcell j (by rw[hce];exact hj0)
      rw[Deep.add_add,hce] at this
      rw[<-this]
      show w.cell? ⟨b,off+i*1+j,none⟩=_
      unfold Addr.add
      by_cases hij:i*1+j=0
      · rw[if_pos hij,Nat.add_assoc,hij];rfl
      · rw[if_neg hij,Nat.add_assoc])
    have hlen:((List.range len).map Y).length=len:=by simp
    have hll:len<=1048576:=by simp at hbound;omega
    refine⟨(List.range len).map Y,.inr ⟨b,off,m,by rw[hlen],⟨by omega,by omega⟩,λi y hi=>?_⟩,by simp;omega,λl hl=>?_⟩
    · have hil:i<len:=by
        have:=(List.getElem?_eq_some_iff.1 hi).1
        omega
      obtain rfl:Y i=y:=by simpa[hil] using hi
      obtain⟨⟨cs,h1,h2⟩,_⟩:=hY i hil
      refine⟨?_,trivial,cs,h1,h2⟩
      have h3:=h1 0 (by decide)
      have h4:=Rp.len h2
      have h5:0<cs.length:=by rw[h4];decide
      rw[List.getElem?_eq_getElem h5] at h3
      by_cases hbl:b<w.heap.size
      · exact hbl
      · have:w.heap[b]? =none:=Array.getElem?_eq_none (by omega)
        simp[World.cell?,this] at h3
    · obtain⟨i,hi,rfl⟩:=List.mem_map.1 hl
      exact(hY i (List.mem_range.1 hi)).2
end TL
/-
  TlPost: what is owed behind a law that returns true and writes nothing of the caller's.
  By an AI agent.
-/
namespace TL
open Go Go.Proofs Go.ChangeShapes Go.WideShapes Go.RowKit
def sn(P:Program)(ts:List TypeId):Bool:=ts.all λt=>P.readableRec t&&decide (t<P.types.size)
theorem mV{H:Type}{enc:TypeId×Value->H}{P:Program}(hl:laidOutB P=true){W W':World}(hb:Below W.heap.size W W')(sp:Nat->Bool):
   ∀{ts:List TypeId} {vs:List Value} {ds:List (DataW H)} {ps:List MemPlace},sn P ts=true->DataW.TrodAll enc P W 0 (λ_=>true) true ts vs ds ps->(∀p∈ps,p.block<W.heap.size)->(∀p∈ps,sp p.block=true)->DataW.TrodAll enc P W' 0 sp true ts vs ds ps
 |[],[],[],_,_,h,_,_=>h
 |[],[],_::_,_,_,h,_,_=>h.elim
 |[],_::_,_,_,_,h,_,_=>by cases‹List (DataW H)›<;>exact h.elim
 |_::_,[],_,_,_,h,_,_=>by cases‹List (DataW H)›<;>exact h.elim
 |_::_,_::_,[],_,_,h,_,_=>h.elim
 |t::ts,v::vs,d::ds,ps,hr,h,hlt,hsp=>by
   obtain⟨p,q,h1,h2,rfl⟩:=h
   simp only[sn,List.all_cons,Bool.and_eq_true,decide_eq_true_eq] at hr
   exact⟨p,q,WideElems.Trod_stays hl hr.1.1 hr.1.2 h1 (λx hx=>hb.same (hlt x (by simp[hx]))) (λx hx=>hsp x (by simp[hx])),
     mV hl hb sp hr.2 h2 (λx hx=>hlt x (by simp[hx])) (λx hx=>hsp x (by simp[hx])),rfl⟩
theorem uG{H:Type}{enc:TypeId×Value->H}{P:Program}{f:Func}{s:ChangeSpec}{W W':World}{args:Array Value}{ds gs:List (DataW H)}{before:List MemPlace}{tb:TypeId}
   (hl:laidOutB P=true)(hr:sn P f.params.toList=true)(hv:s.vars=[])(hrt:f.resultTypes= #[tb])(htb:P.underlying tb=some .bool)
   (hW:DataW.Whole enc P f.params.toList s.vars false W args.toList ds gs before)(hfn:s.fn H (ds++gs)={results:=[.lit (.bool true)],args:=ds})(hB:Below W.heap.size W W'):
   s.post enc P f false true false false W args (.bool true) W':=by
 have hlt:=hW.lt
 have hW0:=hW
 obtain⟨p,q,hA,hV,rfl,hfz,_⟩:=hW
 rw[hv] at hV
 obtain⟨rfl,rfl⟩:=trodVars_none hV
 simp only[List.append_nil] at hlt hfz hW0 hfn
 have hres:∀(b:Nat) (sp:Nat->Bool) (hd:Bool),DataW.TrodAll enc P W' b sp hd f.resultTypes.toList ((Value.bool true).resultList f.resultTypes.size) (s.fn H (ds++[])).results []:=λb sp hd=>by
   rw[hrt,List.append_nil,hfn]
   exact trodAll_cons_mk (shut_bool htb true) trodAll_mk0
 have hargs:∀sp:Nat->Bool,(∀x∈p,sp x.block=true)->DataW.TrodAll enc P W' 0 sp true f.params.toList args.toList (s.fn H (ds++[])).args p:=λsp hsp=>by
   rw[List.append_nil,hfn]
   exact mV hl hB sp hr hA hlt hsp
 have hvars:∀sp:Nat->Bool,DataW.TrodVars enc P W' sp s.vars (s.fn H (ds++[])).vars []:=λsp=>by
   rw[List.append_nil,hfn,hv]
   rfl
 refine⟨ds,[],p,[],p,[],hW0,hres _ _ _,hargs _ (λx hx=>by simpa using hlt x hx),hvars _,World.keptBut_mono (λx hx=>⟨hx,Or.inr (by simpa using hx)⟩) (hB.frame _),λ_=>?_⟩
 refine⟨?_,_,_,([]++p)++[],⟨[]++p,[],trodAll_append (hargs _ (λ_ _=>rfl)) (hres _ _ _),hvars _,rfl,?_,?_⟩,?_⟩
 · exact ok_one hrt rfl (okWide_bool_mk htb true)
 · intro b off hp
   have hp':MemPlace.cell b off∈p:=by simpa using hp
   rw[hB.frozen (p:=⟨b,off,none⟩) (hlt _ hp')]
   exact hfz b off hp'
 · intro ha;cases ha
 · intro x hx _
   simpa using hx
end TL
/-
  TlOpenL: arguments that are plots: a list of points, and a list of lists of points; whole numbers in their range.
  By an AI agent.
-/
set_option linter.all false
namespace TL
open Go Go.Proofs Go.ChangeShapes Go.WideShapes Go.Joins Go.Deep
def pT(α:Type)[Rp α](Q:α->Prop)(P:Program)(t:TypeId):Prop:=
  ∀{H:Type} (enc:TypeId×Value->H) (w:World) (fuel:Nat) (cs:List Value) (x:DataW H×List MemPlace),DataW.trod enc P w 0 (λ_=>true) true fuel t cs=some x->∃y:α,Rp.rep c0 any w cs y/\Q y
def Ba(n:Int):Prop:= -9223372036854775808<=n/\n<=9223372036854775807
theorem ra{P:Program}{t:TypeId}(ht:P.underlying t=some (.int .i64)):pT Int Ba P t:=by
 intro H enc w fuel cs x h
 obtain⟨n,rfl,_,hw⟩:=DataW.trod_int ht h
 refine⟨n,rfl,?_⟩
 simp only[Lit.wf,Bool.and_eq_true,decide_eq_true_eq] at hw
 have e1:IntKind.i64.min= -9223372036854775808:=by decide
 have e2:IntKind.i64.max=9223372036854775807:=by decide
 unfold Ba
 omega
theorem zJ{P:Program}{t e:TypeId}{f0 f1:Field}(hs:P.underlying t=some (.struct #[f0,f1]))(hone:oneCellFields P #[f0,f1]=true)(hC:P.cellsOf t=2)(h0:f0.type=e)(h1:f1.type=e)(he:P.underlying e=some (.int .i64)):pT (Int×Int) wR P t:=by
 intro H enc w fuel cs x h
 obtain⟨y0,y1,n,_,hl,k0,k1⟩:=trod_struct2 hs h
 obtain⟨o0,c0⟩:=hone_of hone 0 f0 rfl
 obtain⟨o1,c1⟩:=hone_of hone 1 f1 rfl
 rw[hC] at hl
 match cs,hl with
 |[v0,v1],_=>
   have k0':DataW.trod enc P w 0 (λ_=>true) true n f0.type [v0]=some y0:=by simpa[o0,c0] using k0
   have k1':DataW.trod enc P w 0 (λ_=>true) true n f1.type [v1]=some y1:=by simpa[o1,c1] using k1
   rw[h0] at k0'
   rw[h1] at k1'
   obtain⟨a,ha,qa⟩:=ra he enc w n [v0] y0 k0'
   obtain⟨b,hb,qb⟩:=ra he enc w n [v1] y1 k1'
   exact⟨(a,b),⟨[v0],[v1],rfl,ha,hb⟩,qa,qb⟩
theorem kE{α:Type}[Rp α][Inhabited α]{Q:α->Prop}{P:Program}{t e:TypeId}(ht:P.underlying t=some (.slice e))(hc:P.cellsOf e=Rp.sz α)(hz:0<Rp.sz α)(he:pT α Q P e)
   {H:Type}{enc:TypeId×Value->H}{w:World}{f:DataW H->Nat}(hf:i8 f){fuel:Nat}{v:Value}{x:DataW H×List MemPlace}
   (hs:∀a len cap,v= .slice (some a) len cap->a.spot=none)(h:DataW.trod enc P w 0 (λ_=>true) true fuel t [v]=some x)(hb:f x.1<=1048576):∃xs:List α,Ro w v xs/\(∀y∈xs,Q y)/\xs.length<=1048576:=by
 rcases Deep.open_slice ht h with⟨h0,_⟩|⟨a,len,cap,m,n,D,Pl,h0,_,hlc,_,hm,rfl,hx⟩
 · obtain rfl:v= .slice none 0 0:=by simpa using h0
   exact⟨[],.inl ⟨⟨_,rfl⟩,rfl⟩,λy hy=>(by cases hy),by simp⟩
 · obtain rfl:v= .slice (some a) len cap:=by simpa using h0
   have hsp:=hs a len cap rfl
   obtain⟨b,off,spot⟩:=a
   obtain rfl:spot=none:=hsp
   simp only[if_true] at hm
   subst hm
   obtain⟨Y,hY⟩:=Deep.choose_lt (α:=α) (n:=len) (p:=λi y=>(∃cs,(∀j,j<Rp.sz α->w.cell? ⟨b,off+i*Rp.sz α+j,none⟩=cs[j]?)/\Rp.rep c0 any w cs y)/\Q y) (λi hi=>by
     obtain⟨cs',h1,h2⟩:=hx i (by omega)
     obtain⟨y,hy,hq⟩:=he enc w n cs' _ h2
     refine⟨y,⟨cs',λj hj=>?_,hy⟩,hq⟩
     obtain⟨_,hl,hcell⟩:=World.cells?_some h1
     have:=hcell j (by omega)
     rw[Deep.add_add,hc] at this
     rw[<-this]
     unfold Addr.add
     by_cases hij:i*Rp.sz α+j=0
     · rw[if_pos hij,Nat.add_assoc,hij];rfl
     · rw[if_neg hij,Nat.add_assoc])
   have hlen:((List.range len).map Y).length=len:=by simp
   have hbound:=Nat.le_trans (hf.slice _ _) hb
   have hll:len<=1048576:=by simp at hbound;omega
   refine⟨(List.range len).map Y,.inr ⟨b,off,m,by rw[hlen],⟨by omega,by omega⟩,λi y hi=>?_⟩,λy hy=>?_,by omega⟩
   · have hil:i<len:=by
       have:=(List.getElem?_eq_some_iff.1 hi).1
       omega
     obtain rfl:Y i=y:=by simpa[hil] using hi
     obtain⟨⟨cs,h1,h2⟩,_⟩:=hY i hil
     refine⟨?_,trivial,cs,h1,h2⟩
     have h3:=h1 0 hz
     have h4:=Rp.len h2
     have h5:0<cs.length:=by omega
     rw[List.getElem?_eq_getElem h5] at h3
     by_cases hbl:b<w.heap.size
     · exact hbl
     · have:w.heap[b]? =none:=Array.getElem?_eq_none (by omega)
       simp[World.cell?,this] at h3
   · obtain⟨i,hi,rfl⟩:=List.mem_map.1 hy
     exact(hY i (List.mem_range.1 hi)).2
theorem sL{α:Type}[Rp α][Inhabited α]{Q:α->Prop}{P:Program}{e q:TypeId}(he:P.underlying e=some (.slice q))(hc:P.cellsOf q=Rp.sz α)(hz:0<Rp.sz α)(hq:pT α Q P q)
    {H:Type}{enc:TypeId×Value->H}{w:World}{f:DataW H->Nat}(hf:i8 f){fuel:Nat}{u:Value}{x:DataW H×List MemPlace}
    (h:DataW.trod enc P w 0 (λ_=>true) true fuel e [u]=some x)(hb:f x.1<=1048576):∃xs:List α,Ro w u xs/\(∀y∈xs,Q y)/\xs.length<=1048576:=by
  have h':=h
  rcases Deep.open_slice he h with⟨h0,_⟩|⟨a,len,cap,m,n,D,Pl,h0,_,hlc,_,hm,rfl,hx⟩
  · obtain rfl:u= .slice none 0 0:=by simpa using h0
    exact⟨[],.inl ⟨⟨_,rfl⟩,rfl⟩,λy hy=>(by cases hy),by simp⟩
  · obtain rfl:u= .slice (some a) len cap:=by simpa using h0
    simp only[if_true] at hm
    subst hm
    by_cases hc0:m=0
    · have hl:len=0:=by omega
      subst hl hc0
      exact⟨[],.inl ⟨⟨_,rfl⟩,rfl⟩,λy hy=>(by cases hy),by simp⟩
    · obtain⟨cs',h1,h2⟩:=hx 0 (by omega)
      obtain⟨_,hl,hcell⟩:=World.cells?_some h1
      have h3:=hcell 0 (by omega)
      have h4:0<cs'.length:=by omega
      rw[List.getElem?_eq_getElem h4] at h3
      have hs:a.spot=none:=by
        have:=World.cell?_spot h3
        simpa[Addr.add] using this
      exact kE he hc hz hq hf (by rintro a' len' cap' e';cases e';exact hs) h' hb
theorem sQ{α:Type}[Rp α][Inhabited α]{Q:α->Prop}{P:Program}{t e q:TypeId}(ht:P.underlying t=some (.slice e))(he:P.underlying e=some (.slice q))(hce:P.cellsOf e=1)(hc:P.cellsOf q=Rp.sz α)(hz:0<Rp.sz α)(hq:pT α Q P q)
    {H:Type}{enc:TypeId×Value->H}{w:World}{f:DataW H->Nat}(hf:i8 f){fuel:Nat}{v:Value}{x:DataW H×List MemPlace}
    (hs:∀a len cap,v= .slice (some a) len cap->a.spot=none)(h:DataW.trod enc P w 0 (λ_=>true) true fuel t [v]=some x)(hb:f x.1<=1048576):∃xss:List (List α),Ro w v xss/\(∀l∈xss,(∀y∈l,Q y)/\l.length<=1048576)/\xss.length<=1048576:=by
  rcases Deep.open_slice ht h with⟨h0,_⟩|⟨a',len,cap,m,n,D,Pl,h0,_,hlc,_,hm,hd,hx⟩
  · obtain rfl:v= .slice none 0 0:=by simpa using h0
    exact⟨[],.inl ⟨⟨_,rfl⟩,rfl⟩,λl hl=>(by cases hl),by simp⟩
  · obtain rfl:v= .slice (some a') len cap:=by simpa using h0
    have hsp:=hs a' len cap rfl
    obtain⟨b,off,spot⟩:=a'
    obtain rfl:spot=none:=hsp
    simp only[if_true] at hm
    subst hm hd
    have hbound:=Nat.le_trans (hf.slice _ _) hb
    obtain⟨Y,hY⟩:=Deep.choose_lt (α:=List α) (n:=len) (p:=λi y=>(∃cs,(∀j,j<Rp.sz (List α)->w.cell? ⟨b,off+i*Rp.sz (List α)+j,none⟩=cs[j]?)/\Rp.rep c0 any w cs y)/\(∀z∈y,Q z)/\y.length<=1048576) (λi hi=>by
      obtain⟨cs',h1,h2⟩:=hx i (by omega)
      obtain⟨_,hl,hcell⟩:=World.cells?_some h1
      rw[hce] at hl
      obtain⟨u,rfl⟩:∃u,cs'=[u]:=by
        match cs',hl with
        |[u],_=>exact⟨u,rfl⟩
      obtain⟨y,hy,hyl⟩:=sL he hc hz hq hf h2 (Nat.le_trans (hf.elem _ _ _ (by simp;exact⟨i,hi,rfl⟩)) hb)
      refine⟨y,⟨[u],λj hj=>?_,u,rfl,hy⟩,hyl⟩
      have hj0:j<1:=hj
      have:=hcell j (by rw[hce];exact hj0)
      rw[Deep.add_add,hce] at this
      rw[<-this]
      show w.cell? ⟨b,off+i*1+j,none⟩=_
      unfold Addr.add
      by_cases hij:i*1+j=0
      · rw[if_pos hij,Nat.add_assoc,hij];rfl
      · rw[if_neg hij,Nat.add_assoc])
    have hlen:((List.range len).map Y).length=len:=by simp
    have hll:len<=1048576:=by simp at hbound;omega
    refine⟨(List.range len).map Y,.inr ⟨b,off,m,by rw[hlen],⟨by omega,by omega⟩,λi y hi=>?_⟩,λl hl=>?_,by omega⟩
    · have hil:i<len:=by
        have:=(List.getElem?_eq_some_iff.1 hi).1
        omega
      obtain rfl:Y i=y:=by simpa[hil] using hi
      obtain⟨⟨cs,h1,h2⟩,_⟩:=hY i hil
      refine⟨?_,trivial,cs,h1,h2⟩
      have h3:=h1 0 Nat.zero_lt_one
      have h4:=Rp.len h2
      have h5:0<cs.length:=by rw[h4];exact Nat.zero_lt_one
      rw[List.getElem?_eq_getElem h5] at h3
      by_cases hbl:b<w.heap.size
      · exact hbl
      · have:w.heap[b]? =none:=Array.getElem?_eq_none (by omega)
        simp[World.cell?,this] at h3
    · obtain⟨i,hi,rfl⟩:=List.mem_map.1 hl
      exact(hY i (List.mem_range.1 hi)).2
theorem ue{P:Program}{t t0 t1 e q:TypeId}{f0 f1:Field}(hs:P.underlying t=some (.struct #[f0,f1]))(hone:oneCellFields P #[f0,f1]=true)(hC:P.cellsOf t=2)(hts:P.cellTypes P.depth t=some [t0,t1])
    (h0:f0.type=t0)(h1:f1.type=t1)(ht0:P.underlying t0=some (.slice q))(ht1:P.underlying t1=some (.slice e))(he:P.underlying e=some (.slice q))(hce:P.cellsOf e=1)(hcq:P.cellsOf q=2)(hq:pT (Int×Int) wR P q)
    {H:Type}{enc:TypeId×Value->H}{w:World}{f:DataW H->Nat}(hf:i8 f){base:Nat}{v:Value}{d:DataW H}{p:List MemPlace}
    (hval:Value.okWide P w .any base t v)(h:DataW.Trod enc P w 0 (λ_=>true) true t v d p)(hb:f d<=1048576):∃(u0 u1:Value) (xs:List (Int×Int)) (xss:List (List (Int×Int))),v= .agg #[u0,u1]/\Ro w u0 xs/\Ro w u1 xss/\zK (xs,xss):=by
  obtain⟨v0,v1,y0,y1,n,rfl,rfl,rfl,r0,r1⟩:=open_agg2 hs hone hC hval h
  subst h0 h1
  simp only[Value.okWide,hs] at hval
  obtain⟨cs,hcs,_,ts,h3,_,h4⟩:=hval
  rw[hts] at h3
  obtain rfl:=Option.some.inj h3
  obtain rfl: #[v0,v1]=cs:=by simpa using hcs
  obtain⟨t0',hu0,hk0⟩:=h4 0 v0 rfl
  obtain⟨t1',hu1,hk1⟩:=h4 1 v1 rfl
  simp at hu0 hu1
  subst hu0 hu1
  obtain⟨xs,hx,hxq,hxl⟩:=kE (α:=Int×Int) ht0 (by rw[hcq];rfl) (by decide) hq hf (fU ht0 hk0) (x:=y0) r0 (Nat.le_trans (hf.part _ _ (by simp)) hb)
  obtain⟨xss,hy,hyq,hyl⟩:=sQ (α:=Int×Int) ht1 he hce (by rw[hcq];rfl) (by decide) hq hf (fU ht1 hk1) (x:=y1) r1 (Nat.le_trans (hf.part _ _ (by simp)) hb)
  exact⟨v0,v1,xs,xss,rfl,hx,hy,⟨by show(xs.length:Int)<=_;omega,by show(xss.length:Int)<=_;omega,λl hl=>(hyq l hl).2⟩,hxq,λl hl=>(hyq l hl).1⟩
end TL
/-
  TlOpenN: an argument that is a net, with the bound of its edges.
  By an AI agent.
-/
set_option linter.all false
namespace TL
open Go Go.Proofs Go.ChangeShapes Go.WideShapes Go.Joins Go.Deep
theorem zM{α:Type}[Rp α]{P:Program}{t:TypeId}(h:vw α P t):pT α (λ_=>True) P t:=by
 intro H enc w fuel cs x hx
 obtain⟨y,hy⟩:=h enc w fuel cs x hx
 exact⟨y,hy,trivial⟩
theorem tW{α:Type}[Rp α][Inhabited α]{P:Program}{t t0 t1 e:TypeId}{f0 f1:Field}(hs:P.underlying t=some (.struct #[f0,f1]))(hone:oneCellFields P #[f0,f1]=true)(hC:P.cellsOf t=2)(hts:P.cellTypes P.depth t=some [t0,t1])
   (h0:f0.type=t0)(h1:f1.type=t1)(hi:P.underlying t0=some (.int .i64))(ht:P.underlying t1=some (.slice e))(hc:P.cellsOf e=Rp.sz α)(hz:0<Rp.sz α)(he:vw α P e)
   {H:Type}{enc:TypeId×Value->H}{w:World}{f:DataW H->Nat}(hf:i8 f){base:Nat}{v:Value}{d:DataW H}{p:List MemPlace}
   (hval:Value.okWide P w .any base t v)(h:DataW.Trod enc P w 0 (λ_=>true) true t v d p)(hb:f d<=1048576):∃(n:Int) (u:Value) (xs:List α),v= .agg #[.int .i64 n,u]/\Ro w u xs/\(xs.length:Int)<=1048576:=by
 obtain⟨v0,v1,y0,y1,n,rfl,rfl,rfl,r0,r1⟩:=open_agg2 hs hone hC hval h
 subst h0 h1
 obtain⟨k,hk,_,_⟩:=DataW.trod_int hi r0
 obtain rfl:v0= .int .i64 k:=by simpa using hk
 have hcell:Cell.okWide P w .any base f1.type v1:=by
   simp only[Value.okWide,hs] at hval
   obtain⟨cs,hcs,_,ts,h3,_,h4⟩:=hval
   rw[hts] at h3
   obtain rfl:=Option.some.inj h3
   obtain rfl: #[Value.int .i64 k,v1]=cs:=by simpa using hcs
   obtain⟨u,hu,hk⟩:=h4 1 v1 rfl
   simp at hu
   subst hu
   exact hk
 obtain⟨xs,hx,_,hl⟩:=kE (α:=α) ht hc hz (zM he) hf (fU ht hcell) (x:=y1) r1 (Nat.le_trans (hf.part _ _ (by simp)) hb)
 exact⟨k,v1,xs,rfl,hx,by omega⟩
end TL
