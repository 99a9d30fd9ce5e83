/- Plain texts of this claim, part 3. By an AI agent. -/
import Derived.Test.YtcblhagfadineaaJpTlP2
import Derived.Carry
import Derived.Deep.Slices
import Derived.Lib.SmallJoins
import Derived.Shelf.SlSortCmp.Whole1
/-
  TlMapL: maps of the call's own whose elements are lists of the call's own.
  By an AI agent.
-/
set_option linter.all false
namespace TL
open Go
theorem om{P:Program}{kt e bytes:Nat}{z:Value}{f0 f1:Field}(ht:P.underlying kt=some (.struct #[f0,f1]))(h0:f0.type=e)(h1:f1.type=e)(o0:f0.offset=0)(o1:f1.offset=1)(n0:(f0.name != "_")=true)(n1:(f1.name != "_")=true)(he:P.underlying e=some (.int .i64))(hp:Tp P e false 1 bytes z)(hs:P.stoodInHeld kt=false):qY P kt (Int×Int) where
 check b k w:=by
   have hc:∀x:Int,(Instr.checkKey b 9999 e (.int .i64 x)).run P w= .ok () w:=λx=>by
     rw[Instr.checkKey]
     simp only[Sem.run_bind,aS he,Result.andThen_ok]
     rfl
   have p0:=λ(x y:Int)=>i6 (P:=P) (w:=w) (cs:= #[.int .i64 x,.int .i64 y]) (o:=0) hp (v:=.int .i64 x) (by rfl)
   have p1:=λ(x y:Int)=>i6 (P:=P) (w:=w) (cs:= #[.int .i64 x,.int .i64 y]) (o:=1) hp (v:=.int .i64 y) (by rfl)
   have n0':f0.name≠ "_" :=by simpa using n0
   have n1':f1.name≠ "_" :=by simpa using n1
   show(Instr.checkKey b (9999+1) kt _).run P w=_
   rw[Instr.checkKey]
   simp only[Ky.val,Sem.run_bind,aS ht,Result.andThen_ok]
   rw[<-Array.forIn_toList]
   simp[n0',n1',h0,h1,o0,o1,p0,p1,hc]
 find k es ks w hm:=by
   have heq1:∀a b:Int×Int,(Op.equal kt (Ky.val a) (Ky.val b)).run P w= .ok (decide (a=b)) w:=λa b=>by
     have e1:P.fieldsOf kt= #[f0,f1]:=by simp[Program.fieldsOf,ht]
     have:=run_equalIn_struct (P:=P) w 9999 kt #[.int .i64 a.1,.int .i64 a.2] #[.int .i64 b.1,.int .i64 b.2] (by rw[e1];exact ht) hs
     rw[e1,gP (bs:=[decide (a.1=b.1),decide (a.2=b.2)]) (.cons n0 (by rw[h0];exact hp) (by rw[o0];rfl) (by rw[o0];rfl) (.int (by rw[h0];exact he)) (.cons n1 (by rw[h1];exact hp) (by rw[o1];rfl) (by rw[o1];rfl) (.int (by rw[h1];exact he)) .nil)) 9998] at this
     have hq:([decide (a.1=b.1),decide (a.2=b.2)].all id)=decide (a=b):=by simp[Prod.ext_iff,Bool.decide_and]
     rw[hq] at this
     exact this
   have hfn:∀(es:List MapEntry) (i:Nat),es≠[]->(∀e∈es,∃c,e.key= .agg c)->Instr.findNow (.struct #[f0,f1]) (Ky.val k) es i=none:=by
     intro es i h0 _
     cases es with
     |nil=>exact absurd rfl h0
     |cons a l=>simp[Instr.findNow,Instr.sameNow]
   have hask:∀(es:List MapEntry) (ks:List (Int×Int)) (i:Nat),es.map (·.key)=ks.map Ky.val->(Instr.findAsking kt (Ky.val k) es i).run P w= .ok ((ks.findIdx? (· =k)).bind λj=>(es[j]?).map λe=>(i+j,e.val)) w:=by
     intro es
     induction es with
     |nil=>
       intro ks i h
       have:ks=[]:=by cases ks<;>simp at h ⊢
       subst this;simp[Instr.findAsking]
     |cons a l ih=>
       intro ks i h
       cases ks with
       |nil=>simp at h
       |cons q ks=>
         simp only[List.map_cons,List.cons.injEq] at h
         obtain⟨ha,hl⟩:=h
         have heq':(Op.equal kt (Ky.val k) a.key).run P w= .ok (decide (k=q)) w:=by rw[ha];exact heq1 k q
         by_cases hkq:k=q
         · subst hkq
           simp[Instr.findAsking,heq',List.findIdx?_cons]
         · have hqk:¬q=k:=λh=>hkq h.symm
           have ih':=ih ks (i+1) hl
           simp[Instr.findAsking,heq',hkq,List.findIdx?_cons,hqk,ih']
           cases ks.findIdx? (λx=>decide (x=k)) with
           |none=>rfl
           |some j=>simp[Nat.add_comm 1 j,Nat.add_assoc]
   simp only[Instr.findKey,Sem.run_bind,aS ht,Result.andThen_ok]
   cases es with
   |nil=>
     have:ks=[]:=by cases ks<;>simp at hm ⊢
     subst this;simp[Instr.findNow]
   |cons a l=>
     rw[hfn (a::l) 0 (by simp) (λe he=>by
       have:e.key∈(a::l).map (·.key):=List.mem_map_of_mem he
       rw[hm] at this
       obtain⟨q,_,hq⟩:=List.mem_map.1 this
       exact⟨_,hq.symm⟩)]
     simp only[hask (a::l) ks 0 hm,Nat.zero_add]
 bits k:=by
   show Instr.sameBits (9999+1) _ _=true
   simp[Ky.val,Instr.sameBits]
def zz(x:Int):Nat:=if 0<=x then 2*x.toNat else 2*(-x).toNat+1
theorem uS{x y:Int}(h:zz x=zz y):x=y:=by
 unfold zz at h
 split at h<;>split at h<;>omega
def iL(q:Int×Int):Nat:=(zz q.1+zz q.2)*(zz q.1+zz q.2)+zz q.1
theorem uO{a b c d:Nat}(h:(a+b)*(a+b)+a=(c+d)*(c+d)+c):a=c/\b=d:=by
 have lt:∀{a b c d:Nat},a+b<c+d->(a+b)*(a+b)+a<(c+d)*(c+d)+c:=λ {a b c d} hl=>by
   have h1:(a+b+1)*(a+b+1)<=(c+d)*(c+d):=Nat.mul_le_mul hl hl
   have h2:(a+b+1)*(a+b+1)=(a+b)*(a+b)+2*(a+b)+1:=by
     generalize a+b=s
     rw[Nat.add_mul,Nat.mul_add];omega
   omega
 rcases Nat.lt_trichotomy (a+b) (c+d) with hl|hl|hl
 · have:=lt hl;omega
 · rw[hl] at h;omega
 · have:=lt hl;omega
theorem tL{p q:Int×Int}(h:iL p=iL q):p=q:=by
 obtain⟨h1,h2⟩:=uO h
 exact Prod.ext (uS h1) (uS h2)
structure fK(K:Type) where
 key:K
 val:Value
 born:Nat
def fY{K:Type}[Ky K](e:fK K):MapEntry:={key:=Ky.val e.key,val:=e.val,born:=e.born}
def j4{K:Type}[DecidableEq K](es:List (fK K))(k:K):Value:=((es.find? λe=>decide (e.key=k)).map (·.val)).getD (.slice none 0 0)
structure As{K:Type}(es:List (fK K))(clock:Nat):Prop where
 keys:(es.map (·.key)).Nodup
 born:(es.map (·.born)).Nodup
 lt:∀e∈es,e.born<clock
def Vp{K:Type}[DecidableEq K][Ky K](γ:aH)(J:cd->Prop)(w:World)(v:Value)(F:K->Value):Prop:=
 ∃(r:Nat) (es:List (fK K)) (clock:Nat),v= .map (some r)/\J (γ r)/\w.heap[r]? =some (.map (es.map fY).toArray clock)/\As es clock/\F=j4 es
def zw{K:Type}[DecidableEq K][Ky K](γ:aH)(J:cd->Prop)(w:World)(v:Value)(F:K->Value)(s:Int)(k:K):Prop:=
 ∃(r:Nat) (es:List (fK K)) (clock:Nat),v= .map (some r)/\J (γ r)/\w.heap[r]? =some (.map (es.map fY).toArray clock)/\As es clock/\F=j4 es/\∃(i:Nat) (e:fK K),es[i]? =some e/\e.key=k/\(e.born:Int)=s
section
variable{K:Type}[DecidableEq K][Ky K]{γ γ':aH}{J J':cd->Prop}{w w':World}{v:Value}{F:K->Value}{s:Int}{k:K}
theorem Vp.chg(h:Vp γ J w v F)(hc:b5 J' γ w γ' w')(hJ:∀c,J c->¬J' c):Vp γ' J w' v F:=by
 obtain⟨r,es,clock,h1,h2,h3,h4⟩:=h
 exact⟨r,es,clock,h1,by rw[hc.col r (cO h3) (hJ _ h2)];exact h2,by rw[hc.keep r (cO h3) (hJ _ h2)];exact h3,h4⟩
theorem zw.chg(h:zw γ J w v F s k)(hc:b5 J' γ w γ' w')(hJ:∀c,J c->¬J' c):zw γ' J w' v F s k:=by
 obtain⟨r,es,clock,h1,h2,h3,h4⟩:=h
 exact⟨r,es,clock,h1,by rw[hc.col r (cO h3) (hJ _ h2)];exact h2,by rw[hc.keep r (cO h3) (hJ _ h2)];exact h3,h4⟩
theorem Vp.bel(h:Vp γ J w v F)(hc:dd w.heap.size w w'):Vp γ J w' v F:=by
 obtain⟨r,es,clock,h1,h2,h3,h4⟩:=h
 exact⟨r,es,clock,h1,h2,by rw[hc.block r (cO h3)];exact h3,h4⟩
theorem mh(es:List (fK K))(k:K):(((es.map (·.key)).findIdx? (· =k)).bind λi=>((es.map fY)[i]?).map λe=>(i,e.val))=((es.map (·.key)).findIdx? (· =k)).map λi=>(i,j4 es k):=by
 cases h:(es.map (·.key)).findIdx? (· =k) with
 |none=>rfl
 |some i=>
   obtain⟨hi,hk,hlt⟩:=List.findIdx?_eq_some_iff_getElem.1 h
   have hi':i<es.length:=by simpa using hi
   have hke:es[i].key=k:=by simpa using hk
   have hf:es.find? (λe=>decide (e.key=k))=some es[i]:=by
     rw[List.find?_eq_some_iff_getElem]
     refine⟨by simpa using hke,i,hi',rfl,λj hj=>?_⟩
     have:=hlt j hj
     simpa using this
   simp[hi',fY,j4,hf]
end
section
variable{P:Program}{f:Fr}{w:World}{dst:Option Tmp}{ty:TypeId}{pos:String}{after:Array Edge}{g:Option (Nat×Bool)}{t:TypeId}{x y z:Operand}{N:Value->World->Prop}
theorem sf{K:Type}[DecidableEq K][Ky K]{γ:aH}{J:cd->Prop}{v u:Value}{F:K->Value}{kt et size bytes:Nat}{agg:Bool}(k:K)(ht:P.underlying t=some (.map kt et))(hk:qY P kt K)(he:Tp P et agg size bytes (.slice none 0 0))(hx:ev f x=v)(hm:Vp γ J w v F)(hy:ev f y=u)(hu:u=Ky.val k):
   (execOp (ev f) ⟨dst,.lookup t x y false,ty,pos,after,g⟩).run P w= .ok (.value (F k)) w:=by
 obtain⟨r,es,clock,rfl,hJ,hb,hok,rfl⟩:=hm
 obtain⟨i,hi,_,_,hz⟩:=he.info
 subst hu
 have hf:=hk.find k (es.map fY) (es.map (·.key)) w (by simp[fY,Function.comp_def])
 rw[mh] at hf
 cases h:(es.map (·.key)).findIdx? (· =k) with
 |none=>
   rw[h] at hf
   have h0:j4 es k= .slice none 0 0:=by
     have hn:es.find? (λe=>decide (e.key=k))=none:=by
       rw[List.find?_eq_none]
       intro e he
       have:=List.findIdx?_eq_none_iff.1 h (e.key) (List.mem_map_of_mem he)
       simpa using this
     simp[j4,hn]
   simp[execOp,hx,hy,Instr.lookup,aS ht,dJ hb,hk.check,hf,fg hi hz,h0]
 |some i=>
   rw[h] at hf
   simp[execOp,hx,hy,Instr.lookup,aS ht,dJ hb,hk.check,hf]
theorem nY{K:Type}[DecidableEq K][Ky K]{γ:aH}{J:cd->Prop}{v u:Value}{F:K->Value}{kt et size bytes:Nat}{agg:Bool}(k:K)(ht:P.underlying t=some (.map kt et))(hk:qY P kt K)(he:Tp P et agg size bytes (.slice none 0 0))(hx:ev f x=v)(hm:Vp γ J w v F)(hy:ev f y=u)(hu:u=Ky.val k)
   (hn:∀w' s,b5 J γ w γ w'->zw γ J w' v F s k->N (.tuple (List.toArray [F k,.int .i64 s])) w'):gF P ⟨dst,.mapEntry t x y,ty,pos,after,g⟩ f w N:=by
 obtain⟨r,es,clock,rfl,hJ,hb,hok,rfl⟩:=hm
 obtain⟨q,hi,_,_,hz⟩:=he.info
 subst hu
 have hf:=hk.find k (es.map fY) (es.map (·.key)) w (by simp[fY,Function.comp_def])
 rw[mh] at hf
 cases h:(es.map (·.key)).findIdx? (· =k) with
 |none=>
   rw[h] at hf
   have hnk:∀e∈es,e.key≠k:=λe he=>by
     have:=List.findIdx?_eq_none_iff.1 h (e.key) (List.mem_map_of_mem he)
     simpa using this
   have h0:j4 es k= .slice none 0 0:=by
     have hn:es.find? (λe=>decide (e.key=k))=none:=by
       rw[List.find?_eq_none]
       intro e he
       simpa using hnk e he
     simp[j4,hn]
   refine bJ (v:=.tuple (List.toArray [j4 es k,.int .i64 (clock:Int)])) (w':={w with heap:=w.heap.setIfInBounds r (.map ((es++[(⟨k,.slice none 0 0,clock⟩:fK K)]).map fY).toArray (clock+1))}) ?_ ?_
   rotate_left
   · refine hn _ _ (j5 γ _ hJ) ⟨r,es++[⟨k,.slice none 0 0,clock⟩],clock+1,rfl,hJ,io hb,⟨?_,?_,?_⟩,?_,es.length,⟨k,.slice none 0 0,clock⟩,by simp,rfl,rfl⟩
     rotate_left 3
     · funext k'
       simp only[j4,List.find?_append]
       by_cases hkk:k=k'
       · subst hkk
         have hn:es.find? (λe=>decide (e.key=k))=none:=by
           rw[List.find?_eq_none]
           intro e he
           simpa using hnk e he
         simp[hn]
       · cases es.find? (λe=>decide (e.key=k'))<;>simp[hkk]
     · rw[List.map_append,List.nodup_append]
       refine⟨hok.keys,by simp,λa ha b hb=>?_⟩
       obtain⟨e,he,rfl⟩:=List.mem_map.1 ha
       have:b=k:=by simpa using hb
       subst this;exact hnk e he
     · rw[List.map_append,List.nodup_append]
       refine⟨hok.born,by simp,λa ha b hb=>?_⟩
       obtain⟨e,he,rfl⟩:=List.mem_map.1 ha
       have:b=clock:=by simpa using hb
       subst this;exact Nat.ne_of_lt (hok.lt e he)
     · intro e he
       rcases List.mem_append.1 he with h|h
       · exact Nat.lt_succ_of_lt (hok.lt e h)
       · obtain rfl:=List.mem_singleton.1 h;exact Nat.lt_succ_self _
   · simp[execOp,hx,hy,Instr.mapEntry,aS ht,dJ hb,hk.check,hf,fg hi hz,fJ hb,h0,fY,goInt]
 |some i=>
   rw[h] at hf
   obtain⟨hil,hke,_⟩:=List.findIdx?_eq_some_iff_getElem.1 h
   have hi':i<es.length:=by simpa using hil
   have hke':es[i].key=k:=by simpa using hke
   have hsame:(es.map fY).modify i (λe=>{e with key:=Ky.val k})=es.map fY:=by
     apply List.ext_getElem?
     intro j
     rw[List.getElem?_modify]
     by_cases hij:i=j
     · subst hij;simp[hi',fY,hke']
     · simp[hij]
   refine bJ (v:=.tuple (List.toArray [j4 es k,.int .i64 ((es[i].born:Nat):Int)])) (w':={w with heap:=w.heap.setIfInBounds r (.map (es.map fY).toArray clock)}) ?_
     (hn _ _ (j5 γ _ hJ) ⟨r,es,clock,rfl,hJ,io hb,hok,rfl,i,es[i],by simp,hke',rfl⟩)
   have hkb:=hk.bits k
   have hold:(Instr.keyThatStays (Ky.val k) (Ky.val k)).run P w= .ok (Ky.val k) w:=by simp[Instr.keyThatStays,hkb]
   simp[execOp,hx,hy,Instr.mapEntry,aS ht,dJ hb,hk.check,hf,hi',fY,hke',hold,fJ hb,goInt]
   rw[hsame]
theorem lZ{K:Type}[DecidableEq K][Ky K]{γ:aH}{J:cd->Prop}{v m:Value}{F:K->Value}{s:Int}{k:K}(hx:ev f x=v)(hm:zw γ J w v F s k)(hy:ev f y= .int .i64 s)(hz:ev f z=m)
   (hn:∀w',b5 J γ w γ w'->Vp γ J w' v (λk'=>if k'=k then m else F k')->N undef w'):gF P ⟨dst,.entryStore t x y z,ty,pos,after,g⟩ f w N:=by
 obtain⟨r,es,clock,rfl,hJ,hb,hok,rfl,i,e,hie,rfl,rfl⟩:=hm
 have hi':i<es.length:=(List.getElem?_eq_some_iff.1 hie).1
 have hei:es[i]=e:=(List.getElem?_eq_some_iff.1 hie).2
 have hfi:((es.map fY).toArray.findIdx? (λq=>(q.born:Int)==(e.born:Int)))=some i:=by
   rw[List.findIdx?_toArray,List.findIdx?_eq_some_iff_getElem]
   refine⟨by simpa using hi',by simp[fY,hei],λj hj=>?_⟩
   have hj':j<es.length:=by omega
   have hne:es[j].born≠e.born:=λh=>by
     have h1:(es.map (·.born))[j]'(by simpa using hj')=(es.map (·.born))[i]'(by simpa using hi'):=by simp[hei,h]
     have:=(List.getElem_inj hok.born).1 h1
     omega
   simp[fY]
   omega
 have hmod:(es.map fY).modify i (λq=>{q with val:=m})=(es.modify i (λq=>{q with val:=m})).map fY:=by
   apply List.ext_getElem?
   intro j
   rw[List.getElem?_modify,List.getElem?_map,List.getElem?_map,List.getElem?_modify]
   by_cases hij:i=j
   · subst hij;simp[hi',fY]
   · simp[hij]
 have hkeys:(es.modify i (λq=>{q with val:=m})).map (·.key)=es.map (·.key):=by
   apply List.ext_getElem?
   intro j
   rw[List.getElem?_map,List.getElem?_map,List.getElem?_modify]
   by_cases hij:i=j
   · subst hij;simp[hi']
   · simp[hij]
 have hborn:(es.modify i (λq=>{q with val:=m})).map (·.born)=es.map (·.born):=by
   apply List.ext_getElem?
   intro j
   rw[List.getElem?_map,List.getElem?_map,List.getElem?_modify]
   by_cases hij:i=j
   · subst hij;simp[hi']
   · simp[hij]
 refine i4 (w':={w with heap:=w.heap.setIfInBounds r (.map ((es.modify i (λq=>{q with val:=m})).map fY).toArray clock)}) ?_
   (hn _ (j5 γ _ hJ) ⟨r,es.modify i (λq=>{q with val:=m}),clock,rfl,hJ,io hb,⟨by rw[hkeys];exact hok.keys,by rw[hborn];exact hok.born,λq hq=>?_⟩,?_⟩)
 · simp[execOp,hx,hy,hz,Instr.entryStore,dJ hb,asInt,asIntOf,hfi,fJ hb]
   rw[<-hmod]
 · have:q.born∈es.map (·.born):=by rw[<-hborn];exact List.mem_map_of_mem hq
   obtain⟨q',hq',he'⟩:=List.mem_map.1 this
   rw[<-he'];exact hok.lt q' hq'
 · funext k'
   have hfind:∀(l:List (fK K)),(l.map (·.key)).Nodup->∀j (hj:j<l.length),j4 l l[j].key=l[j].val:=by
     intro l hl j hj
     have hf:l.find? (λe=>decide (e.key=l[j].key))=some l[j]:=by
       rw[List.find?_eq_some_iff_getElem]
       refine⟨by simp,j,hj,rfl,λq hq=>?_⟩
       have hne:l[q].key≠l[j].key:=λh=>by
         have h1:(l.map (·.key))[q]'(by simp;omega)=(l.map (·.key))[j]'(by simpa using hj):=by simp[h]
         have:=(List.getElem_inj hl).1 h1
         omega
       simpa using hne
     simp[j4,hf]
   by_cases hkk:k'=e.key
   · subst hkk
     rw[if_pos rfl]
     have h1:=hfind (es.modify i (λq=>{q with val:=m})) (by rw[hkeys];exact hok.keys) i (by simpa using hi')
     simp[List.getElem_modify,hei] at h1
     exact h1.symm
   · rw[if_neg hkk]
     have hfe:(es.modify i (λq=>{q with val:=m})).find? (λe=>decide (e.key=k'))=es.find? (λe=>decide (e.key=k')):=by
       have hgen:∀(l:List (fK K)) (i:Nat) (e:fK K),l[i]? =some e->k'≠e.key->(l.modify i (λq=>{q with val:=m})).find? (λe=>decide (e.key=k'))=l.find? (λe=>decide (e.key=k')):=by
         intro l
         induction l with
         |nil=>intro i e h;simp at h
         |cons a l ih=>
           intro i e h hne
           cases i with
           |zero=>
             obtain rfl:a=e:=by simpa using h
             have:decide (a.key=k')=false:=by simpa using λh=>hne h.symm
             simp[List.find?_cons,this]
           |succ i=>
             have h':l[i]? =some e:=by simpa using h
             simp only[List.modify_succ_cons,List.find?_cons,ih i e h' hne]
       exact hgen es i e hie hkk
     simp[j4,hfe]
end
def Ml{α:Type}[Rp α](γ:aH)(i:Nat)(w:World)(v:Value)(L:(Int×Int)->List α):Prop:=
  ∃F:(Int×Int)->Value,Vp γ (row i 0) w v F/\∀q,Ow γ (row i (iL q+1)) (row i (iL q+1)) w (F q) (L q)
def xY{α:Type}[Rp α](γ:aH)(i:Nat)(w:World)(v:Value)(L:(Int×Int)->List α)(s:Int)(k:Int×Int):Prop:=
  ∃F:(Int×Int)->Value,zw γ (row i 0) w v F s k/\∀q,q≠k->Ow γ (row i (iL q+1)) (row i (iL q+1)) w (F q) (L q)
section
variable{α:Type}[Rp α]{γ γ':aH}{i:Nat}{w w':World}{v:Value}{L:(Int×Int)->List α}{s:Int}{k:Int×Int}
theorem Ml.chg{J:cd->Prop}(h:Ml γ i w v L)(hc:b5 J γ w γ' w')(hJ:∀c,is i c->¬J c):Ml γ' i w' v L:=by
 obtain⟨F,h1,h2⟩:=h
 exact⟨F,h1.chg hc λc h=>hJ c (d5 c h),λq=>(h2 q).chg hc (λc h=>hJ c (d5 c h)) (λc h=>hJ c (d5 c h))⟩
theorem xY.chg{J:cd->Prop}(h:xY γ i w v L s k)(hc:b5 J γ w γ' w')(hJ:∀c,is i c->¬J c):xY γ' i w' v L s k:=by
 obtain⟨F,h1,h2⟩:=h
 exact⟨F,h1.chg hc λc h=>hJ c (d5 c h),λq hq=>(h2 q hq).chg hc (λc h=>hJ c (d5 c h)) (λc h=>hJ c (d5 c h))⟩
theorem xY.rowchg(h:xY γ i w v L s k)(hc:b5 (row i (iL k+1)) γ w γ' w'):xY γ' i w' v L s k:=by
 obtain⟨F,h1,h2⟩:=h
 refine⟨F,h1.chg hc (cE (by omega)),λq hq=>?_⟩
 have:iL q+1≠iL k+1:=λe=>hq (tL (by omega))
 exact(h2 q hq).chg hc (cE this) (cE this)
theorem yN[Fl α](h:Ml γ i w v L)(k:Int×Int):∃F:(Int×Int)->Value,Vp γ (row i 0) w v F/\Sl γ (is i) w (F k) (L k):=by
  obtain⟨F,h1,h2⟩:=h
  exact⟨F,h1,(h2 k).row_sl⟩
variable{P:Program}{f:Fr}{dst:Option Tmp}{ty:TypeId}{pos:String}{after:Array Edge}{g:Option (Nat×Bool)}{t:TypeId}{x y z:Operand}{N:Value->World->Prop}
theorem pK(γ:aH)(i:Nat)(hk:∀γ' w' v,b5 no γ w γ' w'->Ml (α:=α) γ' i w' v (λ_=>[])->N v w'):gF P ⟨dst,.makeMap t none,ty,pos,after,g⟩ f w N:=by
 refine bJ (v:=.map (some w.heap.size)) (w':=w.alloc (.map #[] 0)) (by simp[execOp,Instr.makeMap]) (hk (iI γ w.heap.size (i,0)) _ _ (gz γ w _ (i,0)) ⟨λ_=>.slice none 0 0,⟨w.heap.size,[],0,rfl,by simp[iI,row],by rw[dC];rfl,⟨by simp,by simp,by simp⟩,?_⟩,λq=>Ow.nil⟩)
 funext k;simp[j4]
theorem oM{u:Value}{kt et size bytes:Nat}{agg:Bool}(k:Int×Int)(ht:P.underlying t=some (.map kt et))(hk:qY P kt (Int×Int))(he:Tp P et agg size bytes (.slice none 0 0))(hx:ev f x=v)(hm:Ml γ i w v L)(hy:ev f y=u)(hu:u=Ky.val k)
   (hn:∀w' s q,b5 (row i 0) γ w γ w'->xY γ i w' v L s k->Ow γ (row i (iL k+1)) (row i (iL k+1)) w' q (L k)->N (.tuple (List.toArray [q,.int .i64 s])) w'):gF P ⟨dst,.mapEntry t x y,ty,pos,after,g⟩ f w N:=by
 obtain⟨F,h1,h2⟩:=hm
 refine nY k ht hk he hx h1 hy hu λw' s hc hv=>hn w' s (F k) hc ⟨F,hv,λq _=>(h2 q).chg hc (cE (by omega)) (cE (by omega))⟩ ((h2 k).chg hc (cE (by omega)) (cE (by omega)))
theorem m8{m:Value}{l:List α}(hx:ev f x=v)(hm:xY γ i w v L s k)(hy:ev f y= .int .i64 s)(hz:ev f z=m)(ho:Ow γ (row i (iL k+1)) (row i (iL k+1)) w m l)
   (hn:∀w',b5 (row i 0) γ w γ w'->Ml γ i w' v (λq=>if q=k then l else L q)->N undef w'):gF P ⟨dst,.entryStore t x y z,ty,pos,after,g⟩ f w N:=by
 obtain⟨F,h1,h2⟩:=hm
 refine lZ hx h1 hy hz λw' hc hv=>hn w' hc ⟨_,hv,λq=>?_⟩
 by_cases e:q=k
 · subst e
   simp only[if_true]
   exact ho.chg hc (cE (by omega)) (cE (by omega))
 · simp only[if_neg e]
   exact(h2 q e).chg hc (cE (by omega)) (cE (by omega))
end
end TL
namespace TL
open Go
section
variable{α:Type}[Rp α]{γ γ':aH}{w w':World}{v:Value}{L:List Nat}{j k:Nat}{F:(Int×Int)->List α}
theorem Ml.ca(h:Ml γ j w v F)(hc:b5 (inl L) γ w γ' w')(hj:L.contains j=false:=by exact rfl):Ml γ' j w' v F:=h.chg hc (bA hj)
theorem Ml.ce(h:Ml γ j w v F)(hc:b5 (is k) γ w γ' w')(hj:Nat.beq j k=false:=by exact rfl):Ml γ' j w' v F:=h.chg hc (fm hj)
theorem Ml.cn(h:Ml γ j w v F)(hc:b5 no γ w γ' w'):Ml γ' j w' v F:=h.chg hc (i5 _)
end
end TL
/-
  TlJudge2: what is told of a plot; its rotation.
  By an AI agent.
-/
set_option linter.all false
namespace TL
def bk(p:dp):List Pt:=p.1++p.2.flatten
theorem t7{p:dp}{l:List Pt}{k:Nat}(h:l=p.1++(p.2.take k).flatten/\(l.length:Int)<=1024+4096*(k:Int))(hk:(k:Int)<p.2.length)(hl:(gI p.2 (k:Int)).length<=4096):l++gI p.2 (k:Int)=p.1++(p.2.take (k+1)).flatten/\((l++gI p.2 (k:Int)).length:Int)<=1024+4096*((k+1:Nat):Int):=by
 refine⟨by rw[bC hk,h.1];simp,?_⟩
 rw[List.length_append];have:=h.2;omega
theorem vK{p:dp}{l:List Pt}{k:Nat}(h:l=p.1++(p.2.take k).flatten)(hk:¬(k:Int)<p.2.length):l=bk p:=by
 rw[List.take_of_length_le (by omega)] at h;exact h
def ib(p:dp):Nat->Int
 |0=>0
 |k+1=>ib p k+(((gI p.2 (k:Int)).length:Int)-2)
theorem nK{p:dp}(h:∀e:Int,0<=e->e<p.2.length->2<=((gI p.2 e).length:Int)/\dW (gI p.2 e)):∀k:Nat,(k:Int)<=p.2.length->0<=ib p k/\ib p k<=4096*(k:Int)
 |0,_=>by simp[ib]
 |k+1,hk=>by
   have h1:=nK h k (by omega)
   obtain⟨h2,h3,_⟩:=h (k:Int) (by omega) (by omega)
   unfold ib;omega
def gK(f:Nat->Bool):Nat->Bool
 |0=>true
 |k+1=>gK f k&&f k
def pD(l:List Pt)(j:Nat):Bool:=decide ((gI l (j:Int)).1=(gI l ((j:Int)+1)).1\/(gI l (j:Int)).2=(gI l ((j:Int)+1)).2)
def Af(p:dp)(e:Nat):Bool:=gK (pD (gI p.2 (e:Int))) ((gI p.2 (e:Int)).length-1)
def ml(p:dp)(k:Nat):Bool:=gK (Af p) k
section
variable{p:dp}{l:List Pt}{a b:Bool}{i k:Nat}
theorem xw(h:a=ml p k):1<=(1:Nat)/\a=(ml p k&&gK (pD l) (1-1)):=⟨Nat.le_refl _,by rw[h];simp[gK]⟩
theorem Ap(h:1<=i/\a=(ml p k&&gK (pD l) (i-1)))(ha:a=true)(hx:(gI l ((i:Int)-1)).1=(gI l (i:Int)).1):1<=i+1/\true=(ml p k&&gK (pD l) (i+1-1)):=by
 obtain⟨h1,h2⟩:=h
 refine⟨by omega,?_⟩
 obtain⟨j,rfl⟩:∃j,i=j+1:=⟨i-1,by omega⟩
 have e:(((j+1:Nat):Int)-1)=(j:Int):=by omega
 have e2:((j+1:Nat):Int)=(j:Int)+1:=by omega
 rw[e,e2] at hx
 rw[Nat.add_sub_cancel,gK,<-Bool.and_assoc]
 rw[Nat.add_sub_cancel] at h2
 rw[<-h2,ha]
 unfold pD
 rw[decide_eq_true (.inl hx)];rfl
theorem Ao(h:1<=i/\a=(ml p k&&gK (pD l) (i-1)))(ha:a=true)(hx:¬(gI l ((i:Int)-1)).1=(gI l (i:Int)).1):1<=i+1/\decide ((gI l ((i:Int)-1)).2=(gI l (i:Int)).2)=(ml p k&&gK (pD l) (i+1-1)):=by
 obtain⟨h1,h2⟩:=h
 refine⟨by omega,?_⟩
 obtain⟨j,rfl⟩:∃j,i=j+1:=⟨i-1,by omega⟩
 have e:(((j+1:Nat):Int)-1)=(j:Int):=by omega
 have e2:((j+1:Nat):Int)=(j:Int)+1:=by omega
 rw[e,e2] at hx ⊢
 rw[Nat.add_sub_cancel,gK,<-Bool.and_assoc]
 rw[Nat.add_sub_cancel] at h2
 rw[<-h2,ha]
 unfold pD
 rw[Bool.true_and,decide_eq_decide]
 exact⟨.inr,λh=>h.resolve_left hx⟩
theorem Ac(h:1<=i/\a=(ml p k&&gK (pD l) (i-1)))(ha:¬a=true):1<=i+1/\false=(ml p k&&gK (pD l) (i+1-1)):=by
 obtain⟨h1,h2⟩:=h
 refine⟨by omega,?_⟩
 obtain⟨j,rfl⟩:∃j,i=j+1:=⟨i-1,by omega⟩
 rw[Nat.add_sub_cancel,gK,<-Bool.and_assoc]
 rw[Nat.add_sub_cancel] at h2
 rw[<-h2,Bool.eq_false_iff.2 ha];rfl
theorem yD(hb:b=ml p k)(h:1<=i/\a=(ml p k&&gK (pD (gI p.2 (k:Int))) (i-1)))(hi:¬(i:Int)<(gI p.2 (k:Int)).length)(hi2:(i:Int)<=(gI p.2 (k:Int)).length):a=ml p (k+1):=by
 have:i=(gI p.2 (k:Int)).length:=by omega
 rw[h.2,this];rfl
end
def rg(p:dp):Int×Int:=
 if 0<((bk p).length:Int) then((sO (bk p) (bk p).length).1-(sL (bk p) (bk p).length).1,(sO (bk p) (bk p).length).2-(sL (bk p) (bk p).length).2) else(0,0)
def ms(p:dp):Int×Int×Int×Bool×Bool:=(ib p p.2.length,(rg p).1,(rg p).2,decide (ib p p.2.length=0),ml p p.2.length)
def bf(g:bG)(p:dp):(Int×Int×Int×Bool×Bool)×Int:=
 if bF g then if bZ g p=[] then(ms p,0) else((0,0,0,false,false),24) else((0,0,0,false,false),1)
section
variable{g:bG}{p:dp}
theorem zc(h:zW g p):∀q∈bk p,cI q:=by
 intro q hq
 unfold bk at hq
 rcases List.mem_append.1 hq with hq|hq
 · obtain⟨i,hi,rfl⟩:=List.mem_iff_getElem.1 hq
   have:=h.pt (i:Int) (by omega) (by omega)
   rwa[show gI p.1 (i:Int)=p.1[i] by simp[gI,hi]] at this
 · obtain⟨l,hl,hq⟩:=List.mem_flatten.1 hq
   obtain⟨i,hi,rfl⟩:=List.mem_iff_getElem.1 hl
   have:=(h.ln (i:Int) (by omega) (by omega)).2.2
   rw[show gI p.2 (i:Int)=p.2[i] by simp[gI,hi]] at this
   exact this q hq
theorem xH{l:List Pt}(h:∀q∈l,cI q)(h0:0<l.length):∀k:Nat,k<=l.length->cI (sL l k)/\cI (sO l k)
 |0,_=>⟨h _ (aR (by omega) (by omega)),h _ (aR (by omega) (by omega))⟩
 |k+1,hk=>by
   obtain⟨h1,h2⟩:=xH h h0 k (by omega)
   have h3:=h _ (aR (xs:=l) (i:=(k:Int)) (by omega) (by omega))
   unfold sL sO
   unfold cI at*
   simp only
   omega
theorem uc(h:¬bF g):bf g p=((0,0,0,false,false),1):=by unfold bf;rw[if_neg h]
theorem rh(h:bF g){F:List cv}(hF:F=bZ g p)(h1:0<(F.length:Int)):bf g p=((0,0,0,false,false),24):=by
 unfold bf
 rw[if_pos h,if_neg]
 intro e
 rw[hF,e] at h1
 simp at h1
theorem nn(h:bF g)(h1:bZ g p=[]):bf g p=(ms p,0):=by unfold bf;rw[if_pos h,if_pos h1]
theorem zj{n:Int}{a:Bool}{k q:Nat}{x1 x2 y1 y2:Int}(hn:n=ib p k)(ha:a=ml p k)(hk:k=p.2.length)(h0:0<((bk p).length:Int))(hb:(x1=(sL (bk p) q).1/\x2=(sL (bk p) q).2)/\y1=(sO (bk p) q).1/\y2=(sO (bk p) q).2)(hq:q=(bk p).length):
   (n,y1-x1,y2-x2,decide (n=0),a)=ms p:=by
 obtain⟨⟨e1,e2⟩,e3,e4⟩:=hb
 subst hk hq
 unfold ms rg
 rw[if_pos h0,hn,ha,e1,e2,e3,e4]
theorem yV{n:Int}{a:Bool}{k:Nat}(hn:n=ib p k)(ha:a=ml p k)(hk:k=p.2.length)(h0:¬0<((bk p).length:Int)):(n,0,0,decide (n=0),a)=ms p:=by
 subst hk
 unfold ms rg
 rw[if_neg h0,hn,ha]
end
def dF(p:dp)(l:List Int):List Pt:=l.map (dn p)
noncomputable def tuL (p:dp) (o:Pt) (l:List Int):List Int:=(arL o (dF p l)).map (gI l)
def lD(p:dp)(o:Pt)(l:List Int):Prop:=∃j:Nat,j<l.length/\0<j/\d8 (aG (gI (dF p l) (gI (arL o (dF p l)) ((j:Int)-1))) o) (aG (gI (dF p l) (gI (arL o (dF p l)) (j:Int))) o)
noncomputable instance (p:dp) (o:Pt) (l:List Int):Decidable (lD p o l):=by unfold lD;infer_instance
noncomputable def tuS (g:bG) (p:dp):bY:=(List.range g.1.toNat).map λ(v:Nat)=>tuL p (gI p.1 (v:Int)) (bP g (v:Int))
def m5(g:bG)(p:dp):Prop:=∃v:Nat,v<g.1.toNat/\lD p (gI p.1 (v:Int)) (bP g (v:Int))
noncomputable instance (g:bG) (p:dp):Decidable (m5 g p):=by unfold m5;infer_instance
noncomputable def turnsR (g:bG) (p:dp):bY×Int:=
 if bF g then if cl g p=[] then if m5 g p then([],24) else(cG (tuS g p),0) else([],24) else([],1)
end TL
/-
  TlSort: the library's sort by a function, met in this frame.
  By an AI agent.
-/
set_option linter.all false
namespace TL
open Go Go.Proofs Go.Shelf Go.Sort Go.Lib
theorem dd.grown{w w':World}(h:dd w.heap.size w w'):∃q os,w'=grow (w.drewN q) os:=by
 obtain⟨h1,h2,h3,h4,h5,h6⟩:=h
 refine⟨w'.drawn-w.drawn,w'.heap.extract w.heap.size w'.heap.size,?_⟩
 have hh:w'.heap=w.heap++w'.heap.extract w.heap.size w'.heap.size:=by
   apply Array.ext_getElem?
   intro k
   rw[Array.getElem?_append]
   by_cases hk:k<w.heap.size
   · rw[if_pos hk];exact h5 k hk
   · rw[if_neg hk,Array.getElem?_extract]
     split
     · rw[show w.heap.size+(k-w.heap.size)=k by omega]
     · exact Array.getElem?_eq_none (by omega)
 have hd:w'.drawn=w.drawn+(w'.drawn-w.drawn):=by omega
 cases w with
 |mk a b c d e=>
   cases w' with
   |mk a' b' c' d' e'=>
     simp only[grow,World.drewN] at*
     subst h1 h2 h3
     simp only[World.mk.injEq,true_and,and_true]
     exact⟨hh,hd⟩
section
variable{α:Type}[Inhabited α]{γ:aH}{w:World}{j b:Nat}
theorem pb(enc:α->Value)(hb:is j (γ b))(m:Nat)(d:Array α)(os:Array Obj):b5 (is j) γ w γ (sortWorld enc w b 0 m d os):=by
 refine⟨rfl,rfl,rfl,?_,λ_ _ _=>rfl,λk hk hn=>?_,?_⟩
 · unfold sortWorld;rw[size_grow,Go.Sort.size_putRow];simp only[heap_ahead];omega
 · unfold sortWorld
   rw[heap_grow_old _ _ (by rw[Go.Sort.size_putRow];exact hk)]
   have:b≠k:=λe=>hn (by subst e;exact hb)
   simp[putRow,mapBlock,Array.getElem?_modify,this]
 · show w.drawn<=w.drawn+m
   omega
theorem rX(enc:α->Value){c:Array Value}{e:TypeId}{fr:Nat×Nat}(h:w.heap[b]? =some (.cells c e fr))(m:Nat)(d:Array α)(os:Array Obj):(sortWorld enc w b 0 m d os).heap[b]? =some (.cells (putCells enc 0 d c) e fr):=by
 unfold sortWorld
 rw[heap_grow_old _ _ (by rw[Go.Sort.size_putRow];exact cO h)]
 simp[putRow,mapBlock,Array.getElem?_modify,h,onCells]
theorem nT(enc:α->Value){d:Array α}{c:Array Value}{k:Nat}(h:k<d.size)(hc:k<c.size):(putCells enc 0 d c)[k]? =some (enc d[k]!):=by
 simp[putCells,h,hc]
end
theorem sB{P:Program}{ρ:Ren}(L:SlLaysF.n6 P ρ){α:Type}[Inhabited α](fe:α->Int)(cf:α->α->Int)(hO:SWO (ltOf cf))(g:Nat)(cb:Array Value)(eg:∀args w,(callFunc g args).run P w= .ok (.enter g args) w)
   {γ:aH}{w:World}{j:Nat}{v:Value}{ds:List α}(hne:ds≠[])(hl:Ow γ (is j) (is j) w v (ds.map fe))
   (hc:∀W,b5 (is j) γ w γ W->∀x y,Calls P g (#[.int .i64 (fe x),.int .i64 (fe y)]++cb) W λe w'=>e= .returned (.int .i64 (cf x y))/\dd W.heap.size W w'):
   Calls P (ρ.f 6) #[v,.func (.func g) #[] cb] w λe w'=>e= .returned (.tuple #[])/\∃ds':List α,ds'.Perm ds/\ds'.Pairwise (λx y=>ltOf cf y x=false)/\b5 (is j) γ w γ w'/\Ow γ (is j) (is j) w' v (ds'.map fe):=by
 rcases hl with⟨_,h⟩|⟨b,cap,c,e,rfl,hcap,hm,hJ,hb,hcs,hx⟩
 · simp at h;exact absurd h hne
 · simp only[List.length_map] at hcap
   have hsz1:Rp.sz Int=1:=rfl
   rw[hsz1,Nat.mul_one] at hcs
   have hbs:=cO hb
   have hlen:(ds.map fe).length=ds.toArray.size:=by simp
   have hget:∀i,i<ds.length->c[i]? =some (Value.int .i64 (fe ds.toArray[i]!)):=λi hi=>by
     obtain⟨cs,h1,h2⟩:=hx i (fe ds[i]) (by simp[hi])
     have h2:cs=[Value.int .i64 (fe ds[i])]:=h2
     have h1:=h1 0 (by decide)
     rw[h2] at h1
     simp only[hsz1,Nat.mul_one,Nat.add_zero] at h1
     rw[h1]
     simp[hi]
   have hH:Holds (λx:α=>Value.int .i64 (fe x)) w b 0 ds.toArray:=λi hi=>by
     have hi:i<ds.length:=by simpa using hi
     constructor
     · have:=hget i hi
       simp only[World.cell?,hb,Nat.zero_add]
       exact this
     · simp[World.frozen?,hb]
   have hcmp:CmpLays1 P g cb (λx:α=>Value.int .i64 (fe x)) cf b 0 ds.toArray.size w:=λm os dk hs x y=>
     (hc _ (pb _ hJ m dk os) x y).mono λe w' ⟨h1,h2⟩=>⟨h1,h2.grown⟩
   have key:=Any.slices_SortFunc L (λx:α=>Value.int .i64 (fe x)) (λ_=>rfl) cf hO g cb b 0 cap ds.toArray w eg hcmp hH hbs (by simp;omega)
   rw[hlen]
   refine key.mono λe' w' ⟨h1,d',n,os,hp,hs,hw⟩=>⟨h1,d'.toList,?_,?_,?_,?_⟩
   · obtain⟨q1,_,q3⟩:=hp
     rw[<-q1] at q3
     have e1:(d'.extract 0 d'.size)=d':=by simp
     rw[e1,q1] at q3
     have e2:(ds.toArray.extract 0 ds.toArray.size)=ds.toArray:=Array.extract_size
     rw[e2] at q3
     simpa using q3
   · rw[List.pairwise_iff_getElem]
     intro i k hi hk hik
     have hi:i<d'.size:=by simpa using hi
     have hk:k<d'.size:=by simpa using hk
     have:=hs i k (Nat.zero_le _) hik (by rw[<-hp.1];exact hk)
     rw[getElem!_pos d' k hk,getElem!_pos d' i hi] at this
     simpa using this
   · rw[hw];exact pb _ hJ n d' os
   · have hs':d'.size=ds.length:=by rw[hp.1];simp
     have hd:d'.toList.length=ds.length:=by simpa using hs'
     refine .inr ⟨b,cap,_,e,by rw[List.length_map,hd];simp,by rw[List.length_map,hd];exact hcap,hm,hJ,by rw[hw];exact rX _ hb n d' os,by rw[hsz1,Nat.mul_one];simpa[putCells] using hcs,λi x hi=>?_⟩
     have hi':i<d'.size:=by
       have:=(List.getElem?_eq_some_iff.1 hi).1
       simpa using this
     refine⟨[Value.int .i64 x],λq hq=>?_,rfl⟩
     have:q=0:=by have:q<1:=hq;omega
     subst this
     rw[hsz1,Nat.mul_one,Nat.add_zero,nT _ hi' (by rw[hcs];omega),getElem!_pos d' _ hi']
     simp[hi'] at hi
     simp[hi]
end TL
/-
  TlJudge3: a plot's rotation: the half-edges of each node, turned.
  By an AI agent.
-/
set_option linter.all false
namespace TL
theorem r9{α β:Type}[Inhabited α][Inhabited β]{f:α->β}{l:List α}{i:Int}(h0:0<=i)(h1:i<l.length):gI (l.map f) i=f (gI l i):=by
 have h:i.toNat<l.length:=by omega
 unfold gI
 rw[List.getD_eq_getElem?_getD,List.getD_eq_getElem?_getD,List.getElem?_map,List.getElem?_eq_getElem h];rfl
theorem ja{α:Type}[Inhabited α]{l:List α}{x:α}(h:x∈l):∃j:Nat,j<l.length/\gI l (j:Int)=x:=by
 obtain⟨j,hj,rfl⟩:=List.mem_iff_getElem.1 h
 exact⟨j,hj,by simp[gI,hj]⟩
section
variable{g:bG}{p:dp}
theorem jt{v h:Int}:h∈bP g v↔(0<=h/\h<2*(g.2.length:Int))/\aL g h=v:=by
 unfold bP gA
 rw[List.mem_filter,List.mem_map]
 constructor
 · rintro⟨⟨i,hi,rfl⟩,hf⟩
   have:=List.mem_range.1 hi
   exact⟨by omega,of_decide_eq_true hf⟩
 · rintro⟨h1,h2⟩
   exact⟨⟨h.toNat,List.mem_range.2 (by omega),by omega⟩,decide_eq_true h2⟩
theorem rT{v:Int}:(bP g v).Nodup:=by
 unfold bP gA
 refine List.Nodup.sublist List.filter_sublist ?_
 unfold List.Nodup
 rw[List.pairwise_map]
 refine List.Pairwise.imp ?_ List.nodup_range
 intro a b h e
 exact h (by omega)
theorem qD{v:Int}:((bP g v).length:Int)<=2*(g.2.length:Int):=by
 have:=mU g v g.2.length
 unfold bP;omega
theorem sE{r:bY}(hm:bF g)(hl:(r.length:Int)=g.1)(hrow:∀v:Nat,v<r.length->(gI r (v:Int)).Nodup/\∀h,h∈gI r (v:Int)↔(0<=h/\h<2*(g.2.length:Int))/\aL g h=v):cM g r:=by
 have hn:r.flatten.Nodup:=by
   unfold List.Nodup
   rw[List.pairwise_flatten]
   refine⟨λl hl=>?_,?_⟩
   · obtain⟨v,hv,rfl⟩:=ja hl
     exact(hrow v hv).1
   · rw[List.pairwise_iff_getElem]
     intro i j hi hj hij x hx y hy e
     subst e
     have e1:gI r (i:Int)=r[i]:=by simp[gI,hi]
     have e2:gI r (j:Int)=r[j]:=by simp[gI,hj]
     have h1:=((hrow i hi).2 x).1 (by rw[e1];exact hx)
     have h2:=((hrow j hj).2 x).1 (by rw[e2];exact hy)
     have:=h1.2.symm.trans h2.2
     omega
 refine⟨hl,λv hv h hh=>((hrow v hv).2 h).1 hh,hn,?_⟩
 have hp:r.flatten.Perm (bI (2*g.2.length)):=by
   rw[List.perm_ext_iff_of_nodup hn (eU _)]
   intro h
   rw[List.mem_flatten,cY]
   constructor
   · rintro⟨l,hl,hh⟩
     obtain⟨v,hv,rfl⟩:=ja hl
     have:=(((hrow v hv).2 h).1 hh).1
     omega
   · intro hh
     have hf:=lF hm (h:=h) (by omega) (by omega)
     have hv:(aL g h).toNat<r.length:=by omega
     refine⟨gI r (((aL g h).toNat:Nat):Int),aR (by omega) (by omega),((hrow _ hv).2 h).2 ⟨by omega,by omega⟩⟩
 have:=hp.length_eq
 rw[e9] at this
 omega
structure zl(g:bG)(p:dp):Prop where
  sh:zW g p
  pl:∀v w:Nat,v<w->w<p.1.length->gI p.1 (v:Int)≠gI p.1 (w:Int)
  en:∀e:Int,0<=e->e<p.2.length->lH g p e
  si:∀e:Int,0<=e->e<p.2.length->kP (gI p.2 e)
  nd:∀e v:Nat,e<p.2.length->v<p.1.length->(v:Int)≠(gI g.2 (e:Int)).1->(v:Int)≠(gI g.2 (e:Int)).2->¬fp (gI p.2 (e:Int)) (gI p.1 (v:Int))
  ap:∀e f:Nat,e<f->f<p.2.length->kg (gI p.2 (e:Int)) (gI p.2 (f:Int)) (jF g p (e:Int) (f:Int))
theorem nj:cl g p=[]↔zl g p:=by
 unfold cl
 by_cases hs:bZ g p=[]
 · rw[if_pos hs]
   have hsh:=km.1 hs
   rw[List.append_eq_nil_iff,List.append_eq_nil_iff]
   constructor
   · rintro⟨⟨h1,h2⟩,h3⟩
     rw[if_pos h2,List.append_eq_nil_iff] at h3
     unfold eI at h2
     rw[List.append_eq_nil_iff,c8,c8] at h2
     refine⟨hsh,λv w hvw hw e=>?_,λe h0 h4=>?_,λe h0 h4=>?_,λe v he hv hn1 hn2 ho=>?_,λe f hef hf=>?_⟩
     · have k1:=c8.1 h1 v (by omega)
       have k2:=c8.1 k1 w hw
       exact gO.1 k2 ⟨hvw,e⟩
     · have k1:=h2.1 e.toNat (by omega)
       have k2:=gO.1 k1
       rw[Int.toNat_of_nonneg h0] at k2
       exact Classical.not_not.1 k2
     · have k1:=h2.2 e.toNat (by omega)
       have k2:=gO.1 k1
       rw[Int.toNat_of_nonneg h0] at k2
       exact Classical.not_not.1 k2
     · have k1:=c8.1 h3.1 e he
       have k2:=c8.1 k1 v hv
       exact gO.1 k2 ⟨⟨hn1,hn2⟩,ho⟩
     · have k1:=c8.1 h3.2 e (by omega)
       have k2:=c8.1 k1 f hf
       exact Classical.not_not.1 λc=>gO.1 k2 ⟨hef,c⟩
   · intro h
     have hL:eI g p=[]:=by
       unfold eI
       rw[List.append_eq_nil_iff]
       exact⟨fw λe he=>dG (Classical.not_not.2 (h.en _ (by omega) (by omega))),fw λe he=>dG (Classical.not_not.2 (h.si _ (by omega) (by omega)))⟩
     refine⟨⟨fw λv hv=>fw λw hw=>dG λc=>h.pl v w c.1 hw c.2,hL⟩,?_⟩
     rw[if_pos hL,List.append_eq_nil_iff]
     exact⟨fw λe he=>fw λv hv=>dG λc=>h.nd e v he hv c.1.1 c.1.2 c.2,fw λe he=>fw λf hf=>dG λc=>c.2 (h.ap e f c.1 hf)⟩
 · rw[if_neg hs]
   exact⟨λh=>absurd h hs,λh=>absurd (km.2 h.sh) hs⟩
theorem n5(hm:bF g)(hc:zl g p){v h:Int}(hh:h∈bP g v):((0<=h/\h<2*(p.2.length:Int))/\2<=((gI p.2 (h/2)).length:Int))/\cI (dn p h)/\dn p h≠gI p.1 v:=by
  obtain⟨⟨h0,h1⟩,hf⟩:=jt.1 hh
  have hs:=hc.sh
  have hm2:=hs.m
  have e0:0<=h/2:=by omega
  have e1:h/2<p.2.length:=by omega
  obtain⟨l1,l2,l3⟩:=hs.ln _ e0 e1
  have hen:=hc.en _ e0 e1
  have hsi:=hc.si _ e0 e1
  refine⟨⟨⟨h0,by omega⟩,l1⟩,?_⟩
  unfold dn
  unfold lH at hen
  unfold aL pI at hf
  rcases(by omega:h%2=0\/h%2=1) with c|c
  · rw[if_pos c]
    rw[c] at hf
    refine⟨l3 _ (aR (by omega) (by omega)),λe=>?_⟩
    have k1:=(hsi 0 (by omega) (by omega)).1
    have hf':(gI g.2 (h/2)).1=v:=by simpa using hf
    rw[<-hf',<-hen.1] at e
    exact k1 e.symm
  · rw[if_neg (by omega)]
    rw[c] at hf
    refine⟨l3 _ (aR (by omega) (by omega)),λe=>?_⟩
    have k1:=(hsi ((gI p.2 (h/2)).length-2) (by omega) (by omega)).1
    have hf':(gI g.2 (h/2)).2=v:=by simpa using hf
    rw[<-hf',<-hen.2] at e
    rw[show(((gI p.2 (h/2)).length-2:Nat):Int)=((gI p.2 (h/2)).length:Int)-2 by omega,show((gI p.2 (h/2)).length:Int)-2+1=((gI p.2 (h/2)).length:Int)-1 by omega] at k1
    exact k1 e
theorem lU(hm:bF g)(hc:zl g p)(hfew:(g.2.length:Int)<=2000)(v:Int):dW (dF p (bP g v))/\jc (gI p.1 v) (dF p (bP g v)):=by
 have hl:=qD (g:=g) (v:=v)
 refine⟨⟨by unfold dF;rw[List.length_map];omega,λq hq=>?_⟩,λi hi=>?_⟩
 · obtain⟨h,hh,rfl⟩:=List.mem_map.1 hq
   exact(n5 hm hc hh).2.1
 · unfold dF at hi ⊢
   rw[List.length_map] at hi
   rw[r9 (by omega) (by omega)]
   exact(n5 hm hc (aR (by omega) (by omega))).2.2
theorem vG{o:Pt}{ps:List Pt}(hz:jc o ps):(arL o ps).Perm (fX ps.length):=by
 obtain⟨h1,h2⟩:=gE hz
 have n1:(arL o ps).Nodup:=List.Pairwise.imp (λ {a b} h e=>by subst e;exact fU _ _ h) h1
 have n2:(fX ps.length).Nodup:=by
   unfold fX List.Nodup
   rw[List.pairwise_map]
   refine List.Pairwise.imp ?_ List.nodup_range
   intro a b h e
   exact h (by omega)
 rw[List.perm_ext_iff_of_nodup n1 n2]
 intro x
 rw[h2 x]
 unfold fX
 rw[List.mem_map]
 constructor
 · intro h
   exact⟨x.toNat,List.mem_range.2 (by omega),by omega⟩
 · rintro⟨i,hi,rfl⟩
   have:=List.mem_range.1 hi
   omega
theorem wU(l:List Int):(fX l.length).map (gI l)=l:=by
 apply List.ext_getElem
 · simp[fX]
 · intro i h1 h2
   simp[fX,gI,h2]
theorem rj{o:Pt}{l:List Int}(hz:jc o (dF p l)):(tuL p o l).Perm l:=by
 have h:=(vG hz).map (gI l)
 have e:(dF p l).length=l.length:=by simp[dF]
 rw[e,wU] at h
 exact h
theorem xO(hm:bF g){v:Nat}(hv:(v:Int)<g.1):gI (tuS g p) (v:Int)=tuL p (gI p.1 (v:Int)) (bP g (v:Int)):=by
 unfold tuS
 have:v<g.1.toNat:=by omega
 simp[gI,this]
theorem l9:(tuS g p).length=g.1.toNat:=by simp[tuS]
theorem kY(hm:bF g)(hc:zl g p)(hfew:(g.2.length:Int)<=2000):cM g (tuS g p):=by
 have h0:=hm.1
 refine sE hm (by rw[l9];omega) λv hv=>?_
 rw[l9] at hv
 have hp:=rj (p:=p) (lU hm hc hfew (v:Int)).2
 rw[xO hm (by omega)]
 exact⟨hp.nodup_iff.2 rT,λh=>by rw[hp.mem_iff];exact jt⟩
structure iJ(g:bG)(p:dp)(first:bY)(v:Nat):Prop where
 len:first.length=g.1.toNat
 row:∀j:Nat,j<g.1.toNat->gI first (j:Int)=if j<v then tuL p (gI p.1 (j:Int)) (bP g (j:Int)) else bP g (j:Int)
 ok:∀j:Nat,j<v->¬lD p (gI p.1 (j:Int)) (bP g (j:Int))
theorem iJ.start(hm:bF g):iJ g p (bh g) 0:=by
 have h0:=hm.1
 refine⟨by simp[bh],λj hj=>?_,λj hj=>by omega⟩
 rw[if_neg (by omega)]
 unfold bh
 simp[gI,hj]
theorem iJ.start'(hm:bF g){r:bY}(h:r=bh g):iJ g p r 0:=h▸iJ.start hm
theorem iJ.now{first:bY}{v:Nat}(h:iJ g p first v)(hv:v<g.1.toNat):gI first (v:Int)=bP g (v:Int):=by
 rw[h.row v hv,if_neg (by omega)]
theorem iJ.next{first:bY}{v:Nat}{X:List Int}(h:iJ g p first v)(hv:v<g.1.toNat)(hX:X=tuL p (gI p.1 (v:Int)) (bP g (v:Int)))(hn:¬lD p (gI p.1 (v:Int)) (bP g (v:Int))):iJ g p (first.set (Int.toNat (v:Int)) X) (v+1):=by
 have hl:=h.len
 refine⟨by simpa using hl,λj hj=>?_,λj hj=>?_⟩
 · rw[dN (by omega) (by omega) (by omega)]
   by_cases e:(j:Int)=(v:Int)
   · have:j=v:=by omega
     subst this
     rw[if_pos rfl,if_pos (by omega),hX]
   · rw[if_neg e,h.row j hj]
     by_cases c:j<v
     · rw[if_pos c,if_pos (by omega)]
     · rw[if_neg c,if_neg (by omega)]
 · by_cases e:j=v
   · subst e;exact hn
   · exact h.ok j (by omega)
theorem iJ.fin{first:bY}{v:Nat}(h:iJ g p first v)(hv:v=g.1.toNat):first=tuS g p/\¬m5 g p:=by
 subst hv
 refine⟨?_,λ⟨v,hv,hb⟩=>h.ok v hv hb⟩
 apply List.ext_getElem
 · rw[h.len,l9]
 · intro i h1 h2
   have hi:i<g.1.toNat:=by rw[<-h.len];exact h1
   have:=h.row i hi
   rw[if_pos hi] at this
   have e1:gI first (i:Int)=first[i]:=by simp[gI,h1]
   rw[<-e1,this]
   simp[tuS]
theorem wM{to_:List Pt}{l:List Int}{k:Nat}(h:to_=(l.take k).map (dn p))(hk:(k:Int)<l.length):to_++[dn p (gI l (k:Int))]=(l.take (k+1)).map (dn p):=by
 rw[bC hk,List.map_append,h];rfl
theorem yR{to_:List Pt}{l:List Int}{k:Nat}(h:to_=(l.take k).map (dn p))(hk:¬(k:Int)<l.length):to_=dF p l:=by
 rw[h,List.take_of_length_le (by omega)];rfl
def po(p:dp)(o:Pt)(l T:List Int)(i:Nat):Prop:=T=((arL o (dF p l)).take i).map (gI l)/\∀j:Nat,j<i->0<j->¬d8 (aG (gI (dF p l) (gI (arL o (dF p l)) ((j:Int)-1))) o) (aG (gI (dF p l) (gI (arL o (dF p l)) (j:Int))) o)
theorem po.start{o:Pt}{l:List Int}:po p o l [] 0:=⟨rfl,λj hj=>by omega⟩
theorem po.next{o:Pt}{l T:List Int}{i:Nat}(h:po p o l T i)(hi:(i:Int)<(arL o (dF p l)).length)(hs:¬0<(i:Int)\/¬decide (d8 (aG (gI (dF p l) (gI (arL o (dF p l)) ((i:Int)-1))) o) (aG (gI (dF p l) (gI (arL o (dF p l)) (i:Int))) o))=true):
   po p o l (T++[gI l (gI (arL o (dF p l)) (i:Int))]) (i+1):=by
 refine⟨by rw[bC hi,List.map_append,h.1];rfl,λj hj h0 hb=>?_⟩
 by_cases e:j=i
 · subst e
   rcases hs with hs|hs
   · omega
   · exact hs (decide_eq_true hb)
 · exact h.2 j (by omega) h0 hb
theorem po.fin{o:Pt}{l T:List Int}{i:Nat}(hz:jc o (dF p l))(h:po p o l T i)(hi:¬(i:Int)<(arL o (dF p l)).length):T=tuL p o l/\¬lD p o l:=by
 have hl:=iw hz
 have e:(dF p l).length=l.length:=by simp[dF]
 refine⟨by rw[h.1,List.take_of_length_le (by omega)];rfl,λ⟨j,hj,h0,hb⟩=>h.2 j (by omega) h0 hb⟩
theorem po.bad{v:Nat}{i:Nat}(hv:v<g.1.toNat)(hz:jc (gI p.1 (v:Int)) (dF p (bP g (v:Int))))(hi:(i:Int)<(arL (gI p.1 (v:Int)) (dF p (bP g (v:Int)))).length)(h0:0<(i:Int))
   (hs:decide (d8 (aG (gI (dF p (bP g (v:Int))) (gI (arL (gI p.1 (v:Int)) (dF p (bP g (v:Int)))) ((i:Int)-1))) (gI p.1 (v:Int))) (aG (gI (dF p (bP g (v:Int))) (gI (arL (gI p.1 (v:Int)) (dF p (bP g (v:Int)))) (i:Int))) (gI p.1 (v:Int))))=true):m5 g p:=by
 have hl:=iw hz
 have e:(dF p (bP g (v:Int))).length=(bP g (v:Int)).length:=by simp[dF]
 exact⟨v,hv,i,by omega,by omega,of_decide_eq_true hs⟩
theorem ng(h:¬bF g):turnsR g p=([],1):=by unfold turnsR;rw[if_neg h]
theorem lA(h:bF g)(h1:¬cl g p=[]):turnsR g p=([],24):=by unfold turnsR;rw[if_pos h,if_neg h1]
theorem jZ(h:bF g)(h1:cl g p=[])(h2:m5 g p):turnsR g p=([],24):=by unfold turnsR;rw[if_pos h,if_pos h1,if_pos h2]
theorem ll(h:bF g)(h1:cl g p=[])(h2:¬m5 g p):turnsR g p=(cG (tuS g p),0):=by unfold turnsR;rw[if_pos h,if_pos h1,if_neg h2]
theorem kD(h:bF g)(h1:cl g p=[])(hfew:(g.2.length:Int)<=2000){first:bY}{v:Nat}(ht:iJ g p first v)(hv:v=g.1.toNat):du g first=turnsR g p:=by
 obtain⟨e,hb⟩:=ht.fin hv
 rw[e,ll h h1 hb,py h (kY h (nj.1 h1) hfew)]
end
end TL
/-
  TlJudge4: directions around a point; a plot turned by a quarter; the example's rotation.
  By an AI agent.
-/
set_option linter.all false
namespace TL
section
variable{u v w:Pt}
theorem mW(hu:Up u)(hv:Up v)(hc:co u v=0):0<j7 u v:=by
 unfold co at hc
 unfold j7
 unfold Up at hu hv
 rcases hu with hu|⟨hu1,hu2⟩
 · rcases hv with hv|⟨hv1,hv2⟩
   · have h1:=Int.mul_pos hu hv
     have h2:0<=u.2*v.2:=by
       refine Classical.byContradiction λhn=>?_
       have h3:=Int.mul_neg_of_pos_of_neg hv (show u.2*v.2<0 by omega)
       have h4:v.1*(u.2*v.2)=u.1*(v.2*v.2):=by
         have:u.1*v.2=u.2*v.1:=by omega
         calc v.1*(u.2*v.2)=(u.2*v.1)*v.2:=by grind
           _=(u.1*v.2)*v.2:=by rw[this]
           _=u.1*(v.2*v.2):=by grind
       have h5:0<=v.2*v.2:=by
         rcases Int.le_total 0 v.2 with h|h
         · exact Int.mul_nonneg h h
         · exact Int.mul_nonneg_of_nonpos_of_nonpos h h
       have h6:=Int.mul_nonneg (Int.le_of_lt hu) h5
       omega
     omega
   · rw[hv1] at hc
     have:=Int.mul_pos hu hv2
     omega
 · rw[hu1] at hc
   have h0:u.2*v.1=0:=by omega
   have hv1:v.1=0:=by
     rcases Int.mul_eq_zero.1 h0 with h|h
     · omega
     · exact h
   have hv2:0<v.2:=by omega
   have:=Int.mul_pos hu2 hv2
   rw[hu1,hv1];omega
theorem xt(u v:Pt):j7 (mu u) (mu v)=j7 u v:=by unfold j7 mu;grind
theorem rk(hu:nz u)(hv:nz v)(h:bv u=bv v)(hc:co u v=0):d8 u v:=by
 refine⟨hc,?_⟩
 rcases lg hu with⟨a1,a2⟩|⟨a1,a2⟩<;>rcases lg hv with⟨b1,b2⟩|⟨b1,b2⟩<;>try (exfalso;omega)
 · exact mW a2 b2 hc
 · have:=mW a2 b2 (by rw[jw];exact hc)
   rwa[xt] at this
theorem sF(hu:nz u)(hv:nz v)(h:d8 u v):bv u=bv v:=by
 obtain⟨hc,hd⟩:=h
 have e1:co u (mu v)= -co u v:=by unfold co mu;grind
 have e2:j7 u (mu v)= -j7 u v:=by unfold j7 mu;grind
 have e3:co (mu u) v= -co u v:=by unfold co mu;grind
 have e4:j7 (mu u) v= -j7 u v:=by unfold j7 mu;grind
 rcases lg hu with⟨a1,a2⟩|⟨a1,a2⟩<;>rcases lg hv with⟨b1,b2⟩|⟨b1,b2⟩
 · omega
 · have:=mW a2 b2 (by omega);omega
 · have:=mW a2 b2 (by omega);omega
 · omega
theorem ui(h:d8 u v):d8 v u:=by
 obtain⟨h1,h2⟩:=h
 refine⟨by rw[bU];omega,?_⟩
 unfold j7 at*
 rw[Int.mul_comm v.1,Int.mul_comm v.2];exact h2
theorem Ab{i j k:Int}(hu:nz u)(hv:nz v)(hw:nz w)(h1:ph u v i j)(h2:ph v w j k)(h:d8 u w):d8 u v:=by
 have hh:=sF hu hw h
 unfold ph at h1 h2
 have e1:bv u=bv v:=by omega
 have e2:bv v=bv w:=by omega
 have t:=pO hu hv hw e1 e2 (by omega) (by omega)
 have h0:=h.1
 refine rk hu hv e1 ?_
 by_cases c:co u v<0
 · have:=t.2 (.inl c);omega
 · omega
end
section
variable{p:dp}{o:Pt}{l:List Int}
theorem zb{i k:Int}(hz:jc o (dF p l))(hi:0<=i/\i<((dF p l).length:Int))(hk:0<=k/\k<((dF p l).length:Int))(hne:i≠k)(hs:d8 (vA o (dF p l) i) (vA o (dF p l) k)):lD p o l:=by
 have hl:=iw hz
 have e:(dF p l).length=l.length:=by simp[dF]
 obtain⟨s,hs1,hs2⟩:=ja (((gE hz).2 i).2 hi)
 obtain⟨t,ht1,ht2⟩:=ja (((gE hz).2 k).2 hk)
 have key:∀s t:Nat,s<t->t<(arL o (dF p l)).length->d8 (vA o (dF p l) (gI (arL o (dF p l)) (s:Int))) (vA o (dF p l) (gI (arL o (dF p l)) (t:Int)))->lD p o l:=by
   intro s t hst ht hs
   refine⟨s+1,by omega,by omega,?_⟩
   have e1:(((s+1:Nat):Int)-1)=(s:Int):=by omega
   rw[e1]
   show d8 (vA o (dF p l) (gI (arL o (dF p l)) (s:Int))) (vA o (dF p l) (gI (arL o (dF p l)) ((s+1:Nat):Int)))
   by_cases c:s+1=t
   · rw[c];exact hs
   · have a:=kx hz (i:=(s:Int)) (by omega) (by omega)
     have b:=kx hz (i:=((s+1:Nat):Int)) (by omega) (by omega)
     have d:=kx hz (i:=(t:Int)) (by omega) (by omega)
     exact Ab (hz.nz a.1 a.2) (hz.nz b.1 b.2) (hz.nz d.1 d.2) (pS hz (by omega) (by omega) (by omega)) (pS hz (by omega) (by omega) (by omega)) hs
 rcases Nat.lt_trichotomy s t with c|c|c
 · exact key s t c ht1 (by rw[hs2,ht2];exact hs)
 · subst c;exact absurd (hs2.symm.trans ht2) hne
 · exact key t s c hs1 (by rw[hs2,ht2];exact ui hs)
theorem tj(hz:jc o (dF p l))(h:lD p o l):∃i k:Int,((0<=i/\i<((dF p l).length:Int))/\0<=k/\k<((dF p l).length:Int))/\i≠k/\d8 (vA o (dF p l) i) (vA o (dF p l) k):=by
 obtain⟨j,hj,h0,hs⟩:=h
 have e:(dF p l).length=l.length:=by simp[dF]
 exact⟨_,_,⟨kx hz (i:=(j:Int)-1) (by omega) (by omega),kx hz (i:=(j:Int)) (by omega) (by omega)⟩,ze hz (by omega) (by omega) (by omega),hs⟩
end
def sN:bG:=(3,[(0,1),(1,2)])
def wi:dp:=([(0,0),(2,0),(1,0)],[[(0,0),(1,1),(2,0)],[(2,0),(1,0)]])
theorem tc:bF sN:=by decide
theorem oc:cl sN wi=[]:=by decide+kernel
def tZ(p:dp)(o:Pt)(l:List Int):Bool:=(List.range l.length).all λi=>(List.range l.length).all λk=>i==k|| !decide (d8 (vA o (dF p l) (i:Int)) (vA o (dF p l) (k:Int)))
theorem tS:(List.range 3).all (λv=>tZ wi (gI wi.1 ((v:Nat):Int)) (bP sN ((v:Nat):Int)))=true:=by decide+kernel
theorem wt:¬m5 sN wi:=by
 rintro⟨v,hv,hb⟩
 have hv3:v<3:=hv
 have hz:=(lU tc (nj.1 oc) (by decide) (v:Int)).2
 obtain⟨i,k,⟨hi,hk⟩,hne,hs⟩:=tj hz hb
 have e:(dF wi (bP sN (v:Int))).length=(bP sN (v:Int)).length:=by simp[dF]
 have h1:=List.all_eq_true.1 tS v (List.mem_range.2 hv3)
 unfold tZ at h1
 have i1:i.toNat∈List.range (bP sN (v:Int)).length:=List.mem_range.2 (by omega)
 have k1:k.toNat∈List.range (bP sN (v:Int)).length:=List.mem_range.2 (by omega)
 have h2:=List.all_eq_true.1 (List.all_eq_true.1 h1 _ i1) _ k1
 rw[Int.toNat_of_nonneg hi.1,Int.toNat_of_nonneg hk.1,decide_eq_true hs] at h2
 simp at h2
 omega
theorem oh:turnsR sN wi=(cG (tuS sN wi),0):=ll tc oc wt
theorem tx:(List.length (turnsR sN wi).1:Int)=3:=by
 rw[oh]
 simp[cG,l9];rfl
theorem tl:(turnsR sN wi).2=0:=by rw[oh]
section
variable{u v:Pt}{i k:Int}
def zF(u:Pt):Prop:=0<=u.1/\0<u.2
instance (u:Pt):Decidable (zF u):=by unfold zF;infer_instance
end
section
variable{o:Pt}{ps:List Pt}
end
end TL
/-
  TlJTr: plots moved as a whole: their flaws.
  By an AI agent.
-/
set_option linter.all false
namespace TL
section
variable{T:Pt->Pt}{D:Pt->Prop}{g:bG}{p:dp}{l a b but:List Pt}{q:Pt}{i k:Nat}
end
section
variable{g:bG}{p:dp}
end
def ii(p:dp):Nat->Int
 |0=>(p.1.length:Int)
 |k+1=>ii p k+((gI p.2 (k:Int)).length:Int)+1
theorem qT{p:dp}(h1:(p.1.length:Int)<=1048576)(h:∀l∈p.2,l.length<=1048576):∀k:Nat,(k:Int)<=p.2.length->0<=ii p k/\ii p k<=1048576+1048577*(k:Int)
 |0,_=>by unfold ii;omega
 |k+1,hk=>by
   have h2:=qT h1 h k (by omega)
   have h3:=h _ (aR (xs:=p.2) (i:=(k:Int)) (by omega) (by omega))
   unfold ii;omega
def eh(g:bG)(p:dp):Prop:=ii p p.2.length<=400/\(¬bF g\/g.1<=30/\(g.2.length:Int)<=40)
instance (g:bG)(p:dp):Decidable (eh g p):=by unfold eh;infer_instance
theorem qI{p:dp}:∀k:Nat,(p.1.length:Int)+k<=ii p k/\∀e:Nat,e<k->((gI p.2 (e:Int)).length:Int)<=ii p k
 |0=>⟨by unfold ii;omega,λe he=>by omega⟩
 |k+1=>by
   obtain⟨h1,h2⟩:=qI (p:=p) k
   refine⟨by unfold ii;omega,λe he=>?_⟩
   unfold ii
   by_cases c:e=k
   · subst c;omega
   · have:=h2 e (by omega);omega
theorem sC{g:bG}{p:dp}(h:eh g p):(bF g->(g.2.length:Int)<=2000)/\((p.1.length:Int)<=400/\(p.2.length:Int)<=400)/\∀e:Int,0<=e->e<p.2.length->((gI p.2 e).length:Int)<=400:=by
 obtain⟨h1,h2⟩:=qI (p:=p) p.2.length
 obtain⟨h3,h4⟩:=h
 refine⟨λhm=>?_,⟨by omega,by omega⟩,λe h0 he=>?_⟩
 · rcases h4 with h4|h4
   · exact absurd hm h4
   · omega
 · have:=h2 e.toNat (by omega)
   rw[Int.toNat_of_nonneg h0] at this
   omega
end TL
namespace TL
def xi(q:Pt):Prop:=(-9223372036854775808<=q.1/\q.1<=9223372036854775807)/\ -9223372036854775808<=q.2/\q.2<=9223372036854775807
def yr(p:dp):Prop:=((p.1.length:Int)<=1048576/\(p.2.length:Int)<=1048576/\∀l∈p.2,l.length<=1048576)/\(∀q∈p.1,xi q)/\∀l∈p.2,∀q∈l,xi q
section
variable{g:bG}{p:dp}{l r:List Pt}{L:List (List Pt)}{k e:Nat}
end
end TL
namespace TL
section
variable{α:Type}[Inhabited α][DecidableEq α]{a b:List α}{k:Nat}
end
section
variable{g:bG}{p:dp}{n:Int}{e:Nat}
theorem zM(h:n=ii p e)(he:e=p.2.length)(h1:¬n<=400):false=decide (eh g p):=by
 subst he;exact(decide_eq_false λc=>h1 (by rw[h];exact c.1)).symm
theorem zD(h:n=ii p e)(he:e=p.2.length)(h1:n<=400)(h2:¬d6 g=true):true=decide (eh g p):=by
 subst he;exact(decide_eq_true ⟨by rw[<-h];exact h1,.inl λc=>h2 (decide_eq_true c)⟩).symm
theorem zX(h:n=ii p e)(he:e=p.2.length)(h1:n<=400)(h2:d6 g=true)(h3:g.1<=30):decide ((g.2.length:Int)<=40)=decide (eh g p):=by
 subst he
 rw[decide_eq_decide]
 exact⟨λc=>⟨by rw[<-h];exact h1,.inr ⟨h3,c⟩⟩,λc=>(c.2.resolve_left λq=>q (of_decide_eq_true h2)).2⟩
theorem zJ(h:n=ii p e)(he:e=p.2.length)(h1:n<=400)(h2:d6 g=true)(h3:¬g.1<=30):false=decide (eh g p):=by
 subst he
 exact(decide_eq_false λc=>h3 (c.2.resolve_left λq=>q (of_decide_eq_true h2)).1).symm
end
end TL
/-
  TlPla: points and straight segments that do not cross: which of two lies below; both sides of each segment are labelled as one goes from left to right.
  By an AI agent.
-/
set_option linter.all false
namespace TL
def gm(a b:Pt):Prop:=a.1<b.1\/a.1=b.1/\a.2<b.2
instance (a b:Pt):Decidable (gm a b):=by unfold gm;infer_instance
def sd(s:Sg)(p:Pt):Int:=co (aG s.2 s.1) (aG p s.1)
section
variable{a b c d p u v w:Pt}{s t:Sg}
theorem eR:gm a b↔Up (aG b a):=by unfold gm Up aG;dsimp;omega
theorem pA:¬gm a a:=by unfold gm;omega
theorem xR(h:gm a b)(h2:gm b c):gm a c:=by unfold gm at*;omega
theorem oa(h:gm a b):¬gm b a:=by unfold gm at*;omega
theorem ns(h:a≠b):gm a b\/gm b a:=by
 unfold gm
 by_cases h1:a.1=b.1
 · have:a.2≠b.2:=λh2=>h (Prod.ext h1 h2)
   omega
 · omega
theorem t6(h:gm a b):a≠b:=λe=>by rw[e] at h;exact pA h
theorem h8(hu:Up u)(hv:Up v)(hw:Up w)(c1:0<=co u v)(c2:0<=co v w):0<=co u w/\(0<co u v\/0<co v w->0<co u w):=by
  have a1:=bU u v
  have a2:=bU v w
  have a3:=bU u w
  have:=pV hw hv hu (by omega) (by omega)
  refine⟨by omega,λh=>?_⟩
  have:=this.2 (by omega)
  omega
theorem gi(u:Pt)(a b c:Pt):co u (aG a c)=co u (aG a b)+co u (aG b c):=by unfold co aG;grind
theorem oN(u:Pt)(a b:Pt):co u (aG a b)= -co u (aG b a):=by unfold co aG;grind
theorem gN:sd s s.1=0/\sd s s.2=0:=by
 unfold sd co aG
 constructor<;>grind
def Aa(s t:Sg):Prop:=(gm s.1 t.1/\0<sd s t.1)\/(gm t.1 s.1/\sd t s.1<0)\/(s.1=t.1/\0<co (aG s.2 s.1) (aG t.2 t.1))
theorem qp(h:0<co (aG b a) (aG c a)):bz a b c=1:=by unfold bz bw;rw[if_neg (by omega),if_pos (by omega)]
theorem qR(h:co (aG b a) (aG c a)<0):bz a b c= -1:=by unfold bz bw;rw[if_pos (by omega)]
theorem oG(h1:0<sd s t.1)(h2:sd s t.2<0)(h3:sd t s.1<0)(h4:0<sd t s.2):cH s.1 s.2 t.1 t.2:=by
 unfold cH
 rw[qp h1,qR h2,qR h3,qp h4]
 omega
theorem tA(hs:gm s.1 s.2)(ht:gm t.1 t.2)(hb:Aa s t)(hc:¬cH s.1 s.2 t.1 t.2)(h1:gm s.1 p)(h2:gm t.1 p)(h3:p=s.2\/gm p s.2)(h4:p=t.2\/gm p t.2):
    ¬(sd s p<=0/\0<=sd t p/\(sd s p<0\/0<sd t p)):=by
  rintro⟨k1,k2,k3⟩
  have us:=eR.1 hs
  have ut:=eR.1 ht
  have key:0<co (aG t.2 t.1) (aG s.2 s.1)->sd s t.2<0/\0<sd t s.2:=λhvu=>by
    constructor
    · have e:=gi (aG s.2 s.1) t.2 p s.1
      unfold sd at*
      rcases h4 with h4|h4
      · have:=(gN (s:=t)).2
        unfold sd at this
        rw[h4] at k2 k3 k1
        rw[h4] at e
        omega
      · have f:=gi (aG t.2 t.1) t.2 p t.1
        have g:=l4 (aG t.2 t.1)
        have a1:=bU (aG t.2 t.1) (aG t.2 p)
        have:=(h8 (eR.1 h4) ut us (by omega) (by omega)).2 (.inr hvu)
        have a2:=bU (aG t.2 p) (aG s.2 s.1)
        omega
    · have e:=gi (aG t.2 t.1) s.2 p t.1
      unfold sd at*
      rcases h3 with h3|h3
      · have:=(gN (s:=s)).2
        unfold sd at this
        rw[h3] at k2 k3 k1
        rw[h3] at e
        omega
      · have f:=gi (aG s.2 s.1) s.2 p s.1
        have g:=l4 (aG s.2 s.1)
        have:=(h8 ut us (eR.1 h3) (by omega) (by omega)).2 (.inl hvu)
        omega
  rcases hb with⟨b1,b2⟩|⟨b1,b2⟩|⟨b1,b2⟩
  · have e:=gi (aG s.2 s.1) p t.1 s.1
    have hvu:0<co (aG t.2 t.1) (aG s.2 s.1):=by
      unfold sd at k1 k2 b2
      have a1:=bU (aG s.2 s.1) (aG p t.1)
      exact(h8 ut (eR.1 h2) us (by omega) (by omega)).2 (.inr (by omega))
    obtain⟨q1,q2⟩:=key hvu
    refine hc (oG b2 q1 ?_ q2)
    unfold sd at b2 ⊢
    have:=(h8 ut us (eR.1 b1) (by omega) (by omega)).2 (.inl hvu)
    have a1:=oN (aG t.2 t.1) s.1 t.1
    omega
  · have e:=gi (aG t.2 t.1) p s.1 t.1
    have hvu:0<co (aG t.2 t.1) (aG s.2 s.1):=by
      unfold sd at k1 k2 b2
      have a1:=bU (aG s.2 s.1) (aG p s.1)
      exact(h8 ut (eR.1 h1) us (by omega) (by omega)).2 (.inl (by omega))
    obtain⟨q1,q2⟩:=key hvu
    refine hc (oG ?_ q1 b2 q2)
    unfold sd at b2 ⊢
    have a0:=bU (aG t.2 t.1) (aG s.1 t.1)
    have:=(h8 (eR.1 b1) ut us (by omega) (by omega)).2 (.inl (by omega))
    have a1:=oN (aG s.2 s.1) t.1 s.1
    have a2:=bU (aG s.1 t.1) (aG s.2 s.1)
    omega
  · unfold sd at k1 k2
    rw[<-b1] at k2 b2 ut
    have a1:=bU (aG s.2 s.1) (aG p s.1)
    have q:=h8 us ut (eR.1 h1) (by omega) k2
    have:=q.2 (.inl b2)
    omega
theorem x3(hb:Aa s t)(h:s.2=t.2):co (aG s.2 s.1) (aG t.2 t.1)<0:=by
  rcases hb with⟨b1,b2⟩|⟨b1,b2⟩|⟨b1,b2⟩
  · unfold sd at b2
    have e:=gi (aG s.2 s.1) t.2 t.1 s.1
    have f:=(gN (s:=s)).2
    unfold sd at f
    rw[<-h] at e ⊢
    omega
  · unfold sd at b2
    have e:=gi (aG t.2 t.1) s.2 s.1 t.1
    have f:=(gN (s:=t)).2
    have a:=bU (aG s.2 s.1) (aG t.2 t.1)
    unfold sd at f
    rw[h] at e a ⊢
    omega
  · have:=l4 (aG s.2 s.1)
    rw[<-h,<-b1] at b2
    omega
end
theorem pL{α:Type}{R:α->α->Prop}[∀a b,Decidable (R a b)]:∀{l:List α},l.Nodup->(∀a∈l,∀b∈l,a≠b->R a b\/R b a)->(∀a∈l,∀b∈l,∀c∈l,R a b->R b c->R a c)->∃r:List α,r.Perm l/\r.Pairwise R
 |[],_,_,_=>⟨[],.refl _,.nil⟩
 |a::l,hn,ht,htr=>by
   have hn':=List.nodup_cons.1 hn
   obtain⟨r,h1,h2⟩:=pL hn'.2 (λx hx y hy=>ht x (.tail _ hx) y (.tail _ hy)) (λx hx y hy z hz=>htr x (.tail _ hx) y (.tail _ hy) z (.tail _ hz))
   have hm:∀x,x∈r->x∈l:=λx hx=>h1.mem_iff.1 hx
   refine⟨r.filter (λx=>decide (R x a))++a::r.filter (λx=> !decide (R x a)),?_,?_⟩
   · refine List.perm_middle.trans (.cons _ ((List.filter_append_perm _ r).trans h1))
   · rw[List.pairwise_append]
     refine⟨h2.filter _,List.pairwise_cons.2 ⟨λy hy=>?_,h2.filter _⟩,λx hx y hy=>?_⟩
     · rw[List.mem_filter] at hy
       have hy2:¬R y a:=by simpa using hy.2
       have hya:a≠y:=λe=>hn'.1 (e▸hm _ hy.1)
       exact(ht a (.head _) y (.tail _ (hm _ hy.1)) hya).resolve_right hy2
     · rw[List.mem_filter] at hx
       have hx2:R x a:=by simpa using hx.2
       rcases List.mem_cons.1 hy with rfl|hy
       · exact hx2
       · rw[List.mem_filter] at hy
         have hy2:¬R y a:=by simpa using hy.2
         have hya:a≠y:=λe=>hn'.1 (e▸hm _ hy.1)
         exact htr x (.tail _ (hm _ hx.1)) a (.head _) y (.tail _ (hm _ hy.1)) hx2 ((ht a (.head _) y (.tail _ (hm _ hy.1)) hya).resolve_right hy2)
theorem A3{α:Type}(f:α->Int):∀{l:List α},l.Pairwise (λa b=>¬(f a<=0/\0<=f b/\(f a<0\/0<f b)))->
    l=l.filter (λa=>decide (0<f a))++(l.filter (λa=>decide (f a=0))++l.filter (λa=>decide (f a<0)))
  |[],_=>rfl
  |a::l,h=>by
    rw[List.pairwise_cons] at h
    have ih:=A3 f h.2
    by_cases h1:0<f a
    · rw[List.filter_cons_of_pos (by simpa using h1),List.filter_cons_of_neg (by simp;omega),List.filter_cons_of_neg (by simp;omega),List.cons_append,<-ih]
    · have e1:l.filter (λa=>decide (0<f a))=[]:=by
        rw[List.filter_eq_nil_iff]
        intro b hb
        have:=h.1 b hb
        simp
        omega
      rw[List.filter_cons_of_neg (by simpa using h1),e1,List.nil_append]
      rw[e1,List.nil_append] at ih
      by_cases h2:f a=0
      · rw[List.filter_cons_of_pos (by simpa using h2),List.filter_cons_of_neg (by simp;omega),List.cons_append,<-ih]
      · have e2:l.filter (λa=>decide (f a=0))=[]:=by
          rw[List.filter_eq_nil_iff]
          intro b hb
          have:=h.1 b hb
          simp
          omega
        rw[List.filter_cons_of_neg (by simpa using h2),e2,List.nil_append,List.filter_cons_of_pos (by simp;omega)]
        rw[e2,List.nil_append] at ih
        rw[<-ih]
def n7(lo hi:Sg->Nat):Nat->List Sg->Nat->Prop
  |x,[],y=>x=y
  |x,s::l,y=>lo s=x/\n7 lo hi (hi s) l y
section
variable{lo hi lo' hi':Sg->Nat}{S A B:List Sg}{x y z g0:Nat}{T:List Nat}
theorem gb:∀{A:List Sg} {x:Nat},n7 lo hi x (A++B) z↔∃y,n7 lo hi x A y/\n7 lo hi y B z
 |[],x=>by simp[n7]
 |s::A,x=>by
   constructor
   · rintro⟨h1,h2⟩
     obtain⟨y,h3,h4⟩:=gb.1 h2
     exact⟨y,⟨h1,h3⟩,h4⟩
   · rintro⟨y,⟨h1,h2⟩,h3⟩
     exact⟨h1,gb.2 ⟨y,h2,h3⟩⟩
theorem ip(f:Nat->Nat):∀{A:List Sg} {x:Nat},n7 lo hi x A y->n7 (λs=>f (lo s)) (λs=>f (hi s)) (f x) A (f y)
 |[],x,h=>congrArg f h
 |s::A,x,h=>⟨congrArg f h.1,ip f h.2⟩
theorem mG:∀{A:List Sg} {x:Nat},(∀s∈A,lo' s=lo s/\hi' s=hi s)->n7 lo hi x A y->n7 lo' hi' x A y
 |[],x,_,h=>h
 |s::A,x,hs,h=>by
   have:=hs s (.head _)
   refine⟨by rw[this.1];exact h.1,?_⟩
   rw[this.2]
   exact mG (λt ht=>hs t (.tail _ ht)) h.2
theorem nl:∀{A:List Sg} {x:Nat},n7 lo hi x A y->y=x\/∃s∈A,hi s=y
 |[],x,h=>.inl h.symm
 |s::A,x,h=>by
   rcases nl h.2 with e|⟨t,ht,e⟩
   · exact .inr ⟨s,.head _,e.symm⟩
   · exact .inr ⟨t,.tail _ ht,e⟩
theorem uG(T:List Nat):∃n,n∉T:=by
 have:∃n,∀t∈T,t<n:=by
   induction T with
   |nil=>exact⟨0,λt h=>by cases h⟩
   |cons a T ih=>
     obtain⟨n,h⟩:=ih
     refine⟨n+a+1,λt ht=>?_⟩
     rcases List.mem_cons.1 ht with rfl|ht
     · omega
     · have:=h t ht;omega
 obtain⟨n,h⟩:=this
 exact⟨n,λhn=>Nat.lt_irrefl _ (h n hn)⟩
theorem qt:∀{R:List Sg} {lo hi:Sg->Nat} {x:Nat} {T:List Nat},R≠[]->R.Nodup->x∈T->y∈T->T.Nodup->∃(lo' hi':Sg->Nat) (T':List Nat),(∀s,s∉R->lo' s=lo s/\hi' s=hi s)/\n7 lo' hi' x R y/\T'.Nodup/\(∀t∈T,t∈T')/\
    T'.length+1=T.length+R.length/\(∀s∈R,lo' s∈T'/\hi' s∈T')/\∀t∈T',t∈T\/∃s∈R,lo' s=t\/hi' s=t
  |[],_,_,_,_,h,_,_,_,_=>absurd rfl h
  |[s],lo,hi,x,T,_,_,hx,hy,hT=>by
    refine⟨λq=>if q=s then x else lo q,λq=>if q=s then y else hi q,T,λq hq=>?_,⟨?_,?_⟩,hT,λt h=>h,by simp,λq hq=>?_,λt h=>.inl h⟩
    · have:q≠s:=λe=>hq (by simp[e])
      simp[this]
    · simp
    · simp[n7]
    · obtain rfl:=List.mem_singleton.1 hq
      simpa using⟨hx,hy⟩
  |s::s2::R,lo,hi,x,T,_,hn,hx,hy,hT=>by
    obtain⟨f,hf⟩:=uG T
    have hn':=List.nodup_cons.1 hn
    obtain⟨lo',hi',T',h1,h2,h3,h4,h5,h6,h7⟩:=qt (R:=s2::R) (lo:=λq=>if q=s then x else lo q) (hi:=λq=>if q=s then f else hi q) (x:=f) (T:=f::T) (by simp) hn'.2 (.head _) (.tail _ hy) (List.nodup_cons.2 ⟨hf,hT⟩)
    have hs:=h1 s hn'.1
    simp only[if_pos] at hs
    refine⟨lo',hi',T',λq hq=>?_,⟨hs.1,by rw[hs.2];exact h2⟩,h3,λt ht=>h4 t (.tail _ ht),by simp at h5 ⊢;omega,λq hq=>?_,λt ht=>?_⟩
    · have hq2:q∉s2::R:=λh=>hq (.tail _ h)
      have hqs:q≠s:=λe=>hq (by simp[e])
      have:=h1 q hq2
      simpa[hqs] using this
    · rcases List.mem_cons.1 hq with rfl|hq
      · rw[hs.1,hs.2]
        exact⟨h4 _ (.tail _ hx),h4 _ (.head _)⟩
      · exact h6 q hq
    · rcases h7 t ht with h|⟨q,hq,h⟩
      · rcases List.mem_cons.1 h with rfl|h
        · exact .inr ⟨s,.head _,.inr hs.2⟩
        · exact .inl h
      · exact .inr ⟨q,.tail _ hq,h⟩
end
end TL
/-
  TlPla2: going over points from left to right: both sides of all segments get labels that agree round each point, with enough of them.
  By an AI agent.
-/
set_option linter.all false
namespace TL
structure xJ(S:List Sg)(P:List Pt):Prop where
  sn:S.Nodup
  up:∀s∈S,gm s.1 s.2
  inn:∀s∈S,s.1∈P/\s.2∈P
  on:∀s∈S,∀p∈P,gm s.1 p->gm p s.2->sd s p≠0
  cr:∀s∈S,∀t∈S,¬cH s.1 s.2 t.1 t.2
structure A9(S:List Sg)(lo hi:Sg->Nat)(p:Pt)(B R:List Sg)(x y:Nat):Prop where
  bm:∀s,s∈B↔s∈S/\s.2=p
  rm:∀s,s∈R↔s∈S/\s.1=p
  bo:B.Pairwise λs t=>co (aG s.2 s.1) (aG t.2 t.1)<0
  ro:R.Pairwise λs t=>0<co (aG s.2 s.1) (aG t.2 t.1)
  cb:n7 lo hi x B y
  cr:n7 lo hi x R y
def kN(S:List Sg)(D:List Pt):Nat:=(S.filter λs=>decide (s.1∈D)).length
structure Sw(S:List Sg)(D:List Pt)(cur:List Sg)(lo hi:Sg->Nat)(T:List Nat)(g0:Nat):Prop where
 mem:∀s,s∈cur↔s∈S/\s.1∈D/\s.2∉D
 ord:cur.Pairwise Aa
 ch:n7 lo hi g0 cur g0
 cst:∀p∈D,∃B R x y,A9 S lo hi p B R x y
 tn:T.Nodup
 gT:g0∈T
 tin:∀s∈S,s.1∈D->lo s∈T/\hi s∈T
 tus:∀t∈T,t=g0\/∃s∈S,s.1∈D/\(lo s=t\/hi s=t)
 gus:(∃s∈S,s.1∈D)->∃s∈S,s.1∈D/\(lo s=g0\/hi s=g0)
 cnt:kN S D+1<=T.length+D.length
 bon:cur=[]->(∃s∈S,s.1∈D)->kN S D+2<=T.length+D.length
section
variable{S cur:List Sg}{P D:List Pt}{lo hi:Sg->Nat}{T:List Nat}{g0:Nat}{p:Pt}
theorem Sw.start:Sw S [] [] (λ_=>0) (λ_=>0) [0] 0:=
 ⟨λs=>by simp,.nil,rfl,λp hp=>(by cases hp),by simp,.head _,λs _ h=>(by cases h),λt ht=>.inl (by simpa using ht),λ⟨s,_,h⟩=>(by cases h),by simp[kN],λ_ ⟨s,_,h⟩=>(by cases h)⟩
theorem u8(hp:p∉D):kN S (D++[p])=kN S D+(S.filter λs=>decide (s.1=p)).length:=by
 unfold kN
 induction S with
 |nil=>rfl
 |cons s S ih=>
   by_cases h1:s.1=p
   · have h2:s.1∉D:=h1▸hp
     rw[List.filter_cons_of_pos (by simp[h1]),List.filter_cons_of_neg (by simpa using h2),List.filter_cons_of_pos (by simpa using h1)]
     simp only[List.length_cons]
     omega
   · by_cases h2:s.1∈D
     · rw[List.filter_cons_of_pos (by simp[h2]),List.filter_cons_of_pos (by simpa using h2),List.filter_cons_of_neg (by simpa using h1)]
       simp only[List.length_cons]
       omega
     · rw[List.filter_cons_of_neg (by simp[h1,h2]),List.filter_cons_of_neg (by simpa using h2),List.filter_cons_of_neg (by simpa using h1)]
       exact ih
theorem yZ(H:xJ S P)(p:Pt):∃R:List Sg,R.Perm (S.filter λs=>decide (s.1=p))/\R.Pairwise λs t=>0<co (aG s.2 s.1) (aG t.2 t.1):=by
  have hm:∀s,s∈S.filter (λs=>decide (s.1=p))->s∈S/\s.1=p:=λs h=>by
    have:=List.mem_filter.1 h
    exact⟨this.1,by simpa using this.2⟩
  refine pL (H.sn.filter _) (λs hs t ht hne=>?_) (λs hs t ht q hq h1 h2=>?_)
  · obtain⟨s1,s2⟩:=hm s hs
    obtain⟨t1,t2⟩:=hm t ht
    have key:∀s t:Sg,s∈S->t∈S->s.1=p->t.1=p->gm s.2 t.2->co (aG s.2 s.1) (aG t.2 t.1)≠0:=λs t s1 t1 s2 t2 hl hc=>by
      refine H.on t t1 s.2 (H.inn s s1).2 ?_ hl ?_
      · rw[t2,<-s2];exact H.up s s1
      · unfold sd
        have:=bU (aG s.2 s.1) (aG t.2 t.1)
        rw[s2] at this hc
        rw[t2] at this hc ⊢
        omega
    have h0:co (aG s.2 s.1) (aG t.2 t.1)≠0:=by
      have hd:s.2≠t.2:=λe=>hne (Prod.ext (s2.trans t2.symm) e)
      rcases ns hd with h|h
      · exact key s t s1 t1 s2 t2 h
      · have a:=bU (aG s.2 s.1) (aG t.2 t.1)
        have:=key t s t1 s1 t2 s2 h
        omega
    have a:=bU (aG s.2 s.1) (aG t.2 t.1)
    omega
  · exact(h8 (eR.1 (H.up s (hm s hs).1)) (eR.1 (H.up t (hm t ht).1)) (eR.1 (H.up q (hm q hq).1)) (by omega) (by omega)).2 (.inl h1)
theorem Sw.step(H:xJ S P)(hw:Sw S D cur lo hi T g0)(hp:p∈P)(hD:∀q∈P,q∈D↔gm q p):∃cur' lo' hi' T' g0',Sw S (D++[p]) cur' lo' hi' T' g0':=by
  have hpD:p∉D:=λh=>pA ((hD p hp).1 h)
  have hDS:∀q∈P,q∉D->q≠p->gm p q:=λq hq h1 h2=>(ns h2).resolve_left λh=>h1 ((hD q hq).2 h)
  -- where the current ones lie
  have hc:∀s∈cur,s∈S/\gm s.1 p/\(p=s.2\/gm p s.2):=λs hs=>by
    obtain⟨h1,h2,h3⟩:=(hw.mem s).1 hs
    refine⟨h1,(hD _ (H.inn s h1).1).1 h2,?_⟩
    by_cases e:p=s.2
    · exact .inl e
    · exact .inr (hDS _ (H.inn s h1).2 h3 (Ne.symm e))
  have hcut:=A3 (λs=>sd s p) (l:=cur) (by
    have:=hw.ord
    rw[List.pairwise_iff_forall_sublist] at this ⊢
    intro s t hst
    have hb:=this hst
    have hs:=hc s (hst.subset (by simp))
    have ht:=hc t (hst.subset (by simp))
    exact tA (H.up s hs.1) (H.up t ht.1) hb (H.cr s hs.1 t ht.1) hs.2.1 ht.2.1 hs.2.2 ht.2.2)
  obtain⟨A,hA⟩:∃A,A=cur.filter (λs=>decide (0<sd s p)):=⟨_,rfl⟩
  obtain⟨B,hB⟩:∃B,B=cur.filter (λs=>decide (sd s p=0)):=⟨_,rfl⟩
  obtain⟨C,hC⟩:∃C,C=cur.filter (λs=>decide (sd s p<0)):=⟨_,rfl⟩
  rw[<-hA,<-hB,<-hC] at hcut
  have mA:∀s,s∈A↔s∈cur/\0<sd s p:=λs=>by rw[hA,List.mem_filter];simp
  have mB:∀s,s∈B↔s∈cur/\sd s p=0:=λs=>by rw[hB,List.mem_filter];simp
  have mC:∀s,s∈C↔s∈cur/\sd s p<0:=λs=>by rw[hC,List.mem_filter];simp
  clear hA hB hC
  have bm:∀s,s∈B↔s∈S/\s.2=p:=λs=>by
    rw[mB]
    constructor
    · rintro⟨h1,h2⟩
      obtain⟨a1,a2,a3⟩:=hc s h1
      rcases a3 with a3|a3
      · exact⟨a1,a3.symm⟩
      · exact absurd h2 (H.on s a1 p hp a2 a3)
    · rintro⟨h1,h2⟩
      refine⟨(hw.mem s).2 ⟨h1,(hD _ (H.inn s h1).1).2 (h2▸H.up s h1),h2▸hpD⟩,?_⟩
      rw[<-h2];exact gN.2
  obtain⟨R,hRp,ro⟩:=yZ H p
  have rm:∀s,s∈R↔s∈S/\s.1=p:=λs=>by rw[hRp.mem_iff,List.mem_filter];simp
  have hRl:kN S (D++[p])=kN S D+R.length:=by rw[u8 hpD,hRp.length_eq]
  have hRn:R.Nodup:=hRp.nodup_iff.2 (H.sn.filter _)
  have ord:=hw.ord
  rw[hcut,List.pairwise_append,List.pairwise_append] at ord
  obtain⟨oA,⟨oB,oC,oBC⟩,oABC⟩:=ord
  have bo:B.Pairwise λs t=>co (aG s.2 s.1) (aG t.2 t.1)<0:=by
    rw[List.pairwise_iff_forall_sublist] at oB ⊢
    intro s t hst
    have hs:=(bm s).1 (hst.subset (by simp))
    have ht:=(bm t).1 (hst.subset (by simp))
    exact x3 (oB hst) (hs.2.trans ht.2.symm)
  have mem':∀s,s∈A++(R++C)↔s∈S/\s.1∈D++[p]/\s.2∉D++[p]:=λs=>by
    simp only[List.mem_append,List.mem_singleton]
    constructor
    · rintro(h|h|h)
      · obtain⟨h1,h2⟩:=(mA s).1 h
        obtain⟨k1,k2,k3⟩:=(hw.mem s).1 h1
        refine⟨k1,.inl k2,λk=>k.elim k3 λe=>?_⟩
        rw[<-e,gN.2] at h2;omega
      · obtain⟨k1,k2⟩:=(rm s).1 h
        have hl:=H.up s k1
        rw[k2] at hl
        exact⟨k1,.inr k2,λk=>k.elim (λk=>oa hl ((hD _ (H.inn s k1).2).1 k)) λe=>t6 hl e.symm⟩
      · obtain⟨h1,h2⟩:=(mC s).1 h
        obtain⟨k1,k2,k3⟩:=(hw.mem s).1 h1
        refine⟨k1,.inl k2,λk=>k.elim k3 λe=>?_⟩
        rw[<-e,gN.2] at h2;omega
    · rintro⟨k1,k2,k3⟩
      rcases k2 with k2|k2
      · have hcu:s∈cur:=(hw.mem s).2 ⟨k1,k2,λk=>k3 (.inl k)⟩
        have h3:=hcu
        rw[hcut] at h3
        rcases List.mem_append.1 h3 with h|h
        · exact .inl h
        · rcases List.mem_append.1 h with h|h
          · exact absurd ((bm s).1 h).2 λe=>k3 (.inr e)
          · exact .inr (.inr h)
      · exact .inr (.inl ((rm s).2 ⟨k1,k2⟩))
  have ord':(A++(R++C)).Pairwise Aa:=by
    rw[List.pairwise_append,List.pairwise_append]
    refine⟨oA,⟨?_,oC,λs hs t ht=>?_⟩,λs hs t ht=>?_⟩
    · rw[List.pairwise_iff_forall_sublist] at ro ⊢
      intro s t hst
      have hs:=(rm s).1 (hst.subset (by simp))
      have ht:=(rm t).1 (hst.subset (by simp))
      exact .inr (.inr ⟨hs.2.trans ht.2.symm,ro hst⟩)
    · have hs':=(rm s).1 hs
      have ht':=(mC t).1 ht
      exact .inr (.inl (by rw[hs'.2];exact⟨(hc t ht'.1).2.1,ht'.2⟩))
    · have hs':=(mA s).1 hs
      rcases List.mem_append.1 ht with ht|ht
      · have ht':=(rm t).1 ht
        exact .inl (by rw[ht'.2];exact⟨(hc s hs'.1).2.1,hs'.2⟩)
      · exact oABC s hs t (List.mem_append.2 (.inr ht))
  have hch:=hw.ch
  rw[hcut,gb] at hch
  obtain⟨x,cA,hch⟩:=hch
  obtain⟨y,cB,cC⟩:=gb.1 hch
  have xT:x∈T:=by
    rcases nl cA with e|⟨s,hs,e⟩
    · rw[e];exact hw.gT
    · have:=(hw.mem s).1 ((mA s).1 hs).1
      rw[<-e];exact(hw.tin s this.1 this.2.1).2
  have yT:y∈T:=by
    rcases nl cB with e|⟨s,hs,e⟩
    · rw[e];exact xT
    · have:=(hw.mem s).1 ((mB s).1 hs).1
      rw[<-e];exact(hw.tin s this.1 this.2.1).2
  have inAC:∀s,s∈A\/s∈B\/s∈C->s∈S/\s.1∈D:=λs h=>by
    have:s∈cur:=h.elim (λh=>((mA s).1 h).1) λh=>h.elim (λh=>((mB s).1 h).1) λh=>((mC s).1 h).1
    have:=(hw.mem s).1 this
    exact⟨this.1,this.2.1⟩
  by_cases hR:R=[]
  · -- nothing begins here: the labels below and above become one
    subst hR
    have nb:∀s∈S,s.1∈D++[p]->s.1∈D:=λs hs h=>by
      rcases List.mem_append.1 h with h|h
      · exact h
      · have:=(rm s).2 ⟨hs,List.mem_singleton.1 h⟩
        cases this
    have nb':∀q,q∈D->q∈D++[p]:=λq h=>List.mem_append.2 (.inl h)
    have hbN:kN S (D++[p])=kN S D:=by rw[hRl];rfl
    let f:Nat->Nat:=λz=>if z=y then x else z
    have fx:f x=x:=by
      show(if x=y then x else x)=x
      split<;>rfl
    have fy:f y=x:=if_pos rfl
    have ft:∀z,z≠y->f z=z:=λz h=>if_neg h
    have cb':=ip f cB
    rw[fx,fy] at cb'
    have cA':=ip f cA
    have cC':=ip f cC
    rw[fx] at cA'
    rw[fy] at cC'
    have cst':∀q∈D++[p],∃B R x y,A9 S (λs=>f (lo s)) (λs=>f (hi s)) q B R x y:=λq hq=>by
      rcases List.mem_append.1 hq with hq|hq
      · obtain⟨B',R',x',y',h⟩:=hw.cst q hq
        exact⟨B',R',f x',f y',h.bm,h.rm,h.bo,h.ro,ip f h.cb,ip f h.cr⟩
      · obtain rfl:=List.mem_singleton.1 hq
        exact⟨B,[],x,x,bm,rm,bo,.nil,cb',rfl⟩
    have gus':(∃s∈S,s.1∈D++[p])->∃s∈S,s.1∈D++[p]/\(f (lo s)=f g0\/f (hi s)=f g0):=λ⟨s,hs,h⟩=>by
      obtain⟨t,ht,h1,h2⟩:=hw.gus ⟨s,hs,nb s hs h⟩
      exact⟨t,ht,nb' _ h1,h2.imp (congrArg f) (congrArg f)⟩
    by_cases hxy:x=y
    · have fid:∀z,f z=z:=λz=>by
        show(if z=y then x else z)=z
        split
        · omega
        · rfl
      refine⟨A++([]++C),λs=>f (lo s),λs=>f (hi s),T,f g0,mem',ord',gb.2 ⟨x,cA',cC'⟩,cst',hw.tn,by rw[fid];exact hw.gT,λs hs h=>by rw[fid,fid];exact hw.tin s hs (nb s hs h),λt ht=>?_,gus',?_,λ_ _=>?_⟩
      · rw[fid]
        rcases hw.tus t ht with h|⟨s,hs,h1,h2⟩
        · exact .inl h
        · exact .inr ⟨s,hs,nb' _ h1,by rw[fid,fid];exact h2⟩
      · have:=hw.cnt
        rw[hbN,List.length_append,List.length_singleton];omega
      · have:=hw.cnt
        rw[hbN,List.length_append,List.length_singleton];omega
    · have mE:∀z,z∈T.erase y↔z≠y/\z∈T:=λz=>hw.tn.mem_erase_iff
      have fT:∀z∈T,f z∈T.erase y:=λz hz=>by
        by_cases e:z=y
        · rw[e,fy];exact(mE x).2 ⟨hxy,xT⟩
        · rw[ft z e];exact(mE z).2 ⟨e,hz⟩
      have hlen:(T.erase y).length+1=T.length:=by
        have:=List.length_erase_of_mem yT
        have:0<T.length:=List.length_pos_of_mem yT
        omega
      refine⟨A++([]++C),λs=>f (lo s),λs=>f (hi s),T.erase y,f g0,mem',ord',gb.2 ⟨x,cA',cC'⟩,cst',hw.tn.erase _,fT _ hw.gT,λs hs h=>?_,λt ht=>?_,gus',?_,λhe _=>?_⟩
      · have:=hw.tin s hs (nb s hs h)
        exact⟨fT _ this.1,fT _ this.2⟩
      · have ht':=(mE t).1 ht
        rcases hw.tus t ht'.2 with h|⟨s,hs,h1,h2⟩
        · exact .inl (by rw[<-h,ft t ht'.1])
        · refine .inr ⟨s,hs,nb' _ h1,?_⟩
          rw[<-ft t ht'.1]
          exact h2.imp (congrArg f) (congrArg f)
      · have:=hw.cnt
        rw[hbN,List.length_append,List.length_singleton];omega
      · -- all is closed: below and above were one
        exfalso
        have e:=List.append_eq_nil_iff.1 he
        rw[e.1] at cA
        rw[List.nil_append] at e
        rw[e.2] at cC
        have e1:g0=x:=cA
        have e2:y=g0:=cC
        exact hxy (e1.symm.trans e2.symm)
  · -- some begin here
    obtain⟨lo',hi',T',h1,h2,h3,h4,h5,h6,h7⟩:=qt (lo:=lo) (hi:=hi) hR hRn xT yT hw.tn
    have old:∀s,s.1∈D->lo' s=lo s/\hi' s=hi s:=λs hs=>h1 s λh=>hpD (by rw[<-((rm s).1 h).2];exact hs)
    have oldc:∀{u v:Nat} {L:List Sg},(∀s∈L,s.1∈D)->n7 lo hi u L v->n7 lo' hi' u L v:=λhL h=>mG (λs hs=>old s (hL s hs)) h
    have hRpos:0<R.length:=List.length_pos_iff.2 hR
    obtain⟨s0,hs0⟩:∃s0,s0∈R:=List.exists_mem_of_ne_nil _ hR
    have hs0':=(rm s0).1 hs0
    have pin:p∈D++[p]:=by simp
    refine⟨A++(R++C),lo',hi',T',g0,mem',ord',?_,λq hq=>?_,h3,h4 _ hw.gT,λs hs h=>?_,λt ht=>?_,λ_=>?_,?_,λhe _=>?_⟩
    · exact gb.2 ⟨x,oldc (λs h=>(inAC s (.inl h)).2) cA,gb.2 ⟨y,h2,oldc (λs h=>(inAC s (.inr (.inr h))).2) cC⟩⟩
    · rcases List.mem_append.1 hq with hq|hq
      · obtain⟨B',R',x',y',h⟩:=hw.cst q hq
        refine⟨B',R',x',y',h.bm,h.rm,h.bo,h.ro,oldc (λs hs=>?_) h.cb,oldc (λs hs=>?_) h.cr⟩
        · obtain⟨k1,k2⟩:=(h.bm s).1 hs
          have hqp:q∈P:=by rw[<-k2];exact(H.inn s k1).2
          have hl:=H.up s k1
          rw[k2] at hl
          exact(hD _ (H.inn s k1).1).2 (xR hl ((hD q hqp).1 hq))
        · obtain⟨k1,k2⟩:=(h.rm s).1 hs
          rw[k2];exact hq
      · obtain rfl:=List.mem_singleton.1 hq
        exact⟨B,R,x,y,bm,rm,bo,ro,oldc (λs h=>(inAC s (.inr (.inl h))).2) cB,h2⟩
    · rcases List.mem_append.1 h with h|h
      · rw[(old s h).1,(old s h).2]
        have:=hw.tin s hs h
        exact⟨h4 _ this.1,h4 _ this.2⟩
      · exact h6 s ((rm s).2 ⟨hs,List.mem_singleton.1 h⟩)
    · rcases h7 t ht with h|⟨s,hs,h⟩
      · rcases hw.tus t h with h|⟨s,hs,k1,k2⟩
        · exact .inl h
        · exact .inr ⟨s,hs,List.mem_append.2 (.inl k1),by rw[(old s k1).1,(old s k1).2];exact k2⟩
      · have:=(rm s).1 hs
        exact .inr ⟨s,this.1,by rw[this.2];exact pin,h⟩
    · by_cases hs:∃s∈S,s.1∈D
      · obtain⟨t,ht,k1,k2⟩:=hw.gus hs
        exact⟨t,ht,List.mem_append.2 (.inl k1),by rw[(old t k1).1,(old t k1).2];exact k2⟩
      · have e0:A=[]:=by
          cases A with
          |nil=>rfl
          |cons s A=>
            have:=inAC s (.inl (.head _))
            exact absurd ⟨s,this⟩ hs
        rw[e0] at cA
        have e1:g0=x:=cA
        cases hRR:R with
        |nil=>exact absurd hRR hR
        |cons r R'=>
          rw[hRR] at h2
          have hr:=(rm r).1 (by rw[hRR];exact .head _)
          exact⟨r,hr.1,by rw[hr.2];exact pin,.inl (h2.1.trans e1.symm)⟩
    · have:=hw.cnt
      rw[hRl,List.length_append,List.length_singleton];omega
    · have:=(List.append_eq_nil_iff.1 (List.append_eq_nil_iff.1 he).2).1
      exact absurd this hR
theorem Sw.all(H:xJ S P)(hP:P.Pairwise gm):∀(Q D:List Pt),P=D++Q->(∃cur lo hi T g0,Sw S D cur lo hi T g0)->∃cur lo hi T g0,Sw S P cur lo hi T g0
  |[],D,e,h=>by rw[List.append_nil] at e;rw[e];exact h
  |p::Q,D,e,⟨cur,lo,hi,T,g0,hw⟩=>by
    refine Sw.all H hP Q (D++[p]) (by rw[e];simp) (hw.step H (p:=p) (by rw[e];simp) λq hq=>?_)
    have hP':=hP
    rw[e,List.pairwise_append,List.pairwise_cons] at hP'
    constructor
    · intro h
      exact hP'.2.2 q h p (.head _)
    · intro h
      rw[e] at hq
      rcases List.mem_append.1 hq with hq|hq
      · exact hq
      · rcases List.mem_cons.1 hq with rfl|hq
        · exact absurd h pA
        · exact absurd (hP'.2.1.1 q hq) (oa h)
theorem zV(H:xJ S P)(hn:P.Nodup)(hS:S≠[]):∃(lo hi:Sg->Nat) (T:List Nat),(∀p∈P,∃B R x y,A9 S lo hi p B R x y)/\T.Nodup/\(∀t∈T,∃s∈S,lo s=t\/hi s=t)/\S.length+2<=T.length+P.length:=by
 obtain⟨P',h1,h2⟩:=pL (R:=gm) hn (λa _ b _ h=>ns h) (λa _ b _ c _ h h'=>xR h h')
 have H':xJ S P':=⟨H.sn,H.up,λs hs=>⟨h1.mem_iff.2 (H.inn s hs).1,h1.mem_iff.2 (H.inn s hs).2⟩,λs hs p hp=>H.on s hs p (h1.mem_iff.1 hp),H.cr⟩
 obtain⟨cur,lo,hi,T,g0,hw⟩:=Sw.all H' h2 P' [] rfl ⟨_,_,_,_,_,Sw.start⟩
 have hall:∀s∈S,s.1∈P':=λs hs=>(H'.inn s hs).1
 obtain⟨s0,hs0⟩:=List.exists_mem_of_ne_nil _ hS
 have hbn:kN S P'=S.length:=by
   unfold kN
   rw[List.filter_eq_self.2 λs hs=>by simpa using hall s hs]
 have hcur:cur=[]:=by
   cases cur with
   |nil=>rfl
   |cons s l=>
     have:=(hw.mem s).1 (.head _)
     exact absurd (H'.inn s this.1).2 this.2.2
 refine⟨lo,hi,T,λp hp=>hw.cst p (h1.mem_iff.2 hp),hw.tn,λt ht=>?_,?_⟩
 · rcases hw.tus t ht with h|⟨s,hs,_,h⟩
   · obtain⟨s,hs,_,h'⟩:=hw.gus ⟨s0,hs0,hall s0 hs0⟩
     exact⟨s,hs,by rw[h];exact h'⟩
   · exact⟨s,hs,h⟩
 · have:=hw.bon hcur ⟨s0,hs0,hall s0 hs0⟩
   rw[hbn,h1.length_eq] at this
   exact this
end
end TL
/-
  TlPla3: the labels, seen as one goes along segments: what lies to the left goes on to the next one round each point.
  By an AI agent.
-/
set_option linter.all false
namespace TL
def vm(lo hi:Sg->Nat)(a b:Pt):Nat:=if gm a b then hi (a,b) else lo (b,a)
def vl(p x y:Pt):Prop:=bv (aG x p)<bv (aG y p)\/bv (aG x p)=bv (aG y p)/\co (aG x p) (aG y p)<0
def xo(f g:Pt->Nat):Nat->List Pt->Nat->Prop
 |z,[],z'=>z=z'
 |z,x::l,z'=>f x=z/\xo f g (g x) l z'
section
variable{S B R:List Sg}{P:List Pt}{lo hi:Sg->Nat}{p:Pt}{x y z:Nat}{f g:Pt->Nat}
theorem jR:∀{A C:List Pt} {x:Nat},xo f g x (A++C) z↔∃y,xo f g x A y/\xo f g y C z
 |[],C,x=>by simp[xo]
 |s::A,C,x=>by
   constructor
   · rintro⟨h1,h2⟩
     obtain⟨y,h3,h4⟩:=jR.1 h2
     exact⟨y,⟨h1,h3⟩,h4⟩
   · rintro⟨y,⟨h1,h2⟩,h3⟩
     exact⟨h1,jR.2 ⟨y,h2,h3⟩⟩
theorem tX:∀{B:List Sg} {x:Nat},(∀s∈B,f s.1=lo s/\g s.1=hi s)->n7 lo hi x B y->xo f g x (B.map (·.1)) y
 |[],x,_,h=>h
 |s::B,x,hs,h=>by
   have:=hs s (.head _)
   refine⟨by rw[this.1];exact h.1,?_⟩
   rw[this.2]
   exact tX (λt ht=>hs t (.tail _ ht)) h.2
theorem sS:∀{R:List Sg} {x:Nat},(∀s∈R,f s.2=hi s/\g s.2=lo s)->n7 lo hi x R y->xo f g y (R.reverse.map (·.2)) x
 |[],x,_,h=>h.symm
 |s::R,x,hs,h=>by
   have:=hs s (.head _)
   rw[List.reverse_cons,List.map_append]
   refine jR.2 ⟨hi s,sS (λt ht=>hs t (.tail _ ht)) h.2,?_⟩
   exact⟨this.1,by rw[this.2];exact h.1⟩
theorem xq{u w r:List Pt}{a b:Pt}(h:xo f g z (u++a::w) z)(he:w++u++[a]=b::r):f b=g a:=by
  obtain⟨z1,h1,h2,h3⟩:=jR.1 h
  cases w with
  |cons c w=>
    have:c=b:=by simpa using(List.cons.inj he).1
    rw[<-this];exact h3.1
  |nil=>
    have h3:g a=z:=h3
    cases u with
    |nil=>
      have:a=b:=by simpa using(List.cons.inj he).1
      have h1:z=z1:=h1
      rw[<-this,h2,h3,h1]
    |cons c u=>
      have:c=b:=by simpa using(List.cons.inj he).1
      rw[<-this,h3];exact h1.1
theorem ny{v:Pt}(h:Up v):bv v=0:=by unfold bv;exact if_pos h
theorem nD{v:Pt}(h:Up (mu v)):bv v=1:=by
 unfold bv
 rw[if_neg]
 unfold Up mu at h
 dsimp at h
 omega
theorem jj(a b:Pt):aG a b=mu (aG b a):=by unfold aG mu;exact Prod.ext (by dsimp;omega) (by dsimp;omega)
theorem xM{a b:Pt}(h:vl p a b):¬vl p b a:=by
 have:=bU (aG a p) (aG b p)
 unfold vl at*
 omega
theorem pQ(H:xJ S P)(h:A9 S lo hi p B R x y):∃N:List Pt,N.Pairwise (vl p)/\(∀q,q∈N↔(p,q)∈S\/(q,p)∈S)/\∀(u w r:List Pt) (a b:Pt),N=u++a::w->w++u++[a]=b::r->vm lo hi p b=vm lo hi a p:=by
 have hR:∀s∈R,s∈S/\s.1=p/\gm p s.2:=λs hs=>by
   have:=(h.rm s).1 hs
   exact⟨this.1,this.2,by rw[<-this.2];exact H.up s this.1⟩
 have hB:∀s∈B,s∈S/\s.2=p/\gm s.1 p:=λs hs=>by
   have:=(h.bm s).1 hs
   exact⟨this.1,this.2,by rw[<-this.2];exact H.up s this.1⟩
 have h0:xo (λq=>vm lo hi p q) (λq=>vm lo hi q p) y (R.reverse.map (·.2)++B.map (·.1)) y:=by
   refine jR.2 ⟨x,sS (λs hs=>?_) h.cr,tX (λs hs=>?_) h.cb⟩
   · obtain⟨h1,h2,h3⟩:=hR s hs
     unfold vm
     rw[if_pos h3,if_neg (oa h3)]
     have:(p,s.2)=s:=Prod.ext h2.symm rfl
     rw[this]
     exact⟨rfl,rfl⟩
   · obtain⟨h1,h2,h3⟩:=hB s hs
     unfold vm
     rw[if_pos h3,if_neg (oa h3)]
     have:(s.1,p)=s:=Prod.ext rfl h2.symm
     rw[this]
     exact⟨rfl,rfl⟩
 refine⟨R.reverse.map (·.2)++B.map (·.1),?_,λq=>?_,λu w r a b he hr=>?_⟩
 · rw[List.pairwise_append,List.pairwise_map,List.pairwise_map,List.pairwise_reverse]
   refine⟨?_,?_,λa ha b hb=>?_⟩
   · have:=h.ro
     rw[List.pairwise_iff_forall_sublist] at this ⊢
     intro s t hst
     have k:=this hst
     obtain⟨_,s2,s3⟩:=hR s (hst.subset (by simp))
     obtain⟨_,t2,t3⟩:=hR t (hst.subset (by simp))
     rw[s2,t2] at k
     have:=bU (aG s.2 p) (aG t.2 p)
     exact .inr ⟨by rw[ny (eR.1 s3),ny (eR.1 t3)],by omega⟩
   · have:=h.bo
     rw[List.pairwise_iff_forall_sublist] at this ⊢
     intro s t hst
     have k:=this hst
     obtain⟨_,s2,s3⟩:=hB s (hst.subset (by simp))
     obtain⟨_,t2,t3⟩:=hB t (hst.subset (by simp))
     rw[s2,t2,jj p s.1,jj p t.1,jw] at k
     refine .inr ⟨?_,k⟩
     rw[nD (by rw[<-jj];exact eR.1 s3),nD (by rw[<-jj];exact eR.1 t3)]
   · obtain⟨s,hs,rfl⟩:=List.mem_map.1 ha
     obtain⟨t,ht,rfl⟩:=List.mem_map.1 hb
     obtain⟨_,s2,s3⟩:=hR s (List.mem_reverse.1 hs)
     obtain⟨_,t2,t3⟩:=hB t ht
     refine .inl ?_
     rw[ny (eR.1 s3),nD (by rw[<-jj];exact eR.1 t3)]
     omega
 · rw[List.mem_append,List.mem_map,List.mem_map]
   constructor
   · rintro(⟨s,k,rfl⟩|⟨s,k,rfl⟩)
     · obtain⟨k1,k2⟩:=(h.rm s).1 (List.mem_reverse.1 k)
       exact .inl (by rw[<-k2];exact k1)
     · obtain⟨k1,k2⟩:=(h.bm s).1 k
       exact .inr (by rw[<-k2];exact k1)
   · rintro(k|k)
     · exact .inl ⟨(p,q),List.mem_reverse.2 ((h.rm _).2 ⟨k,rfl⟩),rfl⟩
     · exact .inr ⟨(q,p),(h.bm _).2 ⟨k,rfl⟩,rfl⟩
 · rw[he] at h0
   exact xq (f:=λq=>vm lo hi p q) (g:=λq=>vm lo hi q p) h0 hr
theorem zO(H:xJ S P)(hn:P.Nodup)(hS:S≠[]):∃(lf:Pt->Pt->Nat) (T:List Nat),T.Nodup/\(∀t∈T,∃s∈S,lf s.1 s.2=t\/lf s.2 s.1=t)/\S.length+2<=T.length+P.length/\
   ∀p∈P,∃N:List Pt,N.Pairwise (vl p)/\(∀q,q∈N↔(p,q)∈S\/(q,p)∈S)/\∀(u w r:List Pt) (a b:Pt),N=u++a::w->w++u++[a]=b::r->lf p b=lf a p:=by
 obtain⟨lo,hi,T,h1,h2,h3,h4⟩:=zV H hn hS
 refine⟨vm lo hi,T,h2,λt ht=>?_,h4,λp hp=>?_⟩
 · obtain⟨s,hs,h⟩:=h3 t ht
   have hl:=H.up s hs
   refine⟨s,hs,?_⟩
   unfold vm
   rw[if_pos hl,if_neg (oa hl)]
   exact h.symm
 · obtain⟨B,R,x,y,h⟩:=h1 p hp
   exact pQ H h
end
end TL
/-
  TlPla4: the points and segments of a plot without flaws.
  By an AI agent.
-/
set_option linter.all false
namespace TL
def pq(p:dp)(e i:Nat):Pt:=gI (gI p.2 (e:Int)) (i:Int)
def cR(p:dp)(e:Nat):Nat:=(gI p.2 (e:Int)).length
def mH(a b:Pt):Sg:=if gm a b then(a,b) else(b,a)
def pg(p:dp):List Sg:=bg (λe=>(List.range (cR p e-1)).map λi=>mH (pq p e i) (pq p e (i+1))) p.2.length
def wT(p:dp):List Pt:=p.1++bg (λe=>(List.range (cR p e-2)).map λi=>pq p e (i+1)) p.2.length
section
variable{a b c d x y:Pt}{s t:Sg}{g:bG}{p:dp}{e f i j k:Nat}
theorem uR(a b c d:Pt):cH b a c d↔cH a b c d:=by
 unfold cH
 rw[lQ a b c,lQ a b d,Int.neg_mul_neg,Int.mul_comm (bz c d b)]
theorem jG(a b c d:Pt):cH c d a b↔cH a b c d:=And.comm
theorem nM(a b c d:Pt):cH (mH a b).1 (mH a b).2 c d↔cH a b c d:=by
 unfold mH
 split
 · exact Iff.rfl
 · exact uR _ _ _ _
theorem lk(a b:Pt):((mH a b).1=a/\(mH a b).2=b)\/((mH a b).1=b/\(mH a b).2=a):=by
 unfold mH
 split
 · exact .inl ⟨rfl,rfl⟩
 · exact .inr ⟨rfl,rfl⟩
theorem zU(h:a≠b):gm (mH a b).1 (mH a b).2:=by
 unfold mH
 split
 · assumption
 · rename_i h1;exact(ns h).resolve_left h1
theorem qe(h:a≠b):((x,y)=mH a b\/(y,x)=mH a b)↔(x=a/\y=b\/x=b/\y=a):=by
 unfold mH
 split
 · simp only[Prod.mk.injEq]
   exact⟨λk=>k.elim (λk=>.inl k) λk=>.inr ⟨k.2,k.1⟩,λk=>k.elim (λk=>.inl k) λk=>.inr ⟨k.2,k.1⟩⟩
 · simp only[Prod.mk.injEq]
   exact⟨λk=>k.elim (λk=>.inr k) λk=>.inl ⟨k.2,k.1⟩,λk=>k.elim (λk=>.inr ⟨k.2,k.1⟩) λk=>.inl k⟩
theorem jU{m x y:Int}(hm:0<m)(h:m*x<=m*y):x<=y:=Int.le_of_mul_le_mul_left h hm
theorem zZ{q:Pt}(h1:gm a q)(h2:gm q b)(h:co (aG b a) (aG q a)=0):dc a b q:=by
  refine⟨by unfold bz bw;rw[if_neg (by omega),if_neg (by omega)],?_⟩
  unfold gm at h1 h2
  unfold co aG at h
  dsimp only at h
  unfold iS
  refine⟨⟨by omega,by omega⟩,?_⟩
  by_cases e:a.1=b.1
  · constructor<;>omega
  · have hp:0<b.1-a.1:=by omega
    have hx0:0<=q.1-a.1:=by omega
    have hx1:q.1-a.1<=b.1-a.1:=by omega
    have h':(b.1-a.1)*(q.2-a.2)=(b.2-a.2)*(q.1-a.1):=by omega
    by_cases hy:a.2<=b.2
    · have l1:(b.1-a.1)*0<=(b.1-a.1)*(q.2-a.2):=by
        rw[h',Int.mul_zero];exact Int.mul_nonneg (by omega) hx0
      have l2:(b.1-a.1)*(q.2-a.2)<=(b.1-a.1)*(b.2-a.2):=by
        rw[h',Int.mul_comm (b.1-a.1)];exact Int.mul_le_mul_of_nonneg_left hx1 (by omega)
      have:=jU hp l1
      have:=jU hp l2
      omega
    · have l1:(b.1-a.1)*(q.2-a.2)<=(b.1-a.1)*0:=by
        rw[h',Int.mul_zero];exact Int.mul_nonpos_of_nonpos_of_nonneg (by omega) hx0
      have l2:(b.1-a.1)*(b.2-a.2)<=(b.1-a.1)*(q.2-a.2):=by
        rw[h',Int.mul_comm (b.1-a.1)];exact Int.mul_le_mul_of_nonpos_left (by omega) hx1
      have:=jU hp l1
      have:=jU hp l2
      omega
def gW(p:dp)(e i f k:Nat)(x:Pt):Prop:=x∈[pq p e i,pq p e (i+1),pq p f k,pq p f (k+1)]/\di (pq p e i) (pq p e (i+1)) (pq p f k) (pq p f (k+1)) x
theorem mX(h:gW p e i f k x):gW p f k e i x:=by
 obtain⟨h1,h2⟩:=h
 refine⟨?_,h2.2,h2.1⟩
 simp only[List.mem_cons,List.not_mem_nil,or_false] at h1 ⊢
 rcases h1 with h1|h1|h1|h1
 · exact .inr (.inr (.inl h1))
 · exact .inr (.inr (.inr h1))
 · exact .inl h1
 · exact .inr (.inl h1)
theorem pX(p:dp)(e i:Nat)(hx:x=pq p e i\/x=pq p e (i+1)):dc (pq p e i) (pq p e (i+1)) x:=by
 rcases hx with rfl|rfl
 · exact(eH _ _).1
 · exact(eH _ _).2
theorem dB(h1:x=pq p e i\/x=pq p e (i+1))(h2:x=pq p f k\/x=pq p f (k+1)):gW p e i f k x:=
 ⟨by
   simp only[List.mem_cons,List.not_mem_nil,or_false]
   rcases h1 with h|h
   · exact .inl h
   · exact .inr (.inl h),pX p e i h1,pX p f k h2⟩
theorem ql(h1:dc (pq p e i) (pq p e (i+1)) x)(h2:x=pq p f k\/x=pq p f (k+1)):gW p e i f k x:=
 ⟨by
   simp only[List.mem_cons,List.not_mem_nil,or_false]
   rcases h2 with h|h
   · exact .inr (.inr (.inl h))
   · exact .inr (.inr (.inr h)),h1,pX p f k h2⟩
variable(hc:zl g p)
include hc
theorem zS(he:e<p.2.length)(hi:i<cR p e):cI (pq p e i):=by
 have:=(hc.sh.ln (e:Int) (by omega) (by omega)).2
 exact this.2 _ (aR (by omega) (by unfold cR at hi;omega))
theorem ik(he:e<p.2.length):2<=cR p e:=by
 have:=(hc.sh.ln (e:Int) (by omega) (by omega)).1
 unfold cR;omega
theorem ky(he:e<p.2.length)(hi:i<cR p e):fW (pq p e i):=(zS hc he hi).bd
theorem gV(he:e<p.2.length)(hi:i+1<cR p e):pq p e i≠pq p e (i+1):=by
 unfold cR at hi
 exact(hc.si (e:Int) (by omega) (by omega) i (by omega) (by omega)).1
theorem fz(he:e<p.2.length)(hik:i<k)(hk:k+1<cR p e):¬cH (pq p e i) (pq p e (i+1)) (pq p e k) (pq p e (k+1))/\(∀x y,gW p e i e k x->gW p e i e k y->x=y)/\
   ∀x,gW p e i e k x->(k=i+1/\x=pq p e k)\/(i=0/\k+2=cR p e/\pq p e 0=pq p e (k+1)/\x=pq p e 0):=by
 have hs:=(hc.si (e:Int) (by omega) (by omega) i (by unfold cR at hk;omega) (by unfold cR at hk;omega)).2 k (by unfold cR at hk;omega) hik (by unfold cR at hk;omega)
 have hm:=mn (ky hc he (show i<cR p e by omega)) (ky hc he (show i+1<cR p e by omega)) (ky hc he (show k<cR p e by omega)) (ky hc he hk)
 have em:Ai (gI p.2 (e:Int)) i k=aZ (pq p e i) (pq p e (i+1)) (pq p e k) (pq p e (k+1)):=rfl
 unfold iW at hs
 rw[em] at hs
 by_cases hJ:gf (gI p.2 (e:Int)) i k
 · have h3:aZ (pq p e i) (pq p e (i+1)) (pq p e k) (pq p e (k+1))≠3:=λh=>hs (.inl ⟨hJ,h⟩)
   have hz:∃z,gW p e i e k z/\((k=i+1/\z=pq p e k)\/(i=0/\k+2=cR p e/\pq p e 0=pq p e (k+1)/\z=pq p e 0)):=by
     rcases hJ with h|⟨h1,h2,h4⟩
     · subst h
       exact⟨_,dB (.inr rfl) (.inl rfl),.inl ⟨rfl,rfl⟩⟩
     · subst h1
       have e1:k+2=cR p e:=by unfold cR;omega
       have e2:pq p e 0=pq p e (k+1):=by
         have:=h4.2
         unfold pq
         rw[show(((0:Nat):Nat):Int)=0 from rfl,this]
         congr 1
         omega
       exact⟨_,dB (.inl rfl) (.inr e2),.inr ⟨rfl,e1,e2,rfl⟩⟩
   obtain⟨z,hz1,hz2⟩:=hz
   have hu:¬cH (pq p e i) (pq p e (i+1)) (pq p e k) (pq p e (k+1))/\∀x y,gW p e i e k x->gW p e i e k y->x=y:=by
     rcases hm with⟨_,_,h⟩|⟨_,h⟩|⟨_,h1,_,h2⟩|⟨h,_⟩
     · exact absurd hz1.2 (h z hz1.1)
     · exact absurd hz1.2 (iX h hz1.1)
     · exact⟨h1,λx y hx hy=>h2 x hx.1 y hy.1 hx.2 hy.2⟩
     · exact absurd h h3
   refine⟨hu.1,hu.2,λx hx=>?_⟩
   rw[hu.2 x z hx hz1]
   exact hz2
 · have h0:aZ (pq p e i) (pq p e (i+1)) (pq p e k) (pq p e (k+1))=0:=Classical.not_not.1 λh=>hs (.inr ⟨hJ,h⟩)
   have hn:∀x,¬gW p e i e k x:=λx hx=>by
     rcases hm with⟨_,_,h⟩|⟨h,_⟩|⟨h,_⟩|⟨h,_⟩
     · exact h x hx.1 hx.2
     all_goals omega
   refine⟨?_,λx y hx=>absurd hx (hn x),λx hx=>absurd hx (hn x)⟩
   rcases hm with⟨_,h,_⟩|⟨h,_⟩|⟨h,_⟩|⟨h,_⟩
   · exact h
   all_goals omega
theorem pT(he:e<p.2.length)(hi:i+1<cR p e)(hj:j<cR p e)(h:dc (pq p e i) (pq p e (i+1)) (pq p e j)):pq p e j=pq p e i\/pq p e j=pq p e (i+1):=by
  by_cases h1:j<i
  · rcases(fz hc he h1 hi).2.2 _ (mX (ql h (.inl rfl))) with⟨k1,k2⟩|⟨k1,k2,k3,k4⟩
    · exact .inl k2
    · exact .inr (by rw[k4,k3])
  · by_cases h2:i+1<j
    · obtain⟨k,rfl⟩:∃k,j=k+1:=⟨j-1,by omega⟩
      rcases(fz hc he (show i<k by omega) hj).2.2 _ (ql h (.inr rfl)) with⟨k1,k2⟩|⟨k1,k2,k3,k4⟩
      · exact .inr (by rw[k2,k1])
      · exact .inl (by rw[k4,k1])
    · by_cases h3:j=i
      · exact .inl (by rw[h3])
      · exact .inr (by rw[show j=i+1 by omega])
theorem nh(he:e<p.2.length)(h0:0<j)(hj:j+1<cR p e):pq p e j≠pq p e 0/\pq p e j≠pq p e (cR p e-1):=by
 constructor
 · intro h
   rcases(fz hc he h0 hj).2.2 (pq p e 0) (dB (.inl rfl) (.inl h.symm)) with⟨k1,k2⟩|⟨_,k2,k3,_⟩
   · exact gV hc he (show 0+1<cR p e by omega) (by rw[<-k1];exact k2)
   · exact gV hc he hj (by rw[h,k3])
 · intro h
   by_cases hl:j+2=cR p e
   · exact gV hc he hj (by rw[h];congr 1;omega)
   · obtain⟨q,hq⟩:∃q,cR p e=q+2:=⟨cR p e-2,by omega⟩
     have e1:pq p e j=pq p e (q+1):=by rw[h];congr 1;omega
     rcases(fz hc he (show j<q by omega) (by omega)).2.2 (pq p e j) (dB (.inl rfl) (.inr e1)) with⟨k1,k2⟩|⟨k1,_⟩
     · exact gV hc he hj (by rw[<-k1];exact k2)
     · omega
theorem qM(he:e<p.2.length)(h0:0<j)(hj:j+1<cR p e)(hk:k<cR p e)(h:pq p e k=pq p e j):k=j:=by
 have hm:=nh hc he h0 hj
 have key:∀i k:Nat,0<i->i<k->k+1<cR p e->pq p e k≠pq p e i:=λi k h0 hik hk h=>by
   rcases(fz hc he hik hk).2.2 (pq p e k) (dB (.inl h) (.inl rfl)) with⟨k1,k2⟩|⟨k1,_⟩
   · exact gV hc he (show i+1<cR p e by omega) (by rw[<-h,k1])
   · omega
 rcases Nat.lt_trichotomy k j with hl|hl|hl
 · by_cases hk0:k=0
   · subst hk0;exact absurd h.symm hm.1
   · exact absurd h.symm (key k j (by omega) hl hj)
 · exact hl
 · by_cases hkl:k+1=cR p e
   · exact absurd h.symm (by rw[show k=cR p e-1 by omega];exact hm.2)
   · exact absurd h (key j k h0 hl (by omega))
theorem dR(he:e<p.2.length):pq p e 0=gI p.1 (gI g.2 (e:Int)).1/\pq p e (cR p e-1)=gI p.1 (gI g.2 (e:Int)).2:=by
 have h:=hc.en (e:Int) (by omega) (by omega)
 have:=ik hc he
 refine⟨h.1,?_⟩
 rw[<-h.2]
 unfold pq cR
 congr 1
 unfold cR at this
 omega
theorem np(he:e<p.2.length)(hf:f<p.2.length)(h:x∈jF g p (e:Int) (f:Int)):(x=pq p e 0\/x=pq p e (cR p e-1))/\(x=pq p f 0\/x=pq p f (cR p f-1)):=by
 obtain⟨v,h1,h2,h3⟩:=tM.1 h
 have k1:=dR hc he
 have k2:=dR hc hf
 rw[k1.1,k1.2,k2.1,k2.2,h3]
 exact⟨h1.imp (λe=>by rw[e]) (λe=>by rw[e]),h2.imp (λe=>by rw[e]) (λe=>by rw[e])⟩
theorem oI(hef:e<f)(hf:f<p.2.length)(hi:i+1<cR p e)(hk:k+1<cR p f):¬cH (pq p e i) (pq p e (i+1)) (pq p f k) (pq p f (k+1))/\(∀x y,gW p e i f k x->gW p e i f k y->x=y)/\
   ∀x,gW p e i f k x->x∈jF g p (e:Int) (f:Int):=by
 have he:e<p.2.length:=by omega
 have hap:=nf.1 (hc.ap e f hef hf) i (by unfold cR at hi;omega) k (by unfold cR at hk;omega)
 have hm:=mn (ky hc he (show i<cR p e by omega)) (ky hc he hi) (ky hc hf (show k<cR p f by omega)) (ky hc hf hk)
 have hy:∀y∈jF g p (e:Int) (f:Int),di (pq p e i) (pq p e (i+1)) (pq p f k) (pq p f (k+1)) y->gW p e i f k y:=λy hy hb=>by
   refine⟨?_,hb⟩
   have h1:=(np hc he hf hy).1
   have h2:y=pq p e i\/y=pq p e (i+1):=by
     rcases h1 with h1|h1
     · rw[h1] at hb ⊢
       exact pT hc he hi (by omega) hb.1
     · rw[h1] at hb ⊢
       exact pT hc he hi (by omega) hb.1
   simp only[List.mem_cons,List.not_mem_nil,or_false]
   rcases h2 with h|h
   · exact .inl h
   · exact .inr (.inl h)
 have hap':aZ (pq p e i) (pq p e (i+1)) (pq p f k) (pq p f (k+1))=0\/(aZ (pq p e i) (pq p e (i+1)) (pq p f k) (pq p f (k+1))=1\/aZ (pq p e i) (pq p e (i+1)) (pq p f k) (pq p f (k+1))=2)/\∃x∈jF g p (e:Int) (f:Int),di (pq p e i) (pq p e (i+1)) (pq p f k) (pq p f (k+1)) x:=hap
 rcases hm with⟨h0,h1,h2⟩|⟨h0,h1⟩|⟨h0,h1,_,h2⟩|⟨h0,_⟩
 · exact⟨h1,λx y hx=>absurd hx.2 (h2 x hx.1),λx hx=>absurd hx.2 (h2 x hx.1)⟩
 · rcases hap' with h|⟨_,x,hx,hb⟩
   · omega
   · exact absurd hb (iX h1 (hy x hx hb).1)
 · rcases hap' with h|⟨_,z,hz,hb⟩
   · omega
   · have hzc:=hy z hz hb
     refine⟨h1,λx y hx hy=>h2 x hx.1 y hy.1 hx.2 hy.2,λx hx=>?_⟩
     rw[h2 x hx.1 z hzc.1 hx.2 hzc.2]
     exact hz
 · rcases hap' with h|⟨h|h,_⟩<;>omega
theorem kT(hef:e≠f)(he:e<p.2.length)(hf:f<p.2.length)(hi:i+1<cR p e)(hk:k+1<cR p f):¬cH (pq p e i) (pq p e (i+1)) (pq p f k) (pq p f (k+1))/\(∀x y,gW p e i f k x->gW p e i f k y->x=y)/\
   ∀x,gW p e i f k x->(x=pq p e 0\/x=pq p e (cR p e-1))/\(x=pq p f 0\/x=pq p f (cR p f-1)):=by
 rcases Nat.lt_or_ge e f with h|h
 · obtain⟨h1,h2,h3⟩:=oI hc h hf hi hk
   exact⟨h1,h2,λx hx=>np hc he hf (h3 x hx)⟩
 · obtain⟨h1,h2,h3⟩:=oI hc (show f<e by omega) he hk hi
   exact⟨λh=>h1 ((jG _ _ _ _).1 h),λx y hx hy=>h2 x y (mX hx) (mX hy),λx hx=>(np hc hf he (h3 x (mX hx))).symm⟩
end
end TL
/-
  TlPla5: a plot without flaws: its points and segments meet nowhere else; what lies round each point.
  By an AI agent.
-/
set_option linter.all false
namespace TL
theorem lm{β:Type}{F:Nat->β}:∀{n:Nat},(∀i k,i<k->k<n->F i≠F k)->((List.range n).map F).Nodup
 |0,_=>by simp
 |n+1,h=>by
   rw[List.range_succ,List.map_append,List.nodup_append]
   refine⟨lm λi k hik hk=>h i k hik (by omega),by simp,λx hx y hy e=>?_⟩
   obtain⟨i,hi,rfl⟩:=List.mem_map.1 hx
   have hy:y=F n:=by simpa using hy
   rw[hy] at e
   exact h i n (List.mem_range.1 hi) (by omega) e
theorem qc{β:Type}{f:Nat->List β}:∀{k:Nat},(∀e,e<k->(f e).Nodup)->(∀e e',e<e'->e'<k->∀x∈f e,x∉f e')->(bg f k).Nodup
 |0,_,_=>by simp[bg]
 |k+1,h1,h2=>by
   rw[bg,List.nodup_append]
   refine⟨qc (λe he=>h1 e (by omega)) λe e' hl he=>h2 e e' hl (by omega),h1 k (by omega),λx hx y hy e=>?_⟩
   obtain⟨j,hj,hxj⟩:=jV.1 hx
   rw[<-e] at hy
   exact h2 j k hj (by omega) x hxj hy
theorem kC{β δ:Type}{f:Nat->List β}{f':Nat->List δ}:∀{k:Nat},(∀e,e<k->(f e).length=(f' e).length+1)->(bg f k).length=(bg f' k).length+k
 |0,_=>by simp[bg]
 |k+1,h=>by
   have ih:=kC (k:=k) λe he=>h e (by omega)
   have:=h k (by omega)
   rw[bg,bg,List.length_append,List.length_append]
   omega
section
variable{a b c d x y:Pt}{s t:Sg}{g:bG}{p:dp}{e f i j k v:Nat}
theorem fu:s∈pg p↔∃e i,e<p.2.length/\i+1<cR p e/\s=mH (pq p e i) (pq p e (i+1)):=by
 unfold pg
 rw[jV]
 constructor
 · rintro⟨e,he,h⟩
   obtain⟨i,hi,rfl⟩:=List.mem_map.1 h
   have:=List.mem_range.1 hi
   exact⟨e,i,he,by omega,rfl⟩
 · rintro⟨e,i,he,hi,rfl⟩
   exact⟨e,he,List.mem_map.2 ⟨i,List.mem_range.2 (by omega),rfl⟩⟩
theorem nt:x∈wT p↔x∈p.1\/∃e j,e<p.2.length/\0<j/\j+1<cR p e/\x=pq p e j:=by
 unfold wT
 rw[List.mem_append,jV]
 refine or_congr_right ⟨?_,?_⟩
 · rintro⟨e,he,h⟩
   obtain⟨i,hi,rfl⟩:=List.mem_map.1 h
   have:=List.mem_range.1 hi
   exact⟨e,i+1,he,by omega,by omega,rfl⟩
 · rintro⟨e,j,he,h0,hj,rfl⟩
   exact⟨e,he,List.mem_map.2 ⟨j-1,List.mem_range.2 (by omega),by rw[show j-1+1=j by omega]⟩⟩
theorem xN(h:mH a b=mH c d):(a=c/\b=d)\/(a=d/\b=c):=by
 rcases lk a b with⟨h1,h2⟩|⟨h1,h2⟩<;>rcases lk c d with⟨h3,h4⟩|⟨h3,h4⟩<;>rw[h] at h1 h2
 · exact .inl ⟨h1.symm.trans h3,h2.symm.trans h4⟩
 · exact .inr ⟨h1.symm.trans h3,h2.symm.trans h4⟩
 · exact .inr ⟨h2.symm.trans h4,h1.symm.trans h3⟩
 · exact .inl ⟨h2.symm.trans h4,h1.symm.trans h3⟩
variable(hm:bF g)(hc:zl g p)
include hc
theorem zq:(pg p).length+p.1.length=(wT p).length+p.2.length:=by
 have:=kC (f:=λe=>(List.range (cR p e-1)).map λi=>mH (pq p e i) (pq p e (i+1))) (f':=λe=>(List.range (cR p e-2)).map λi=>pq p e (i+1)) (k:=p.2.length) λe he=>by
   have:=ik hc he
   simp only[List.length_map,List.length_range]
   omega
 unfold pg wT
 rw[List.length_append]
 omega
theorem mc(hef:e≠f)(he:e<p.2.length)(hf:f<p.2.length)(h0:0<j)(hj:j+1<cR p e)(hk0:0<k)(hk:k+1<cR p f):pq p e j≠pq p f k:=λh=>by
 have h1:=((kT hc hef he hf hj hk).2.2 (pq p e j) (dB (.inl rfl) (.inl h))).1
 have h2:=nh hc he h0 hj
 exact h1.elim h2.1 h2.2
include hm
theorem lP(he:e<p.2.length):(0<=(gI g.2 (e:Int)).1/\(gI g.2 (e:Int)).1<p.1.length)/\0<=(gI g.2 (e:Int)).2/\(gI g.2 (e:Int)).2<p.1.length:=by
 have h1:=hc.sh.m
 have h2:=hc.sh.n
 rw[h2]
 exact l7 hm (by omega) (by omega)
theorem oH{v w:Int}(hv:0<=v/\v<p.1.length)(hw:0<=w/\w<p.1.length)(h:gI p.1 v=gI p.1 w):v=w:=by
 obtain⟨v,rfl⟩:=Int.eq_ofNat_of_zero_le hv.1
 obtain⟨w,rfl⟩:=Int.eq_ofNat_of_zero_le hw.1
 rcases Nat.lt_trichotomy v w with l|l|l
 · exact absurd h (hc.pl v w l (by omega))
 · rw[l]
 · exact absurd h.symm (hc.pl w v l (by omega))
theorem iC(he:e<p.2.length)(h0:0<j)(hj:j+1<cR p e){v:Int}(hv:0<=v/\v<p.1.length):pq p e j≠gI p.1 v:=λh=>by
 obtain⟨v,rfl⟩:=Int.eq_ofNat_of_zero_le hv.1
 have h2:=nh hc he h0 hj
 have h3:=dR hc he
 by_cases c1:(v:Int)=(gI g.2 (e:Int)).1
 · exact h2.1 (by rw[h,c1,h3.1])
 · by_cases c2:(v:Int)=(gI g.2 (e:Int)).2
   · exact h2.2 (by rw[h,c2,h3.2])
   · refine hc.nd e v he (by omega) c1 c2 (jv.2 ⟨j,hj,?_⟩)
     rw[<-h]
     exact(eH _ _).1
theorem uD(he:e<p.2.length)(hi:i<cR p e):pq p e i∈wT p:=by
 rw[nt]
 have h3:=dR hc he
 obtain⟨h4,h5⟩:=lP hm hc he
 by_cases c1:i=0
 · left;rw[c1,h3.1];exact aR h4.1 h4.2
 · by_cases c2:i+1=cR p e
   · left;rw[show i=cR p e-1 by omega,h3.2];exact aR h5.1 h5.2
   · exact .inr ⟨e,i,he,by omega,by omega,rfl⟩
theorem mD(he:e<p.2.length)(h0:0<j)(hj:j+1<cR p e)(hf:f<p.2.length)(hk:k<cR p f)(h:pq p e j=pq p f k):f=e/\k=j:=by
  have h3:=dR hc hf
  obtain⟨h4,h5⟩:=lP hm hc hf
  by_cases hef:f=e
  · subst hef
    exact⟨rfl,qM hc he h0 hj hk h.symm⟩
  · exfalso
    by_cases c1:k=0
    · rw[c1,h3.1] at h
      exact iC hm hc he h0 hj h4 h
    · by_cases c2:k+1=cR p f
      · rw[show k=cR p f-1 by omega,h3.2] at h
        exact iC hm hc he h0 hj h5 h
      · exact mc hc (Ne.symm hef) he hf h0 hj (by omega) (by omega) h
theorem rE(hf:f<p.2.length)(hk:k<cR p f){v:Int}(hv:0<=v/\v<p.1.length)(h:gI p.1 v=pq p f k):(k=0/\(gI g.2 (f:Int)).1=v)\/(k+1=cR p f/\(gI g.2 (f:Int)).2=v):=by
 have h3:=dR hc hf
 obtain⟨h4,h5⟩:=lP hm hc hf
 by_cases c1:k=0
 · rw[c1,h3.1] at h
   exact .inl ⟨c1,(oH hm hc hv h4 h).symm⟩
 · by_cases c2:k+1=cR p f
   · rw[show k=cR p f-1 by omega,h3.2] at h
     exact .inr ⟨c2,(oH hm hc hv h5 h).symm⟩
   · exact absurd h.symm (iC hm hc hf (by omega) (by omega) hv)
theorem yb:(wT p).Nodup:=by
 unfold wT
 rw[List.nodup_append]
 refine⟨?_,qc (λe he=>lm λi k hik hk h=>?_) (λe e' hl he' x hx hx'=>?_),λx hx y hy e=>?_⟩
 · rw[List.Nodup,List.pairwise_iff_getElem]
   intro i j hi hj hij
   have:=hc.pl i j hij hj
   simpa[gI,List.getElem?_eq_getElem hi,List.getElem?_eq_getElem hj] using this
 · have:=qM hc he (j:=k+1) (k:=i+1) (by omega) (by omega) (by omega) h
   omega
 · obtain⟨i,hi,rfl⟩:=List.mem_map.1 hx
   obtain⟨k,hk,h⟩:=List.mem_map.1 hx'
   have:=List.mem_range.1 hi
   have:=List.mem_range.1 hk
   exact mc hc (show e≠e' by omega) (by omega) he' (by omega) (by omega) (by omega) (by omega) h.symm
 · obtain⟨q,hq,hy⟩:=jV.1 hy
   obtain⟨i,hi,rfl⟩:=List.mem_map.1 hy
   have:=List.mem_range.1 hi
   obtain⟨v,hv,rfl⟩:=ja hx
   exact iC hm hc hq (show 0<i+1 by omega) (by omega) (v:=(v:Int)) (by omega) e.symm
theorem Al:xJ (pg p) (wT p):=by
 refine⟨?_,λs hs=>?_,λs hs=>?_,λs hs x hx h1 h2 h=>?_,λs hs t ht=>?_⟩
 · unfold pg
   refine qc (λe he=>lm λi k hik hk h=>?_) (λe e' hl he' x hx hx'=>?_)
   · obtain⟨_,hu,_⟩:=fz hc he hik (show k+1<cR p e by omega)
     have hx:=xN h
     exact gV hc he (show i+1<cR p e by omega) (hu _ _ (dB (.inl rfl) (hx.imp (λh=>h.1) λh=>h.1)) (dB (.inr rfl) ((hx.imp (λh=>h.2) λh=>h.2).symm)))
   · obtain⟨i,hi,rfl⟩:=List.mem_map.1 hx
     obtain⟨k,hk,h⟩:=List.mem_map.1 hx'
     have:=List.mem_range.1 hi
     have:=List.mem_range.1 hk
     obtain⟨_,hu,_⟩:=kT hc (show e≠e' by omega) (by omega) he' (show i+1<cR p e by omega) (show k+1<cR p e' by omega)
     have hx:=xN h.symm
     exact gV hc (show e<p.2.length by omega) (show i+1<cR p e by omega) (hu _ _ (dB (.inl rfl) (hx.imp (λh=>h.1) λh=>h.1)) (dB (.inr rfl) ((hx.imp (λh=>h.2) λh=>h.2).symm)))
 · obtain⟨e,i,he,hi,rfl⟩:=fu.1 hs
   exact zU (gV hc he hi)
 · obtain⟨e,i,he,hi,rfl⟩:=fu.1 hs
   have h1:=uD hm hc he (show i<cR p e by omega)
   have h2:=uD hm hc he hi
   rcases lk (pq p e i) (pq p e (i+1)) with⟨k1,k2⟩|⟨k1,k2⟩<;>rw[k1,k2]
   · exact⟨h1,h2⟩
   · exact⟨h2,h1⟩
 · obtain⟨e,i,he,hi,rfl⟩:=fu.1 hs
   have ho:=zZ h1 h2 h
   have hb:=lk (pq p e i) (pq p e (i+1))
   have ho':dc (pq p e i) (pq p e (i+1)) x:=by
     rcases hb with⟨k1,k2⟩|⟨k1,k2⟩<;>rw[k1,k2] at ho
     · exact ho
     · exact tF.1 ho
   have hx1:x≠pq p e i/\x≠pq p e (i+1):=by
     have n1:=t6 h1
     have n2:=t6 h2
     rcases hb with⟨k1,k2⟩|⟨k1,k2⟩<;>rw[k1] at n1<;>rw[k2] at n2
     · exact⟨n1.symm,n2⟩
     · exact⟨n2,n1.symm⟩
   have hown:∀j,j<cR p e->x≠pq p e j:=λj hj ej=>by
     rw[ej] at ho' hx1
     exact(pT hc he hi hj ho').elim hx1.1 hx1.2
   have h3:=dR hc he
   have:=ik hc he
   rcases nt.1 hx with hx|⟨f,j,hf,h0,hj,rfl⟩
   · obtain⟨v,hv,rfl⟩:=ja hx
     by_cases c1:(v:Int)=(gI g.2 (e:Int)).1
     · exact hown 0 (by omega) (by rw[h3.1,c1])
     · by_cases c2:(v:Int)=(gI g.2 (e:Int)).2
       · exact hown (cR p e-1) (by omega) (by rw[h3.2,c2])
       · exact hc.nd e v he hv c1 c2 (jv.2 ⟨i,hi,ho'⟩)
   · by_cases hef:e=f
     · subst hef
       exact hown j (by omega) rfl
     · rcases((kT hc hef he hf hi hj).2.2 _ (ql ho' (.inl rfl))).1 with h|h
       · exact hown 0 (by omega) h
       · exact hown (cR p e-1) (by omega) h
 · obtain⟨e,i,he,hi,rfl⟩:=fu.1 hs
   obtain⟨f,k,hf,hk,rfl⟩:=fu.1 ht
   rw[nM,<-jG,nM,jG]
   by_cases hef:e=f
   · subst hef
     rcases Nat.lt_trichotomy i k with l|l|l
     · exact(fz hc he l hk).1
     · subst l
       exact λh=>iX h (e:=pq p e i) (by simp) ⟨(eH _ _).1,(eH _ _).1⟩
     · exact λh=>(fz hc he l hi).1 ((jG _ _ _ _).1 h)
   · exact(kT hc hef he hf hi hk).1
theorem tm:((x,y)∈pg p\/(y,x)∈pg p)↔∃f k,f<p.2.length/\k+1<cR p f/\(x=pq p f k/\y=pq p f (k+1)\/x=pq p f (k+1)/\y=pq p f k):=by
 rw[fu,fu]
 constructor
 · rintro(⟨e,i,he,hi,h⟩|⟨e,i,he,hi,h⟩)
   · exact⟨e,i,he,hi,(qe (gV hc he hi)).1 (.inl h)⟩
   · exact⟨e,i,he,hi,(qe (gV hc he hi)).1 (.inr h)⟩
 · rintro⟨e,i,he,hi,h⟩
   rcases(qe (gV hc he hi)).2 h with h|h
   · exact .inl ⟨e,i,he,hi,h⟩
   · exact .inr ⟨e,i,he,hi,h⟩
theorem xr(he:e<p.2.length)(hj:j+2<cR p e):((pq p e (j+1),y)∈pg p\/(y,pq p e (j+1))∈pg p)↔(y=pq p e j\/y=pq p e (j+2)):=by
 rw[tm hm hc]
 constructor
 · rintro⟨f,k,hf,hk,⟨h1,h2⟩|⟨h1,h2⟩⟩
   · obtain⟨rfl,rfl⟩:=mD hm hc he (by omega) hj hf (by omega) h1
     exact .inr h2
   · obtain⟨rfl,hk⟩:=mD hm hc he (by omega) hj hf hk h1
     exact .inl (by rw[h2,show k=j by omega])
 · rintro(h|h)
   · exact⟨e,j,he,by omega,.inr ⟨rfl,h⟩⟩
   · exact⟨e,j+1,he,hj,.inl ⟨rfl,h⟩⟩
end
end TL
/-
  TlPla6: the rotation of a plot without flaws is planar: labels of half-edges, one for each face at most.
  By an AI agent.
-/
set_option linter.all false
namespace TL
theorem lb{α:Type}[DecidableEq α]:∀(D A:List α),D.Nodup->(∀p∈D,p∈A)->D.length<=A.length
 |[],A,_,_=>Nat.zero_le _
 |a::D,A,hn,hs=>by
   have hn':=List.nodup_cons.1 hn
   have ha:=hs a (.head _)
   have h1:=lb D (A.erase a) hn'.2 (λx hx=>(List.mem_erase_of_ne (λ(e:x=a)=>hn'.1 (by rw[<-e];exact hx))).2 (hs x (.tail _ hx)))
   have h2:=List.length_erase_of_mem ha
   have h3:0<A.length:=List.length_pos_of_mem ha
   simp only[List.length_cons]
   omega
theorem uN{α:Type}{N:List α}{a b:α}(hn:N.Nodup)(hm:∀q,q∈N↔(q=a\/q=b))(hab:a≠b):N=[a,b]\/N=[b,a]:=by
 match N,hn,hm with
 |[],_,hm=>exact absurd ((hm a).2 (.inl rfl)) (by simp)
 |[c],_,hm=>
   have h1:a=c:=by simpa using(hm a).2 (.inl rfl)
   have h2:b=c:=by simpa using(hm b).2 (.inr rfl)
   exact absurd (h1.trans h2.symm) hab
 |[c,d],hn,hm=>
   have hcd:c≠d:=λe=>by subst e;simp at hn
   rcases(hm c).1 (by simp) with h1|h1<;>rcases(hm d).1 (by simp) with h2|h2
   · exact absurd (h1.trans h2.symm) hcd
   · exact .inl (by rw[h1,h2])
   · exact .inr (by rw[h1,h2])
   · exact absurd (h1.trans h2.symm) hcd
 |c::d::e::l,hn,hm=>
   have h0:=List.nodup_cons.1 hn
   have h3:=List.nodup_cons.1 h0.2
   have hcd:c≠d:=λk=>h0.1 (by simp[k])
   have hce:c≠e:=λk=>h0.1 (by simp[k])
   have hde:d≠e:=λk=>h3.1 (by simp[k])
   rcases(hm c).1 (by simp) with h1|h1<;>rcases(hm d).1 (by simp) with h2|h2<;>rcases(hm e).1 (by simp) with h4|h4
   · exact absurd (h1.trans h2.symm) hcd
   · exact absurd (h1.trans h2.symm) hcd
   · exact absurd (h1.trans h4.symm) hce
   · exact absurd (h2.trans h4.symm) hde
   · exact absurd (h2.trans h4.symm) hde
   · exact absurd (h1.trans h4.symm) hce
   · exact absurd (h1.trans h2.symm) hcd
   · exact absurd (h1.trans h2.symm) hcd
theorem yu{p x:Pt}:¬vl p x x:=λh=>xM h h
section
variable{x y o:Pt}{g:bG}{p:dp}{e f i j k v:Nat}{lf:Pt->Pt->Nat}{l:List Int}
def tt(p:dp)(lf:Pt->Pt->Nat):Prop:=∀q∈wT p,∃N:List Pt,N.Pairwise (vl q)/\(∀y,y∈N↔(q,y)∈pg p\/(y,q)∈pg p)/\∀(u w r:List Pt) (a b:Pt),N=u++a::w->w++u++[a]=b::r->lf q b=lf a q
theorem jB(p:dp)(e:Nat):dn p (2*(e:Int))=pq p e 1:=by
 unfold dn pq
 rw[if_pos (by omega),show 2*(e:Int)/2=e by omega]
 rfl
theorem kQ(p:dp)(e:Nat)(h:2<=cR p e):dn p (2*(e:Int)+1)=pq p e (cR p e-2):=by
 unfold dn pq
 rw[if_neg (by omega),show(2*(e:Int)+1)/2=e by omega]
 congr 1
 unfold cR at h ⊢
 omega
theorem iB(g:bG)(e:Nat):aL g (2*(e:Int))=(gI g.2 (e:Int)).1:=by
 unfold aL pI
 rw[show 2*(e:Int)/2=e by omega,show 2*(e:Int)%2=0 by omega]
 simp
theorem jm(g:bG)(e:Nat):aL g (2*(e:Int)+1)=(gI g.2 (e:Int)).2:=by
 unfold aL pI
 rw[show(2*(e:Int)+1)/2=e by omega,show(2*(e:Int)+1)%2=1 by omega]
 simp
theorem yY(hz:jc o (dF p l))(hb:¬lD p o l):((tuL p o l).map (dn p)).Pairwise (vl o):=by
  obtain⟨h1,h2⟩:=gE hz
  unfold tuL
  rw[List.map_map,List.pairwise_map]
  rw[List.pairwise_iff_forall_sublist] at h1 ⊢
  intro a b hab
  have h:=h1 hab
  have ha:=(h2 a).1 (hab.subset (by simp))
  have hb':=(h2 b).1 (hab.subset (by simp))
  have hl:(dF p l).length=l.length:=by simp[dF]
  have ea:∀a:Int,0<=a->a<(dF p l).length->gI (dF p l) a=dn p (gI l a):=λa h0 h1=>r9 h0 (by omega)
  have hne:a≠b:=λe=>by
    subst e
    exact fU _ _ h
  have hns:¬d8 (vA o (dF p l) a) (vA o (dF p l) b):=λhs=>hb (zb hz ha hb' hne hs)
  have n1:=hz.nz ha.1 ha.2
  have n2:=hz.nz hb'.1 hb'.2
  have h:ph (vA o (dF p l) a) (vA o (dF p l) b) a b:=h
  unfold vA at h hns n1 n2
  rw[ea a ha.1 ha.2,ea b hb'.1 hb'.2] at h hns
  rw[ea a ha.1 ha.2] at n1
  rw[ea b hb'.1 hb'.2] at n2
  show vl o (dn p (gI l a)) (dn p (gI l b))
  unfold ph at h
  rcases h with h|⟨h,h'|⟨h',_⟩⟩
  · exact .inl h
  · exact .inr ⟨h,h'⟩
  · exact absurd (rk n1 n2 h h') hns
variable(hm:bF g)(hc:zl g p)
include hm hc
theorem ju(hK:tt p lf)(he:e<p.2.length):∀j:Nat,j+1<cR p e->lf (pq p e j) (pq p e (j+1))=lf (pq p e 0) (pq p e 1)/\lf (pq p e (j+1)) (pq p e j)=lf (pq p e 1) (pq p e 0)
 |0,_=>⟨rfl,rfl⟩
 |j+1,hj=>by
   have ih:=ju hK he j (by omega)
   obtain⟨N,h1,h2,h3⟩:=hK (pq p e (j+1)) (uD hm hc he (by omega))
   have hn:N.Nodup:=h1.imp λ {a b} h e=>by subst e;exact yu h
   have hab:pq p e j≠pq p e (j+2):=λh=>by
     have hu:=(fz hc he (show j<j+1 by omega) hj).2.1 (pq p e j) (pq p e (j+1)) (dB (.inl rfl) (.inr h)) (dB (.inr rfl) (.inl rfl))
     exact gV hc he (show j+1<cR p e by omega) hu
   have hm2:∀q,q∈N↔(q=pq p e j\/q=pq p e (j+2)):=λq=>(h2 q).trans (xr hm hc he (by omega))
   have key:lf (pq p e (j+1)) (pq p e (j+2))=lf (pq p e j) (pq p e (j+1))/\lf (pq p e (j+1)) (pq p e j)=lf (pq p e (j+2)) (pq p e (j+1)):=by
     rcases uN hn hm2 hab with e1|e1
     · exact⟨h3 [] [pq p e (j+2)] [pq p e j] _ _ e1 rfl,h3 [pq p e j] [] [pq p e (j+2)] _ _ e1 rfl⟩
     · exact⟨h3 [pq p e (j+2)] [] [pq p e j] _ _ e1 rfl,h3 [] [pq p e j] [pq p e (j+2)] _ _ e1 rfl⟩
   exact⟨key.1.trans ih.1,key.2.symm.trans ih.2⟩
def kk(g:bG)(p:dp)(lf:Pt->Pt->Nat)(h:Int):Nat:=lf (gI p.1 (aL g h)) (dn p h)
theorem o9(he:e<p.2.length):kk g p lf (2*(e:Int))=lf (pq p e 0) (pq p e 1):=by
 unfold kk
 rw[iB,jB,(dR hc he).1]
theorem rA(hK:tt p lf)(he:e<p.2.length):kk g p lf (2*(e:Int)+1)=lf (pq p e 1) (pq p e 0):=by
 unfold kk
 have h2:=ik hc he
 rw[jm,kQ p e h2,<-(dR hc he).2,<-(ju hm hc hK he (cR p e-2) (by omega)).2,show cR p e-2+1=cR p e-1 by omega]
theorem oW{h:Int}(h0:0<=h)(h1:h<2*(g.2.length:Int)):∃e:Nat,e<p.2.length/\(h=2*(e:Int)\/h=2*(e:Int)+1):=by
 have:=hc.sh.m
 exact⟨(h/2).toNat,by omega,by omega⟩
theorem tz(hK:tt p lf){h:Int}(h0:0<=h)(h1:h<2*(g.2.length:Int)):lf (dn p (bX h)) (gI p.1 (aL g (bX h)))=kk g p lf h:=by
  obtain⟨e,he,rfl|rfl⟩:=oW hm hc h0 h1
  · have h2:=ik hc he
    rw[o9 hm hc he,show bX (2*(e:Int))=2*(e:Int)+1 by unfold bX;rw[if_pos (by omega)],kQ p e h2,jm,<-(dR hc he).2,<-(ju hm hc hK he (cR p e-2) (by omega)).1,show cR p e-2+1=cR p e-1 by omega]
  · rw[rA hm hc hK he,show bX (2*(e:Int)+1)=2*(e:Int) by unfold bX;rw[if_neg (by omega)];omega,jB,iB,(dR hc he).1]
theorem wC(hv:v<p.1.length):((gI p.1 (v:Int),y)∈pg p\/(y,gI p.1 (v:Int))∈pg p)↔∃h∈bP g (v:Int),y=dn p h:=by
 rw[tm hm hc]
 have hmm:=hc.sh.m
 constructor
 · rintro⟨f,k,hf,hk,⟨h1,h2⟩|⟨h1,h2⟩⟩
   · rcases rE hm hc hf (show k<cR p f by omega) (by omega) h1 with⟨k1,k2⟩|⟨k1,_⟩
     · refine⟨2*(f:Int),jt.2 ⟨by omega,by rw[iB,k2]⟩,?_⟩
       rw[jB,h2,k1]
     · omega
   · rcases rE hm hc hf hk (by omega) h1 with⟨k1,_⟩|⟨k1,k2⟩
     · omega
     · refine⟨2*(f:Int)+1,jt.2 ⟨by omega,by rw[jm,k2]⟩,?_⟩
       rw[kQ p f (by omega),h2]
       congr 1
       omega
 · rintro⟨h,hh,rfl⟩
   obtain⟨⟨h0,h1⟩,hf⟩:=jt.1 hh
   obtain⟨e,he,rfl|rfl⟩:=oW hm hc h0 h1
   · rw[iB] at hf
     refine⟨e,0,he,by have:=ik hc he;omega,.inl ⟨?_,jB p e⟩⟩
     rw[(dR hc he).1,hf]
   · have h2:=ik hc he
     rw[jm] at hf
     refine⟨e,cR p e-2,he,by omega,.inr ⟨?_,kQ p e h2⟩⟩
     rw[show cR p e-2+1=cR p e-1 by omega,(dR hc he).2,hf]
variable(hfew:(g.2.length:Int)<=2000)(hb:¬m5 g p)
include hfew hb
theorem uP(hK:tt p lf){h:Int}(h0:0<=h)(h1:h<2*(g.2.length:Int)):kk g p lf (eJ (tuS g p) (bX h))=kk g p lf h:=by
  have hr:=kY hm hc hfew
  have ht:=jE h0 h1
  obtain⟨v,hv,hh⟩:=lW hr ht.1 ht.2
  have hfv:=(hr.2.1 v (by omega) _ hh).2
  have hvn:v<p.1.length:=by
    have:=hc.sh.n
    have:=hr.1
    omega
  have hvg:(v:Int)<g.1:=by have:=hr.1;omega
  rw[<-tz hm hc hK h0 h1,hfv,ir hr hv hh]
  have hmem:=hh
  have erow:=xO (p:=p) hm hvg
  obtain⟨u,w,huw⟩:=List.append_of_mem hh
  have hnd:(gI (tuS g p) (v:Int)).Nodup:=hr.2.2.1.sublist (gu (aR (by omega) (by omega)))
  have hu:bX h∉u:=λhu=>by
    rw[huw] at hnd
    exact(List.nodup_append.1 hnd).2.2 _ hu _ (.head _) rfl
  obtain⟨z,r,hzr⟩:∃z r,w++u++[bX h]=z::r:=by
    cases hx:w++u++[bX h] with
    |nil=>simp at hx
    |cons z r=>exact⟨z,r,rfl⟩
  have hnx:mm (gI (tuS g p) (v:Int)) (bX h)=z:=by
    rw[huw,dE hu,hzr];rfl
  rw[hnx]
  have hz:z∈gI (tuS g p) (v:Int):=by
    have:z∈w++u++[bX h]:=by rw[hzr];exact .head _
    rw[huw]
    simp only[List.mem_append,List.mem_cons,List.not_mem_nil,or_false] at this ⊢
    rcases this with(h|h)|h
    · exact .inr (.inr h)
    · exact .inl h
    · exact .inr (.inl h)
  have hzv:=(hr.2.1 v (by omega) _ hz).2
  unfold kk
  rw[hzv]
  obtain⟨N,n1,n2,n3⟩:=hK (gI p.1 (v:Int)) (nt.2 (.inl (aR (by omega) (by omega))))
  have hbv:¬lD p (gI p.1 (v:Int)) (bP g (v:Int)):=λh=>hb ⟨v,by omega,h⟩
  have hcw:=yY (lU hm hc hfew (v:Int)).2 hbv
  rw[<-erow] at hcw
  have hN:(gI (tuS g p) (v:Int)).map (dn p)=N:=by
    refine pC (R:=vl (gI p.1 (v:Int))) (λa _ b _ h=>xM h) hcw n1 λq=>?_
    rw[n2,wC hm hc hvn,List.mem_map,erow]
    have hp:=rj (lU hm hc hfew (v:Int)).2
    constructor
    · rintro⟨a,ha,rfl⟩;exact⟨a,hp.mem_iff.1 ha,rfl⟩
    · rintro⟨a,ha,rfl⟩;exact⟨a,hp.mem_iff.2 ha,rfl⟩
  refine n3 (u.map (dn p)) (w.map (dn p)) (r.map (dn p)) _ _ ?_ ?_
  · rw[<-hN,huw,List.map_append,List.map_cons]
  · have:=congrArg (List.map (dn p)) hzr
    simpa using this
theorem uM(hE:0<g.2.length):(g.2.length:Int)+2<=((cx (bb g (tuS g p)) (tuS g p)).length:Int)+g.1:=by
 have hr:=kY hm hc hfew
 have hmm:=hc.sh.m
 have hnn:=hc.sh.n
 have hS:pg p≠[]:=λe=>by
   have h0:0<p.2.length:=by omega
   have:mH (pq p 0 0) (pq p 0 1)∈pg p:=fu.2 ⟨0,0,h0,by have:=ik hc h0;omega,rfl⟩
   rw[e] at this;cases this
 obtain⟨lf,T,t1,t2,t3,hK⟩:=zO (Al hm hc) (yb hm hc) hS
 have hK:tt p lf:=hK
 obtain⟨hp,_⟩:=qX hr
 obtain⟨f1,f2,f3,_⟩:=mM hp
 have hl:=eT g (tuS g p)
 have hlab:∀f∈c4 (bb g (tuS g p)) (bI (bb g (tuS g p)).length) [],∀i:Nat,i<f.length->kk g p lf (gI f (i:Int))=kk g p lf (gI f 0):=λf hf i=>by
   have hk:=f1 f hf
   induction i with
   |zero=>intro _;rfl
   |succ i ih=>
     intro hi
     have hin:=hk.inn _ (aR (xs:=f) (i:=(i:Int)) (by omega) (by omega))
     have hin1:=hin.1
     have hin2:=hin.2
     rw[show(((i+1:Nat)):Int)=(i:Int)+1 by omega,hk.chain i hi,jn hin1 (by omega),uP hm hc hfew hb hK hin1 (by omega)]
     exact ih (by omega)
 have hin:∀h:Int,0<=h->h<2*(g.2.length:Int)->kk g p lf h∈(c4 (bb g (tuS g p)) (bI (bb g (tuS g p)).length) []).map λf=>kk g p lf (gI f 0):=λh h0 h1=>by
   obtain⟨f,hf,hx⟩:=List.mem_flatten.1 (f3 h ⟨h0,by omega⟩)
   obtain⟨j,hj,e⟩:=ja hx
   refine List.mem_map.2 ⟨f,hf,?_⟩
   rw[<-e,hlab f hf j hj]
 have hT:T.length<=((c4 (bb g (tuS g p)) (bI (bb g (tuS g p)).length) []).map λf=>kk g p lf (gI f 0)).length:=by
   refine lb _ _ t1 λt ht=>?_
   obtain⟨s,hs,h⟩:=t2 t ht
   obtain⟨e,i,he,hi,rfl⟩:=fu.1 hs
   have hline:=ju hm hc hK he i hi
   have h':lf (pq p e i) (pq p e (i+1))=t\/lf (pq p e (i+1)) (pq p e i)=t:=by
     rcases lk (pq p e i) (pq p e (i+1)) with⟨k1,k2⟩|⟨k1,k2⟩<;>rw[k1,k2] at h
     · exact h
     · exact h.symm
   rcases h' with h'|h'
   · rw[<-h',hline.1,<-o9 (lf:=lf) hm hc he]
     exact hin _ (by omega) (by omega)
   · rw[<-h',hline.2,<-rA hm hc hK he]
     exact hin _ (by omega) (by omega)
 rw[List.length_map] at hT
 have hF:(c4 (bb g (tuS g p)) (bI (bb g (tuS g p)).length) []).length<=(cx (bb g (tuS g p)) (tuS g p)).length:=by
   unfold cx
   rw[List.length_append]
   omega
 have:=zq (p:=p) hc
 omega
end
end TL
/-
  TlJPla: a plot without flaws, where half-edges leave in unlike directions, has a planar rotation, if its net is connected.
  By an AI agent.
-/
set_option linter.all false
namespace TL
section
variable{g:bG}{p:dp}{r:bY}
theorem qh(hr:cM g r):bb g (cG r)=bb g r:=by
 unfold bb
 refine List.map_congr_left λk hk=>?_
 have hk:=cY.1 hk
 have ht:=jE (h:=k) (n:=(g.2.length:Int)) hk.1 (by omega)
 exact ob hr ht.1 ht.2
theorem oF(hr:cM g r):(cx (bb g (cG r)) (cG r)).length=(cx (bb g r) r).length:=by
 rw[qh hr]
 unfold cx
 rw[List.length_append,List.length_append,List.length_map,List.length_map,oq]
theorem te(hm:bF g):(bE g).2.1<=g.1:=(mV g hm).2
theorem qd(hr:cM g r)(h:g.2.length=0):g.1<=((cx (bb g r) r).length:Int):=by
 obtain⟨h1,h2,h3,h4⟩:=hr
 have e:r.filter (λl=>decide (l.length=0))=r:=List.filter_eq_self.2 λl hl=>by
   have:=(gu hl).length_le
   simp only[decide_eq_true_eq]
   omega
 unfold cx
 rw[List.length_append,List.length_map,e]
 omega
structure Ad(g:bG)(p:dp):Prop where
 may:bF g
 ck:aU g p=([],0)
 rot:cM g (turnsR g p).1
 gen:¬1<(bE g).2.1->fk g (turnsR g p).1=0
theorem za(h:¬(turnsR g p).2=0):(turnsR g p).1=[]:=by
 unfold turnsR at h ⊢
 split
 · rename_i h1
   rw[if_pos h1] at h
   split
   · rename_i h2
     rw[if_pos h2] at h
     split
     · rfl
     · rename_i h3
       rw[if_neg h3] at h
       exact absurd rfl h
   · rfl
 · rfl
theorem vo(h:(turnsR g p).2=0)(hfew:bF g->(g.2.length:Int)<=2000):Ad g p:=by
 have hm:bF g:=Classical.byContradiction λc=>by rw[ng c] at h;simp at h
 have hc0:cl g p=[]:=Classical.byContradiction λc=>by rw[lA hm c] at h;simp at h
 have hb:¬m5 g p:=λc=>by rw[jZ hm hc0 c] at h;simp at h
 have hc:=nj.1 hc0
 have hf:=hfew hm
 have hr:=kY hm hc hf
 have et:(turnsR g p).1=cG (tuS g p):=by rw[ll hm hc0 hb]
 refine⟨hm,by unfold aU;rw[if_pos hm,hc0],by rw[et];exact hr.canon,λhq=>?_⟩
 rw[et]
 have ok:=tY hm hr
 have hp:=te hm
 have hF:2*(bE g).2.1+(g.2.length:Int)<=((cx (bb g (tuS g p)) (tuS g p)).length:Int)+g.1:=by
   by_cases hE:g.2.length=0
   · have:=qd hr hE
     omega
   · have:=uM hm hc hf hb (by omega)
     omega
 unfold fk
 rw[oF hr,show 2*(bE g).2.1-g.1+(g.2.length:Int)-((cx (bb g (tuS g p)) (tuS g p)).length:Int)=0 by omega]
 rfl
end
end TL
/-
  TlOpen: arguments opened: what a law's reader says of a slice is what a walk wants of it.
  By an AI agent.
-/
namespace TL
open Go Go.Proofs Go.ChangeShapes Go.WideShapes Go.Joins Go.Deep
structure j9{H:Type}(f:DataW H->Nat):Prop where
 slice:∀l s:List (DataW H),l.length<=f (.slice l s)
 elem:∀l s:List (DataW H),∀d∈l,f d<=f (.slice l s)
 part:∀l:List (DataW H),∀d∈l,f d<=f (.agg l)
def wD(α:Type)[Rp α](P:Program)(t:TypeId):Prop:=
  ∀{H:Type} (enc:TypeId×Value->H) (w:World) (fuel:Nat) (cs:List Value) (x:DataW H×List MemPlace),DataW.trod enc P w 0 (λ_=>true) true fuel t cs=some x->∃y:α,Rp.rep c0 any w cs y
theorem qL{P:Program}{t:TypeId}(ht:P.underlying t=some (.int .i64)):wD Int P t:=by
 intro H enc w fuel cs x h
 obtain⟨n,rfl,_,_⟩:=DataW.trod_int ht h
 exact⟨n,rfl⟩
theorem oS{H:Type}{enc:TypeId×Value->H}{P:Program}{w:World}{base:Nat}{spare:Nat->Bool}{held:Bool}{t e:TypeId}{fuel:Nat}{cs:List Value}{x:DataW H×List MemPlace}(ht:P.underlying t=some (.array 2 e))(hce:P.cellsOf e=1)(hct:P.cellsOf t=2)
   (h:DataW.trod enc P w base spare held fuel t cs=some x):
   ∃v0 v1 y0 y1 n,cs=[v0,v1]/\x=(.agg [y0.1,y1.1],y0.2++y1.2)/\DataW.trod enc P w base spare held n e [v0]=some y0/\DataW.trod enc P w base spare held n e [v1]=some y1:=by
 cases fuel with
 |zero=>simp[DataW.trod] at h
 |succ n=>
   unfold DataW.trod at h
   rw[ht] at h
   have r2:List.range 2=[0,1]:=rfl
   simp only[hct] at h
   by_cases hl:cs.length=2
   · rw[if_pos hl] at h
     match cs,hl with
     |[v0,v1],_=>
       simp[r2,hce] at h
       cases h0:DataW.trod enc P w base spare held n e [v0] with
       |none=>simp[h0] at h
       |some y0=>
         cases h1:DataW.trod enc P w base spare held n e [v1] with
         |none=>simp[h0,h1] at h
         |some y1=>
           simp[h0,h1] at h
           exact⟨v0,v1,y0,y1,n,rfl,h.symm,h0,h1⟩
   · rw[if_neg hl] at h;cases h
theorem x0{P:Program}{t e:TypeId}(ht:P.underlying t=some (.array 2 e))(he:P.underlying e=some (.int .i64))(hce:P.cellsOf e=1)(hct:P.cellsOf t=2):wD (Int×Int) P t:=by
 intro H enc w fuel cs x h
 obtain⟨v0,v1,y0,y1,n,rfl,_,h0,h1⟩:=oS ht hce hct h
 obtain⟨a,ha⟩:=qL he enc w n [v0] y0 h0
 obtain⟨b,hb⟩:=qL he enc w n [v1] y1 h1
 exact⟨(a,b),[v0],[v1],rfl,ha,hb⟩
theorem s5{α:Type}[Rp α][Inhabited α]{P:Program}{t e:TypeId}(ht:P.underlying t=some (.slice e))(hc:P.cellsOf e=Rp.sz α)(hz:0<Rp.sz α)(he:wD α P e)
    {H:Type}{enc:TypeId×Value->H}{w:World}{f:DataW H->Nat}(hf:j9 f){fuel:Nat}{v:Value}{x:DataW H×List MemPlace}
    (hs:∀a len cap,v= .slice (some a) len cap->a.spot=none)(h:DataW.trod enc P w 0 (λ_=>true) true fuel t [v]=some x)(hb:f x.1<=1048576):∃xs:List α,Ro w v xs:=by
  rcases Deep.open_slice ht h with⟨h0,_⟩|⟨a,len,cap,m,n,D,Pl,h0,_,hlc,_,hm,rfl,hx⟩
  · obtain rfl:v= .slice none 0 0:=by simpa using h0
    exact⟨[],.inl ⟨⟨_,rfl⟩,rfl⟩⟩
  · obtain rfl:v= .slice (some a) len cap:=by simpa using h0
    have hsp:=hs a len cap rfl
    obtain⟨b,off,spot⟩:=a
    obtain rfl:spot=none:=hsp
    simp only[if_true] at hm
    subst hm
    obtain⟨Y,hY⟩:=Deep.choose_lt (α:=α) (n:=len) (p:=λi y=>∃cs,(∀j,j<Rp.sz α->w.cell? ⟨b,off+i*Rp.sz α+j,none⟩=cs[j]?)/\Rp.rep c0 any w cs y) (λi hi=>by
      obtain⟨cs',h1,h2⟩:=hx i (by omega)
      obtain⟨y,hy⟩:=he enc w n cs' _ h2
      refine⟨y,cs',λj hj=>?_,hy⟩
      obtain⟨_,hl,hcell⟩:=World.cells?_some h1
      have:=hcell j (by omega)
      rw[Deep.add_add,hc] at this
      rw[<-this]
      unfold Addr.add
      by_cases hij:i*Rp.sz α+j=0
      · rw[if_pos hij,Nat.add_assoc,hij];rfl
      · rw[if_neg hij,Nat.add_assoc])
    have hlen:((List.range len).map Y).length=len:=by simp
    have hbound:=Nat.le_trans (hf.slice _ _) hb
    refine⟨(List.range len).map Y,.inr ⟨b,off,m,by rw[hlen],⟨by omega,by simp at hbound;omega⟩,λi y hi=>?_⟩⟩
    have hil:i<len:=by
      have:=(List.getElem?_eq_some_iff.1 hi).1
      omega
    obtain rfl:Y i=y:=by simpa[hil] using hi
    obtain⟨cs,h1,h2⟩:=hY i hil
    refine⟨?_,trivial,cs,h1,h2⟩
    have h3:=h1 0 hz
    have h4:=Rp.len h2
    have h5:0<cs.length:=by omega
    rw[List.getElem?_eq_getElem h5] at h3
    by_cases hbl:b<w.heap.size
    · exact hbl
    · have:w.heap[b]? =none:=Array.getElem?_eq_none (by omega)
      simp[World.cell?,this] at h3
theorem gQ{P:Program}{w:World}{base:Nat}{t e:TypeId}{v:Value}(ht:P.underlying t=some (.slice e))(h:Cell.okWide P w .any base t v):∀a len cap,v= .slice (some a) len cap->a.spot=none:=by
 rintro a len cap rfl
 simp only[Cell.okWide,Cell.ok,ht] at h
 exact h.2.2.2.1
theorem wL{α:Type}[Rp α][Inhabited α]{P:Program}{t t0 t1 e:TypeId}{f0 f1:Field}(hs:P.underlying t=some (.struct #[f0,f1]))(hone:oneCellFields P #[f0,f1]=true)(hC:P.cellsOf t=2)(hts:P.cellTypes P.depth t=some [t0,t1])
    (h0:f0.type=t0)(h1:f1.type=t1)(hi:P.underlying t0=some (.int .i64))(ht:P.underlying t1=some (.slice e))(hc:P.cellsOf e=Rp.sz α)(hz:0<Rp.sz α)(he:wD α P e)
    {H:Type}{enc:TypeId×Value->H}{w:World}{f:DataW H->Nat}(hf:j9 f){base:Nat}{v:Value}{d:DataW H}{p:List MemPlace}
    (hval:Value.okWide P w .any base t v)(h:DataW.Trod enc P w 0 (λ_=>true) true t v d p)(hb:f d<=1048576):∃(n:Int) (u:Value) (xs:List α),v= .agg #[.int .i64 n,u]/\Ro w u xs:=by
  obtain⟨v0,v1,y0,y1,n,rfl,rfl,rfl,r0,r1⟩:=open_agg2 hs hone hC hval h
  subst h0 h1
  obtain⟨k,hk,_,_⟩:=DataW.trod_int hi r0
  obtain rfl:v0= .int .i64 k:=by simpa using hk
  have hcell:Cell.okWide P w .any base f1.type v1:=by
    simp only[Value.okWide,hs] at hval
    obtain⟨cs,hcs,_,ts,h3,_,h4⟩:=hval
    rw[hts] at h3
    obtain rfl:=Option.some.inj h3
    obtain rfl: #[Value.int .i64 k,v1]=cs:=by simpa using hcs
    obtain⟨u,hu,hk⟩:=h4 1 v1 rfl
    simp at hu
    subst hu
    exact hk
  obtain⟨xs,hx⟩:=s5 ht hc hz he hf (gQ ht hcell) (x:=y1) r1 (Nat.le_trans (hf.part _ _ (by simp)) hb)
  exact⟨k,v1,xs,rfl,hx⟩
end TL
