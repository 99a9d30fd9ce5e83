/-
  TlSortA: points sorted round another one: the library's sort by the program's comparison.
  By an AI agent.
-/
import Derived.Test.YtbadiajeohbpcaaGreatProg
import Derived.Test.YtbadiajeohbpcaaGreatTlP3
import Derived.Test.YtbadiajeohbpcaaGreatTlGmG
import Derived.Shelf.SlSortCmp.NoneTotal
set_option linter.all false
namespace TL
open Go Go.Proofs Go.Shelf Go.Sort Go.Lib
def mB:Go.Shelf.Ren:=⟨λ|6=>63|15=>88|14=>87|28=>111|29=>112|20=>103|21=>104|22=>105|23=>106|24=>107|25=>108|26=>109|27=>110|46=>118|47=>119|48=>120|49=>121|50=>122|57=>124|n=>n,λ|22=>70|24=>3|25=>95|3=>3|39=>114|0=>0|53=>136|55=>138|4=>4|46=>129|45=>128|50=>133|5=>5|9=>9|66=>142|70=>146|76=>148|77=>149|n=>n,λ|n=>n⟩
theorem yV:Go.Proofs.SlLaysF.n6 Tryz.prog mB where
  mixed:=by kernel_rfl
  f6:=⟨Tryz.f63.name,by decide+kernel,Tryz.func63.trans (congrArg some (by kernel_rfl))⟩
  f14:=⟨Tryz.f87.name,by decide+kernel,Tryz.func87.trans (congrArg some (by kernel_rfl))⟩
  f15:=Tryz.func88.trans (congrArg some (by kernel_rfl))
  f20:=⟨Tryz.f103.name,by decide+kernel,Tryz.func103.trans (congrArg some (by kernel_rfl))⟩
  f21:=⟨Tryz.f104.name,by decide+kernel,Tryz.func104.trans (congrArg some (by kernel_rfl))⟩
  f22:=⟨Tryz.f105.name,by decide+kernel,Tryz.func105.trans (congrArg some (by kernel_rfl))⟩
  f23:=⟨Tryz.f106.name,by decide+kernel,Tryz.func106.trans (congrArg some (by kernel_rfl))⟩
  f24:=⟨Tryz.f107.name,by decide+kernel,Tryz.func107.trans (congrArg some (by kernel_rfl))⟩
  f25:=⟨Tryz.f108.name,by decide+kernel,Tryz.func108.trans (congrArg some (by kernel_rfl))⟩
  f26:=⟨Tryz.f109.name,by decide+kernel,Tryz.func109.trans (congrArg some (by kernel_rfl))⟩
  f27:=⟨Tryz.f110.name,by decide+kernel,Tryz.func110.trans (congrArg some (by kernel_rfl))⟩
  f28:=Tryz.func111.trans (congrArg some (by kernel_rfl))
  f29:=Tryz.func112.trans (congrArg some (by kernel_rfl))
  f46:=⟨Tryz.f118.name,by decide+kernel,Tryz.func118.trans (congrArg some (by kernel_rfl))⟩
  f47:=Tryz.func119.trans (congrArg some (by kernel_rfl))
  f48:=Tryz.func120.trans (congrArg some (by kernel_rfl))
  f49:=⟨Tryz.f121.name,by decide+kernel,Tryz.func121.trans (congrArg some (by kernel_rfl))⟩
  f50:=⟨Tryz.f122.name,by decide+kernel,Tryz.func122.trans (congrArg some (by kernel_rfl))⟩
  f57:=⟨Tryz.f124.name,by decide+kernel,Tryz.func124.trans (congrArg some (by kernel_rfl))⟩
  t0:=Tryz.underlying0
  a0:=Tryz.isAgg0
  z0:=Tryz.sizeOf0
  v0:=Tryz.zeroValue0
  t3:=Tryz.underlying3
  a3:=Tryz.isAgg3
  z3:=Tryz.sizeOf3
  v3:=Tryz.zeroValue3
  t4:=Tryz.underlying4
  a4:=Tryz.isAgg4
  z4:=Tryz.sizeOf4
  v4:=Tryz.zeroValue4
  t5:=Tryz.underlying5
  a5:=Tryz.isAgg5
  z5:=Tryz.sizeOf5
  v5:=Tryz.zeroValue5
  t9:=Tryz.underlying9
  a9:=Tryz.isAgg9
  z9:=Tryz.sizeOf9
  v9:=Tryz.zeroValue9
  t22:=Tryz.underlying70
  a22:=Tryz.isAgg70
  z22:=Tryz.sizeOf70
  v22:=Tryz.zeroValue70
  a24:=Tryz.isAgg3
  z24:=Tryz.sizeOf3
  t25:=Tryz.underlying95
  a25:=Tryz.isAgg95
  z25:=Tryz.sizeOf95
  v25:=Tryz.zeroValue95
  t39:=Tryz.underlying114
  a39:=Tryz.isAgg114
  z39:=Tryz.sizeOf114
  v39:=Tryz.zeroValue114
  t45:=Tryz.underlying128
  a45:=Tryz.isAgg128
  z45:=Tryz.sizeOf128
  v45:=Tryz.zeroValue128
  t46:=Tryz.underlying129
  a46:=Tryz.isAgg129
  z46:=Tryz.sizeOf129
  v46:=Tryz.zeroValue129
  t50:=Tryz.underlying133
  a50:=Tryz.isAgg133
  z50:=Tryz.sizeOf133
  v50:=Tryz.zeroValue133
  t53:=Tryz.underlying136
  a53:=Tryz.isAgg136
  z53:=Tryz.sizeOf136
  v53:=Tryz.zeroValue136
  t55:=Tryz.underlying138
  a55:=Tryz.isAgg138
  z55:=Tryz.sizeOf138
  v55:=Tryz.zeroValue138
  t66:=Tryz.underlying142
  a66:=Tryz.isAgg142
  z66:=Tryz.sizeOf142
  v66:=Tryz.zeroValue142
  t70:=Tryz.underlying146
  a70:=Tryz.isAgg146
  z70:=Tryz.sizeOf146
  v70:=Tryz.zeroValue146
  t76:=Tryz.underlying148
  a76:=Tryz.isAgg148
  z76:=Tryz.sizeOf148
  v76:=Tryz.zeroValue148
  t77:=Tryz.underlying149
  a77:=Tryz.isAgg149
  z77:=Tryz.sizeOf149
  v77:=Tryz.zeroValue149
theorem B8{γ:aK}{J:cx->Prop}{w:World}{b:Nat}{cs:List Value}(h:Bx γ J w b cs):Bx c0 (is 0) w b cs:=⟨rfl,h.2⟩
/-- the order of the closure, on the places of a list of points -/
def fi{n:Nat}(x:Fin n):Int:=((x.val:Nat):Int)
noncomputable def cfF (o:Pt) (ps:List Pt) {n:Nat} (x y:Fin n):Int:=Ak o ps (fi x) (fi y)
theorem AP{o:Pt}{ps:List Pt}{n:Nat}{x y:Fin n}:ltOf (cfF o ps) x y=true↔jW o ps (fi x) (fi y):=by
  unfold ltOf cfF
  rw[decide_eq_true_iff];exact A4
theorem uZ{o:Pt}{ps:List Pt}{n:Nat}{x y:Fin n}:ltOf (cfF o ps) x y=false↔¬jW o ps (fi x) (fi y):=by
  rw[<-AP];simp
theorem AZ{o:Pt}{ps:List Pt}{n:Nat}(hn:n=ps.length)(hz:jn o ps):SWO (α:=Fin n) (ltOf (cfF o ps)):=by
  have hb:∀x:Fin n,0<=fi x/\fi x<(ps.length:Int):=λx=>by have:=x.isLt;unfold fi;omega
  refine⟨λx=>uZ.2 (i6 _ _),λx y z h1 h2=>AP.2 (nH hz (hb x) (hb y) (hb z) (AP.1 h1) (AP.1 h2)),λx y z h1 h2=>uZ.2 λh=>?_⟩
  have h1:=uZ.1 h1
  have h2:=uZ.1 h2
  by_cases e1:fi x=fi y
  · unfold jW at*;rw[e1] at h;exact h2 h
  · by_cases e2:fi y=fi z
    · unfold jW at*;rw[<-e2] at h;exact h1 h
    · have a1:jW o ps (fi y) (fi x):=(lh e1).resolve_left h1
      have a2:jW o ps (fi z) (fi y):=(lh e2).resolve_left h2
      exact vH hz (hb x) (hb z) h (nH hz (hb z) (hb y) (hb x) a2 a1)
theorem vm(n:Nat):(List.finRange n).map fi=gx n:=by
  apply List.ext_getElem?
  intro i
  by_cases h:i<n
  · simp[gx,fi,h]
  · simp[gx,h]
theorem uT{γ:aK}{w:World}{j j1 j2 j3:Nat}{v ps_v:Value}{xs:List Int}{ps:List Pt}{o:Pt}{bp bo:Nat}(hl:Ow γ (is j) (is j) w v xs)
    (h1:Bx γ (is j1) w bp [ps_v])(h2:Sl γ (is j2) w ps_v ps)(h3:Bx γ (is j3) w bo [Value.int .i64 o.1,Value.int .i64 o.2])
    (n1:∀c,is j1 c->¬is j c)(n2:∀c,is j2 c->¬is j c)(n3:∀c,is j3 c->¬is j c)(hx:xs=gx ps.length)(hz:jn o ps)(ho:cC o)(hps:dy ps):
    Calls Tryz.prog 63 (List.toArray [v,Value.func (.func 64) #[] (List.toArray [Value.pointer (some ⟨bp,0,none⟩),Value.pointer (some ⟨bo,0,none⟩)])]) w λe w'=>∃x:Unit,e= .returned ((λ_=>Value.tuple #[]) x)/\(λ(_:Unit) (w':World)=>bj (is j) γ w γ w'/\Ow γ (is j) (is j) w' v (arL o ps)) x w':=by
  subst hx
  by_cases hn:ps.length=0
  · have e0:gx ps.length=[]:=by rw[hn];rfl
    rw[e0] at hl
    have ea:arL o ps=[]:=List.eq_nil_of_length_eq_zero ((ny hz (Nat.le_refl _) (kw hz)).trans hn)
    obtain⟨p,c,hv⟩:∃p c,v=Value.slice p 0 c:=by
      rcases hl with⟨h,_⟩|⟨b,cap,c,e,h,_⟩
      · exact⟨_,_,h⟩
      · exact⟨_,_,h⟩
    have key:=AnyF.slices_SortFunc_none (P:=Tryz.prog) (ρ:=mB) {yV with} p c (.func (.func 64) #[] (List.toArray [Value.pointer (some ⟨bp,0,none⟩),Value.pointer (some ⟨bo,0,none⟩)])) w
    rw[<-hv] at key
    change Calls Tryz.prog 63 _ _ _ at key
    refine key.mono λe w' ⟨q1,q2⟩=>⟨(),q1,?_⟩
    subst q2
    rw[ea]
    exact⟨bj.refl _ _ _,hl⟩
  · obtain⟨m,hm⟩:∃m,ps.length=m+1:=⟨ps.length-1,by omega⟩
    have hl':Ow γ (is j) (is j) w v ((List.finRange (m+1)).map fi):=by rw[vm,<-hm];exact hl
    have hb:∀x:Fin (m+1),0<=fi x/\fi x<(ps.length:Int):=λx=>by have:=x.isLt;unfold fi;omega
    have key:=sZ yV (α:=Fin (m+1)) fi (cfF o ps) (AZ hm.symm hz) 64 (List.toArray [Value.pointer (some ⟨bp,0,none⟩),Value.pointer (some ⟨bo,0,none⟩)]) (enters_of Tryz.func64 (by kernel_rfl) rfl)
      (λh=>by have:=congrArg List.length h;simp at this) hl' λW hW x y=>by
        have h:=qj W (fi x) (fi y) ps ps_v (h2.chg hW n2).ro bp (B8 (h1.chg hW n1)) o bo (B8 (h3.chg hW n3)) (hb x) (hb y) ho hps
        have e:(#[Value.int .i64 (fi x),Value.int .i64 (fi y)]++(List.toArray [Value.pointer (some ⟨bp,0,none⟩),Value.pointer (some ⟨bo,0,none⟩)]):Array Value)=List.toArray [Value.int .i64 (fi x),Value.int .i64 (fi y),Value.pointer (some ⟨bp,0,none⟩),Value.pointer (some ⟨bo,0,none⟩)]:=by simp
        rw[e];exact h
    change Calls Tryz.prog 63 _ _ _ at key
    refine key.mono λe w' ⟨q1,ds',hp,hs,hc,ho'⟩=>⟨(),q1,hc,?_⟩
    have:ds'.map fi=arL o ps:=by
      refine oN hz ?_ ?_
      · rw[hm,<-vm];exact hp.map _
      · exact List.Pairwise.map _ (λa b h=>uZ.1 h) hs
    rw[<-this];exact ho'
end TL
