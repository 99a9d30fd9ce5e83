/- Plain texts of this claim, part 2. By an AI agent. -/
import Derived.Test.YtkhfimgjcdeejaaTlP1
import Derived.Carry
import Derived.Deep.Slices
import Derived.Laws.Externs
import Derived.Laws.FloatArith
import Derived.Laws.NewFold
import Derived.Lib.SmallJoins
import Derived.RowKit
/-
  TlFl: floating numbers in a walk: what each operation comes to.
  By an AI agent.
-/
set_option linter.all false
namespace TL
open Go
abbrev Fb:=Nat
instance:Rp Nat where
 sz:=1
 rep _ _ _ cs x:=cs=[.float .f64 x]
 len h:=by subst h;rfl
 one h:=by subst h;simp[Value.oneCell']
 tr _ _ h:=h
instance:Fl Nat where
 cells x:=[.float .f64 x]
 rep_iff:=Iff.rfl
def aq(m:Int):Nat:=FloatKind.f64.nearest m
theorem et(n:Nat):aq (n:Int)=fh n:=by
 unfold aq FloatKind.nearest FloatKind.encode fh
 rw[decide_eq_false (by omega)];rfl
theorem ga{m:Int}(h:0<=m):aq m<=aJ:=by
 obtain⟨n,rfl⟩:=Int.eq_ofNat_of_zero_le h
 rw[et];exact dN _ _
theorem il{m:Int}(h:0<=m)(h2:m<9223372036854775808):aq m<=1088*4503599627370496:=by
 obtain⟨n,rfl⟩:=Int.eq_ofNat_of_zero_le h
 rw[et]
 refine pw ?_
 have:(n:Int)<9223372036854775808:=h2
 have e:(2:Nat)^64=18446744073709551616:=by decide
 omega
theorem gb{m:Int}(h:0<m):aq m≠0:=by
 obtain⟨n,rfl⟩:=Int.eq_ofNat_of_zero_le (Int.le_of_lt h)
 rw[et]
 refine ki ?_
 have:0<(n:Int):=h
 omega
theorem mS:aq 0=0:=by decide
def bQ(x:Nat):Bool:=Ieee.double.order x x !=some .eq
theorem mr{x:Nat}(h:x<=aJ):bQ x=false:=by
 unfold bQ;rw[gA h h,f9];rfl
theorem o6(t:Nat)(q:Nat×Nat):bQ ((Question.nanBits .f64 q.1 q.2).cut t)=true:=by
 have h:∃n s,(Question.nanBits .f64 q.1 q.2).cut t=s*9223372036854775808+(9218868437227405313+n)/\n<4503599627370495/\s<2:=by
   refine⟨(t/2)%(2^52-1),t%2,?_,Nat.mod_lt _ (by decide),Nat.mod_lt _ (by decide)⟩
   simp only[Question.cut];omega
 obtain⟨n,s,e,hn,hs⟩:=h
 rw[e]
 unfold bQ Ieee.Format.order Ieee.Format.read
 simp only[kt,im,oo,oD]
 have h2:(s*9223372036854775808+(9218868437227405313+n))%9223372036854775808=9218868437227405313+n:=by omega
 rw[h2]
 have hI:aJ=9218868437227405312:=rfl
 rw[if_neg (by omega),if_neg (by omega),if_neg (by omega)]
 rfl
section
variable{P:Program}{f:Fr}{w:World}{dst:Option Tmp}{ty:TypeId}{pos:String}{after:Array Edge}{g:Option (Nat×Bool)}{t t' s d:TypeId}{x y:Operand}{a b r:Nat}
variable{N:Value->World->Prop}
theorem kJ{m:Int}{us:TypeDesc}(hs:P.underlying s=some us)(hd:P.underlying d=some (.float .f64))(hx:ev f x= .int .i64 m):(execOp (ev f) ⟨dst,.convert s d x,ty,pos,after,g⟩).run P w= .ok (.value (.float .f64 (aq m))) w:=by
 simp[execOp,convert,hx,bp hs,bp hd,Conv.intToFloat,aq]
theorem fA(op:BinOp):(eqGuard op t x y (.float .f64 a) (.float .f64 b)).run P w= .ok () w:=by
 unfold eqGuard
 split<;>rfl
theorem lz(hx:ev f x= .float .f64 a)(hy:ev f y= .float .f64 b)(h:Ieee.double.add a b=some r):(execOp (ev f) ⟨dst,.binOp .add t x y t',ty,pos,after,g⟩).run P w= .ok (.value (.float .f64 r)) w:=
 j0 .add hx hy (fA _) (run_float_arith w .add t .f64 a b r h)
theorem r8(hx:ev f x= .float .f64 a)(hy:ev f y= .float .f64 b)(h:Ieee.double.sub a b=some r):(execOp (ev f) ⟨dst,.binOp .sub t x y t',ty,pos,after,g⟩).run P w= .ok (.value (.float .f64 r)) w:=
 j0 .sub hx hy (fA _) (run_float_arith w .sub t .f64 a b r h)
theorem dL(hx:ev f x= .float .f64 a)(hy:ev f y= .float .f64 b)(h:Ieee.double.mul a b=some r):(execOp (ev f) ⟨dst,.binOp .mul t x y t',ty,pos,after,g⟩).run P w= .ok (.value (.float .f64 r)) w:=
 j0 .mul hx hy (fA _) (run_float_arith w .mul t .f64 a b r h)
theorem lc(hx:ev f x= .float .f64 a)(hy:ev f y= .float .f64 b)(h:Ieee.double.div a b=some r):(execOp (ev f) ⟨dst,.binOp .quo t x y t',ty,pos,after,g⟩).run P w= .ok (.value (.float .f64 r)) w:=
 j0 .quo hx hy (fA _) (run_float_arith w .quo t .f64 a b r h)
def fR:Option Nat->Nat->Prop
  |some v,r=>r=v
  |none,r=>bQ r=true
theorem ns(γ:aV)(w:World):bh no γ w γ w.drew:=⟨rfl,rfl,rfl,Nat.le_refl _,λ_ _ _=>rfl,λ_ _ _=>rfl,Nat.le_succ _⟩
theorem lp(γ:aV)(hx:ev f x= .float .f64 a)(hy:ev f y= .float .f64 b)(hk:∀r w',bh no γ w γ w'->fR (Ieee.double.div a b) r->N (.float .f64 r) w'):fb P ⟨dst,.binOp .quo t x y t',ty,pos,after,g⟩ f w N:=by
 have hg:=fA (P:=P) (w:=w) (t:=t) (x:=x) (y:=y) (a:=a) (b:=b) .quo
 unfold fb
 cases e:Ieee.double.div a b with
 |some v=>
   rw[lc hx hy e]
   exact hk v w (bh.refl _ _ _) (by rw[e];rfl)
 |none=>
   have h:(binOp .quo t (.float .f64 a) (.float .f64 b)).run P w= .ok (.float .f64 ((Question.nanBits .f64 a b).cut (w.tape w.drawn (.nanBits .f64 a b)))) w.drew:=by
     have e':FloatKind.f64.format.div a b=none:=e
     simp[binOp,Op.floatArith,e',run_choose_drew,Question.forced]
   have h2:(execOp (ev f) ⟨dst,.binOp .quo t x y t',ty,pos,after,g⟩).run P w= .ok (.value (.float .f64 ((Question.nanBits .f64 a b).cut (w.tape w.drawn (.nanBits .f64 a b))))) w.drew:=by
     simp only[execOp,hx,hy,Sem.run_bind,hg,Result.andThen_ok,h,Sem.run_pure]
   rw[h2]
   exact hk _ _ (ns _ _) (by rw[e];exact o6 _ (a,b))
theorem ny{op:BinOp}{q:Bool}(hx:ev f x= .float .f64 a)(hy:ev f y= .float .f64 b)(h:∀w:World,(binOp op t (.float .f64 a) (.float .f64 b)).run P w= .ok (.bool q) w):(execOp (ev f) ⟨dst,.binOp op t x y t',ty,pos,after,g⟩).run P w= .ok (.value (.bool q)) w:=
 j0 op hx hy (fA _) (h w)
theorem gn{q:Bool}(hx:ev f x= .float .f64 a)(hy:ev f y= .float .f64 b)(h:(Ieee.double.order a b==some .eq)=q):(execOp (ev f) ⟨dst,.binOp .eql t x y t',ty,pos,after,g⟩).run P w= .ok (.value (.bool q)) w:=
 ny hx hy (λw=>by rw[binOp_float_cmp_eql];show Sem.run P (pure (Value.bool (Ieee.double.order a b==some .eq))) w=_;rw[h];rfl)
theorem pY{q:Bool}(hx:ev f x= .float .f64 a)(hy:ev f y= .float .f64 b)(h:(Ieee.double.order a b !=some .eq)=q):(execOp (ev f) ⟨dst,.binOp .neq t x y t',ty,pos,after,g⟩).run P w= .ok (.value (.bool q)) w:=
 ny hx hy (λw=>by rw[binOp_float_cmp_neq];show Sem.run P (pure (Value.bool (Ieee.double.order a b !=some .eq))) w=_;rw[h];rfl)
theorem rg(ha:a<=aJ)(hb:b<=aJ):(Ieee.double.order a b==some .eq)=decide (a=b):=by
 rw[gA ha hb]
 rcases Nat.lt_trichotomy a b with h|h|h
 · rw[gJ h,decide_eq_false (by omega)];rfl
 · rw[h,f9];simp
 · rw[gL h,decide_eq_false (by omega)];rfl
theorem dw(hx:ev f x= .float .f64 a)(hy:ev f y= .float .f64 b)(ha:a<=aJ)(hb:b<=aJ):(execOp (ev f) ⟨dst,.binOp .eql t x y t',ty,pos,after,g⟩).run P w= .ok (.value (.bool (decide (a=b)))) w:=
 gn hx hy (rg ha hb)
theorem cU(hx:ev f x= .float .f64 a)(hy:ev f y= .float .f64 a):(execOp (ev f) ⟨dst,.binOp .neq t x y t',ty,pos,after,g⟩).run P w= .ok (.value (.bool (bQ a))) w:=
  pY hx hy rfl
theorem rm{at_:Array TypeId}(hx:ev f x= .float .f64 a)(hy:ev f y= .float .f64 b)(ha:a<=aJ)(hb:b<=aJ):(execOp (ev f) ⟨dst,.call {callee:=.builtin .min,args:= #[x,y],argTypes:=at_},ty,pos,after,g⟩).run P w= .ok (.value (.float .f64 (min a b))) w:=by
 have h:(Builtin.min2 (.float .f64 a) (.float .f64 b)).run P w= .ok (.float .f64 (min a b)) w:=by
   have e:FloatKind.f64.format.order a b=some (compare a b):=gA ha hb
   rcases Nat.lt_trichotomy a b with h|h|h
   · rw[gJ h] at e;simp only[Builtin.min2,e,Nat.min_eq_left (Nat.le_of_lt h)];rfl
   · rw[h,f9] at e;simp only[Builtin.min2,h,e,Nat.min_self,ite_self];rfl
   · rw[gL h] at e;simp only[Builtin.min2,e,Nat.min_eq_right (Nat.le_of_lt h)];rfl
 simp[execOp,resolve,invoke,builtin,hx,hy,Builtin.min_,h]
theorem rp{at_:Array TypeId}(hx:ev f x= .float .f64 a)(hy:ev f y= .float .f64 b)(ha:a<=aJ)(hb:b<=aJ):(execOp (ev f) ⟨dst,.call {callee:=.builtin .max,args:= #[x,y],argTypes:=at_},ty,pos,after,g⟩).run P w= .ok (.value (.float .f64 (max a b))) w:=by
 have h:(Builtin.max2 (.float .f64 a) (.float .f64 b)).run P w= .ok (.float .f64 (max a b)) w:=by
   have e:FloatKind.f64.format.order a b=some (compare a b):=gA ha hb
   rcases Nat.lt_trichotomy a b with h|h|h
   · rw[gJ h] at e;simp only[Builtin.max2,e,Nat.max_eq_right (Nat.le_of_lt h)];rfl
   · rw[h,f9] at e;simp only[Builtin.max2,h,e,Nat.max_self,ite_self];rfl
   · rw[gL h] at e;simp only[Builtin.max2,e,Nat.max_eq_left (Nat.le_of_lt h)];rfl
 simp[execOp,resolve,invoke,builtin,hx,hy,Builtin.max_,h]
theorem qJ{fid:Nat}{fn:Func}{e:Array Value->Sem Value}{v u:Value}{at_:Array TypeId}(hf:P.funcs[fid]? =some fn)(hname:(fn.name== "runtime.NumGoroutine")=false)(hb:fn.body.isNone=true)(hn:(Extern.findNext fn).isNone=true)(he:Extern.find fn=some e)(hx:ev f x=v)(h:(e #[v]).run P w= .ok u w):
   (execOp (ev f) ⟨dst,.call {callee:=.value (.func fid),args:= #[x],argTypes:=at_},ty,pos,after,g⟩).run P w= .ok (.value u) w:=by
 have hn':Extern.findNext fn=none:=by simpa using hn
 have:=run_callFunc_extern hf hname hb hn' he #[v] w
 rw[h] at this
 have ha:(#[x]).map (ev f)= #[v]:=by simp[hx]
 have h0:∀q:Operand,ev f (.func fid)= .func (.func fid) #[] #[]:=λ_=>rfl
 simp only[execOp,resolve,h0 x,Deferred.ofValue,invoke,ha,Sem.run_bind,Sem.run_pure,Result.andThen_ok,Array.append_empty,Array.empty_append]
 exact this
theorem rK{fid:Nat}{fn:Func}{at_:Array TypeId}(hf:P.funcs[fid]? =some fn)(hname:(fn.name== "runtime.NumGoroutine")=false)(hb:fn.body.isNone=true)(hn:(Extern.findNext fn).isNone=true)(he:Extern.find fn=some Extern.MathSqrt.sqrt)(hx:ev f x= .float .f64 a)(h:Ieee.double.sqrt a=some r):
   (execOp (ev f) ⟨dst,.call {callee:=.value (.func fid),args:= #[x],argTypes:=at_},ty,pos,after,g⟩).run P w= .ok (.value (.float .f64 r)) w:=
 qJ hf hname hb hn he hx (by
   have h':FloatKind.f64.format.sqrt a=some r:=h
   have e:Extern.MathSqrt.sqrt #[.float .f64 a]=(match FloatKind.f64.format.sqrt a with|some r=>pure (.float .f64 r)|none=>do pure (.float .f64 (<-choose (.nanBits .f64 a a)))):=rfl
   rw[e,h'];rfl)
theorem iA{fid:Nat}{fn:Func}{at_:Array TypeId}{n:Int}(hf:P.funcs[fid]? =some fn)(hname:(fn.name== "runtime.NumGoroutine")=false)(hb:fn.body.isNone=true)(hn:(Extern.findNext fn).isNone=true)(he:Extern.find fn=some Extern.MathFloatBits.float64frombits)(hx:ev f x= .int .u64 n):
   (execOp (ev f) ⟨dst,.call {callee:=.value (.func fid),args:= #[x],argTypes:=at_},ty,pos,after,g⟩).run P w= .ok (.value (.float .f64 n.toNat)) w:=
 qJ hf hname hb hn he hx rfl
end
end TL
/-
  TlMet: what layer 29 (metric) computes, in plain words.
  By an AI agent.
-/
set_option linter.all false
namespace TL
open Go
def hH(a b:Pt):Int:=(b.1-a.1)*(b.1-a.1)+(b.2-a.2)*(b.2-a.2)
def bk(a b:Pt):Nat:=aq (hH a b)
def ig(l:List Pt)(k:Nat):Nat:=az (bk (gI l (k:Int)) (gI l ((k:Int)+1)))
def gp(l:List Pt):Nat->Nat
 |0=>ig l 0
 |k+1=>cE (gp l k) (ig l (k+1))
def dZ(l:List Pt):Nat:=gp l (l.length-2)
def aD(p:ci):List Nat:=p.2.map dZ
def fC(l:List Nat):Nat->Nat
 |0=>0
 |k+1=>cE (fC l k) (gI l (k:Int))
def fi(l:List Nat):Nat->Nat
 |0=>aJ
 |k+1=>min (fi l k) (gI l (k:Int))
def fU(l:List Nat):Nat->Nat
 |0=>0
 |k+1=>max (fU l k) (gI l (k:Int))
def lG(m:Nat)(l:List Nat):Nat->Nat
 |0=>0
 |k+1=>cE (lG m l k) (bi (cr (gI l (k:Int)) m) (cr (gI l (k:Int)) m))
def ed(l:List Nat):Nat:=aO (fC l l.length) (aq (l.length:Int))
def gP(l:List Nat):Nat:=aO (fU l l.length) (fi l l.length)
def dM(l:List Nat):Nat:=aO (lG (ed l) l l.length) (aq (l.length:Int))
def lF(g:cJ)(p:ci):Nat:=aO (aq g.1) (aq (((dI p).2.1+1)*((dI p).2.2.1+1)))
abbrev tp:=Nat×Nat×Nat×Nat×Nat×Nat×Nat
def sv(l:List Nat)(x:Nat):tp:=(fC l l.length,ed l,fi l l.length,fU l l.length,gP l,dM l,x)
def aY(g:cJ)(p:ci):Int:=if dd g then(ad g p).2 else 1
def av(g:cJ)(p:ci):tp×Int:=if aY g p=0 then(sv (aD p) (lF g p),0) else((0,0,0,0,0,0,0),aY g p)
def bE(g:cJ)(p:ci):List Nat×Int:=if aY g p=0 then(aD p,0) else([],aY g p)
theorem gQ(x:Int):0<=x*x:=by
 rcases Int.le_total 0 x with h|h
 · exact Int.mul_nonneg h h
 · exact Int.mul_nonneg_of_nonpos_of_nonpos h h
theorem gM(a b:Pt):0<=hH a b:=Int.add_nonneg (gQ _) (gQ _)
theorem cq(a b:Pt):bk a b<=aJ:=ga (gM a b)
theorem mD(l:List Pt)(k:Nat):ig l k<=aJ:=(gh (cq _ _)).2
theorem jD(l:List Pt):∀k,gp l k<=aJ
 |0=>mD l 0
 |k+1=>(eT (jD l k) (mD l (k+1))).2
theorem q9(l:List Pt):dZ l<=aJ:=jD l _
theorem jv{p:ci}{k:Int}(h0:0<=k)(h:k<p.2.length):gI (aD p) k=dZ (gI p.2 k):=by
 obtain⟨n,rfl⟩:=Int.eq_ofNat_of_zero_le h0
 have hn:n<p.2.length:=by omega
 simp[gI,aD,hn]
theorem lZ(p:ci)(k:Int):gI (aD p) k<=aJ:=by
 unfold gI
 rcases Nat.lt_or_ge k.toNat (aD p).length with h|h
 · have e:(aD p).getD k.toNat default=(aD p)[k.toNat]:=by simp[h]
   rw[e]
   have hm:(aD p)[k.toNat]∈aD p:=List.getElem_mem _
   obtain⟨q,_,hq⟩:=List.mem_map.1 hm
   rw[<-hq];exact q9 _
 · have e:(aD p).getD k.toNat default=0:=by simp[List.getD,h]
   rw[e];exact Nat.zero_le _
theorem nl{l:List Pt}{i s:Nat}(h:s=gp l (i-2)/\2<=i):cE s (az (bk (gI l ((i:Int)-1)) (gI l (i:Int))))=gp l (i+1-2)/\2<=i+1:=by
 obtain⟨h1,h2⟩:=h
 obtain⟨k,rfl⟩:∃k,i=k+2:=⟨i-2,by omega⟩
 refine⟨?_,by omega⟩
 rw[h1,show k+2-2=k by omega,show k+2+1-2=k+1 by omega]
 show _=cE (gp l k) (ig l (k+1))
 unfold ig
 rw[show(((k+2:Nat):Int)-1)=((k+1:Nat):Int) by omega,show((k+2:Nat):Int)=((k+1:Nat):Int)+1 by omega]
theorem qk{l:List Pt}{i s:Nat}(h:s=gp l (i-2)/\2<=i)(hi:¬(i:Int)<(l.length:Int))(hle:(i:Int)<=max (l.length:Int) 2)(h2:2<=l.length):s=dZ l:=by
 rw[h.1];unfold dZ;congr 1;omega
theorem my{g:cJ}{p:ci}(h:¬dd g):aY g p=1:=by unfold aY;rw[if_neg h]
theorem lV{g:cJ}{p:ci}(h:dd g):aY g p=(ad g p).2:=by unfold aY;rw[if_pos h]
theorem eH{g:cJ}{p:ci}(h:aY g p=0):dd g/\ni g p/\(ad g p).1=dI p:=by
 by_cases hm:dd g
 · rw[lV hm] at h
   unfold ad at h ⊢
   rw[if_pos hm] at h ⊢
   by_cases hs:cF g p=[]
   · rw[if_pos hs];exact⟨hm,j3.1 hs,rfl⟩
   · rw[if_neg hs] at h;exact absurd h (by decide)
 · rw[my hm] at h;exact absurd h (by decide)
theorem ml{l:List Nat}(h:∀k,gI l k<=aJ):∀k,fC l k<=aJ
 |0=>Nat.zero_le _
 |k+1=>(eT (ml h k) (h _)).2
theorem sE{o:Option Nat}{r v:Nat}(h:fR o r)(e:o=some v):r=v:=by subst e;exact h
end TL
namespace TL
open Go
def al(x:Nat):Nat:=if bQ x=true then ij else x
theorem qn{x:Nat}(h:bQ x=true):ij=al x:=by unfold al;rw[if_pos h]
theorem pO{x:Nat}(h:¬bQ x=true):x=al x:=by unfold al;rw[if_neg h]
theorem pv{x:Nat}(h:¬bQ x=true)(h0:x=0):0=al x:=by unfold al;rw[if_neg h,h0]
theorem gY{x:Int}(h1: -2097152<=x)(h2:x<=2097152):x*x<=4398046511104:=by
 rcases Int.le_total 0 x with h|h
 · calc x*x<=2097152*2097152:=Int.mul_le_mul h2 h2 h (by omega)
     _=_:=rfl
 · have e:x*x=(-x)*(-x):=(Int.neg_mul_neg x x).symm
   rw[e]
   calc(-x)*(-x)<=2097152*2097152:=Int.mul_le_mul (by omega) (by omega) (by omega) (by omega)
     _=_:=rfl
theorem mW{p:ci}{l:List Nat}{k:Nat}(h:l=(p.2.take k).map dZ)(hk:(k:Int)<(p.2.length:Int)):l++[dZ (gI p.2 (k:Int))]=(p.2.take (k+1)).map dZ:=by
 have hk':k<p.2.length:=by omega
 rw[h,List.take_succ_eq_append_getElem hk',List.map_append]
 simp[gI,hk']
theorem ow{p:ci}{l:List Nat}{k:Nat}(h:l=(p.2.take k).map dZ)(hk:¬(k:Int)<(p.2.length:Int)):l=aD p:=by
 rw[h,List.take_of_length_le (by omega)];rfl
end TL
namespace TL
open Go
theorem lm{x y v:Nat}(hx:x<=aJ)(hy:y<=aJ)(h:Ieee.double.div x y=some v):v<=aJ:=by
 unfold Ieee.Format.div at h
 rcases eg hx with⟨m,i,e⟩|e<;>rcases eg hy with⟨n,j,e'⟩|e'<;>rw[e,e'] at h
 · simp only[Ieee.Datum.quotient] at h
   split at h
   · split at h
     · cases h
     · rw[<-Option.some.inj h];exact Nat.le_of_eq dy
   · rw[<-Option.some.inj h];exact dN _ _
 · rw[<-Option.some.inj h];exact dN _ _
 · rw[<-Option.some.inj h];exact Nat.le_of_eq dy
 · cases h
theorem t6{o:Option Nat}{r:Nat}(h:fR o r)(hn:¬bQ r=true):r=o.getD ij:=by
 cases o with
 |some v=>exact h
 |none=>exact absurd h hn
theorem t3{o:Option Nat}{r:Nat}(h:fR o r)(hv:∀v,o=some v->v<=aJ)(ht:bQ r=true):al r=o.getD ij:=by
 cases o with
 |some v=>
   obtain rfl:r=v:=h
   rw[mr (hv r rfl)] at ht;cases ht
 |none=>unfold al;rw[if_pos ht];rfl
theorem iu{o:Option Nat}{r:Nat}(h:fR o r)(hv:∀v,o=some v->v<=aJ):bQ r=true\/r<=aJ:=by
 cases o with
 |some v=>exact .inr (by obtain rfl:r=v:=h;exact hv r rfl)
 |none=>exact .inl h
theorem jE{m:Int}(h:0<=m)(h2:m<9223372036854775808):aq m<aJ:=by
 have:=il h h2
 have hI:aJ=9218868437227405312:=rfl
 omega
theorem kp{l:List Nat}{s r:Nat}(hl:∀k,gI l k<=aJ)(hs:s=fC l l.length)(h:fR (Ieee.double.div s (aq (l.length:Int))) r)(h0:0<l.length)(hb:(l.length:Int)<9223372036854775808):r=ed l/\r<=aJ:=by
 have:=kZ (x:=s) (y:=aq (l.length:Int)) (by rw[hs];exact ml hl _) (jE (by omega) hb) (gb (by omega))
 have e:=sE h this.1
 refine⟨?_,by rw[e];exact this.2⟩
 rw[e,hs];rfl
theorem rG{l:List Nat}{r:Nat}(h:0<l.length->r=ed l):lG r l l.length=lG (ed l) l l.length:=by
 rcases Nat.eq_zero_or_pos l.length with c|c
 · rw[c];rfl
 · rw[h c]
theorem ke{l:List Pt}:∀k,(li l k).1<=(kV l k).1/\(li l k).2<=(kV l k).2
 |0=>⟨Int.le_refl _,Int.le_refl _⟩
 |k+1=>by
   obtain⟨h1,h2⟩:=ke (l:=l) k
   unfold li kV
   simp only
   omega
theorem pa{g:cJ}{p:ci}(hs:ni g p)(hlp:(ad g p).1=dI p):((0<=(ad g p).1.2.1/\(ad g p).1.2.1<=2097152)/\0<=(ad g p).1.2.2.1/\(ad g p).1.2.2.1<=2097152)/\0<((ad g p).1.2.1+1)*((ad g p).1.2.2.1+1)/\((ad g p).1.2.1+1)*((ad g p).1.2.2.1+1)<=4398050705409:=by
 rw[hlp]
 have hw:(0<=(dI p).2.1/\(dI p).2.1<=2097152)/\0<=(dI p).2.2.1/\(dI p).2.2.1<=2097152:=by
   show(0<=(gk p).1/\(gk p).1<=2097152)/\0<=(gk p).2/\(gk p).2<=2097152
   unfold gk
   split
   · rename_i h0
     have:=nO (nJ hs) (by omega) (br p).length (Nat.le_refl _)
     have h2:=ke (l:=br p) (br p).length
     unfold c5 at this
     simp only
     omega
   · decide
 refine⟨hw,Int.mul_pos (by omega) (by omega),?_⟩
 calc((dI p).2.1+1)*((dI p).2.2.1+1)<=2097153*2097153:=Int.mul_le_mul (by omega) (by omega) (by omega) (by omega)
   _=_:=rfl
theorem bV{g:cJ}{p:ci}(h:aY g p=0):av g p=(sv (aD p) (lF g p),0):=by unfold av;rw[if_pos h]
theorem np{g:cJ}{p:ci}(h:¬aY g p=0):av g p=((0,0,0,0,0,0,0),aY g p):=by unfold av;rw[if_neg h]
end TL
namespace TL
open Go
theorem jB{o:Option Nat}{r v:Nat}(h:fR o r)(hv:∀v,o=some v->v<=aJ)(e:o.getD ij=v):(bQ r=true->al r=v)/\(¬bQ r=true->r=v):=
 ⟨λt=>(t3 h hv t).trans e,λt=>(t6 h t).trans e⟩
theorem sO{r v:Nat}(h:r<=aJ)(e:r=v):(bQ r=true->al r=v)/\(¬bQ r=true->r=v):=
 ⟨λt=>absurd t (by rw[mr h];decide),λ_=>e⟩
theorem cZ{g:cJ}{p:ci}{a b c d e f x:Nat}(h:aY g p=0)(ha:a=fC (aD p) (aD p).length)(hb:b=ed (aD p))(hc:c=fi (aD p) (aD p).length)(hd:d=fU (aD p) (aD p).length)(he:e=gP (aD p))(hf:f=dM (aD p))(hx:x=lF g p):(a,b,c,d,e,f,x)=(av g p).1:=by
 rw[bV h,ha,hb,hc,hd,he,hf,hx];rfl
theorem pR{g:cJ}{p:ci}(hlp:(ad g p).1=dI p):aO (aq g.1) (aq (((ad g p).1.2.1+1)*((ad g p).1.2.2.1+1)))=lF g p:=by rw[hlp];rfl
end TL
namespace TL
open Go
abbrev eC:=Int×Int×Nat
def jG(a b:Pt):eC:=(b.1-a.1,b.2-a.2,az (bk a b))
def fD(L:List (List eC))(a b:Pt)(v:Int):List (List eC):=if a=b then L else L.set v.toNat (gI L v++[jG a b])
def ar(g:cJ)(p:ci):Nat->List (List eC)
 |0=>List.replicate g.1.toNat []
 |e+1=>fD (fD (ar g p e) (gI (gI p.2 (e:Int)) 0) (gI (gI p.2 (e:Int)) 1) (gI g.2 (e:Int)).1) (gI (gI p.2 (e:Int)) (((gI p.2 (e:Int)).length:Int)-1)) (gI (gI p.2 (e:Int)) (((gI p.2 (e:Int)).length:Int)-2)) (gI g.2 (e:Int)).2
theorem kx(L:List (List eC))(a b:Pt)(v:Int):(fD L a b v).length=L.length:=by
 unfold fD;split
 · rfl
 · rw[List.length_set]
theorem iU(g:cJ)(p:ci):∀e,(ar g p e).length=g.1.toNat
 |0=>List.length_replicate ..
 |e+1=>by unfold ar;rw[kx,kx,iU g p e]
theorem jl{L M X:List (List eC)}{a b a' b':Pt}{u v:Int}(h1:a=b/\M=L\/¬a=b/\M=L.set u.toNat (gI L u++[jG a b]))(h2:a'=b'/\X=M\/¬a'=b'/\X=M.set v.toNat (gI M v++[jG a' b'])):X=fD (fD L a b u) a' b' v:=by
 have e1:M=fD L a b u:=by
   unfold fD
   rcases h1 with⟨c,h⟩|⟨c,h⟩
   · rw[if_pos c,h]
   · rw[if_neg c,h]
 rw[<-e1];unfold fD
 rcases h2 with⟨c,h⟩|⟨c,h⟩
 · rw[if_pos c,h]
 · rw[if_neg c,h]
end TL
namespace TL
open Go
theorem dk{L:List (List eC)}{n:Nat}{u v:Int}{x:eC}(h:∀v,(gI L v).length<=n):(gI (L.set u.toNat (gI L u++[x])) v).length<=n+1:=by
 unfold gI
 rw[List.getD_eq_getElem?_getD,List.getElem?_set]
 split
 · split
   · have:=h u;simp;unfold gI at this;simpa using this
   · exact Nat.zero_le _
 · have:=h v;unfold gI at this;rw[List.getD_eq_getElem?_getD] at this;omega
theorem k9{L:List (List eC)}{a b:Pt}{u:Int}{n:Nat}(h:∀v,(gI L v).length<=n)(v:Int):(gI (fD L a b u) v).length<=n+1:=by
 unfold fD;split
 · have:=h v;omega
 · exact dk h
theorem iO(g:cJ)(p:ci):∀(e:Nat) (v:Int),(gI (ar g p e) v).length<=2*e
 |0,v=>by
   show(gI (List.replicate g.1.toNat []) v).length<=0
   unfold gI;rw[List.getD_eq_getElem?_getD,List.getElem?_replicate];split
   · exact Nat.le_refl _
   · exact Nat.le_refl _
 |e+1,v=>by
   have:=k9 (a:=gI (gI p.2 (e:Int)) (((gI p.2 (e:Int)).length:Int)-1)) (b:=gI (gI p.2 (e:Int)) (((gI p.2 (e:Int)).length:Int)-2)) (u:=(gI g.2 (e:Int)).2) (k9 (a:=gI (gI p.2 (e:Int)) 0) (b:=gI (gI p.2 (e:Int)) 1) (u:=(gI g.2 (e:Int)).1) (iO g p e)) v
   unfold ar;omega
end TL
namespace TL
theorem ct{α:Type}{xs:List α}{y:α}{n:Nat}(h:xs.length<=n)(hn:n<1099511627776):xs.length+[y].length<=1099511627776:=by
 show xs.length+1<=_;omega
end TL
namespace TL
open Go
end TL
/-
  TlMet2: the small plot that layer 29's statements try first, and what MetricEdges says.
  By an AI agent.
-/
set_option linter.all false
namespace TL
open Go
abbrev BG:cJ:=(2,[(0,1)])
abbrev BP:ci:=([(0,0),(3,4)],[[(0,0),(3,4)]])
theorem oL:∀k:Int,gI (aD BP) k<aJ:=by
 have h:aD BP=[4617315517961601024]:=by decide+kernel
 intro k
 rw[h];unfold gI
 match k.toNat with
 |0=>decide
 |n+1=>show(0:Nat)<aJ;decide
theorem nW:(av BG BP).1.2.2.2.2.1<=aJ:=by decide+kernel
end TL
namespace TL
open Go
section
variable{ps:List Pt}
theorem l4{a b:Pt}(ha:c5 a)(hb:c5 b):az (bk a b)<=1064*4503599627370496/\(a≠b->az (bk a b)≠0):=by
  obtain⟨⟨a1,a2⟩,a3,a4⟩:=ha
  obtain⟨⟨b1,b2⟩,b3,b4⟩:=hb
  have m1:=gQ (b.1-a.1)
  have m2:=gQ (b.2-a.2)
  have m3:=gY (x:=b.1-a.1) (by omega) (by omega)
  have m4:=gY (x:=b.2-a.2) (by omega) (by omega)
  have h1:0<=hH a b:=gM a b
  have h2:hH a b<9223372036854775808:=by unfold hH;omega
  obtain⟨k1,k2⟩:=mH (x:=bk a b) (e:=1088) (il h1 h2) (by omega) (by omega)
  refine⟨k1,λhne=>k2 (gb ?_)⟩
  rcases Int.lt_or_eq_of_le h1 with c|c
  · exact c
  · exfalso
    have e1:(b.1-a.1)*(b.1-a.1)=0:=by unfold hH at c;omega
    have e2:(b.2-a.2)*(b.2-a.2)=0:=by unfold hH at c;omega
    have f1:b.1-a.1=0:=by rcases Int.mul_eq_zero.1 e1 with c|c<;>exact c
    have f2:b.2-a.2=0:=by rcases Int.mul_eq_zero.1 e2 with c|c<;>exact c
    exact hne (Prod.ext (by omega) (by omega))
end
end TL
namespace TL
open Go
section
variable{ps:List Pt}{Ls:List (List Pt)}
end
end TL
/-
  TlFloat3: from below: roots and products that are far from nothing; a quotient of the greater by the less; numbers with a sign.
  By an AI agent.
-/
set_option linter.all false
namespace TL
open Ieee
theorem kj{T k:Nat}(h:2^k<=T)(hk:52<=k):min ((k-51)*4503599627370496) aJ<=rd T:=by
  have h0:T≠0:=by have:=Nat.two_pow_pos k;omega
  unfold rd;rw[if_neg h0]
  have hl:k<=T.log2:=(Nat.le_log2 h0).2 h
  have h1:4503599627370496<=T/2^(T.log2-52):=by
    refine(Nat.le_div_iff_mul_le (Nat.two_pow_pos _)).2 ?_
    rw[show(4503599627370496:Nat)=2^52 by decide,<-Nat.pow_add,show 52+(T.log2-52)=T.log2 by omega]
    exact Nat.log2_self_le h0
  have h2:4503599627370496<=e9 T (T.log2-52):=Nat.le_trans h1 (Nat.le_add_right _ _)
  have h3:(k-51)*4503599627370496<=(T.log2-52)*4503599627370496+e9 T (T.log2-52):=by omega
  omega
theorem eY(n:Nat):∀t r:Nat,r<=Datum.rootFrom n t r
 |0,r=>Nat.le_refl _
 |t+1,r=>by
   unfold Datum.rootFrom
   simp only[db,Nat.one_mul]
   split
   · exact Nat.le_trans (Nat.le_add_right _ _) (eY n t _)
   · exact eY n t r
theorem lD(n:Nat)(h:n≠0):2^(n.log2/2)<=Datum.rootFrom n (n.log2/2+1) 0:=by
 unfold Datum.rootFrom
 simp only[db,Nat.one_mul,Nat.zero_add]
 have:2^(n.log2/2)*2^(n.log2/2)<=n:=by
   rw[<-Nat.pow_add]
   exact Nat.le_trans (Nat.pow_le_pow_right (by omega) (by omega)) (Nat.log2_self_le h)
 rw[if_pos this]
 exact eY n _ _
theorem rJ{a q j:Nat}(b:Nat)(h:2^a<=q)(hj:b<=j):2^(a+b)<=q*2^j:=by
 rw[Nat.pow_add]
 exact Nat.mul_le_mul h (Nat.pow_le_pow_right (by omega) hj)
theorem rz{a b c q j:Nat}(h:2^a<=q)(hj:b<=j)(hab:52<=a+b)(hc:c<=min ((a+b-51)*4503599627370496) aJ):c<=rd (q*2^j):=
 Nat.le_trans hc (kj (rJ b h hj) hab)
theorem mL{x:Nat}(hx:x<aJ)(h1:1023*4503599627370496<=x):1000*4503599627370496<=az x:=by
 have hI:aJ=9218868437227405312:=rfl
 have hm:¬mg x=0:=λe=>by have:=dO.1 e;omega
 unfold az Format.sqrt
 rw[bA hx]
 simp only[Datum.root,if_neg hm,Option.map_some,Option.getD_some,Bool.false_eq_true,if_false,show double.fractionBits+2=54 from rfl]
 generalize hm1:2*54-(mg x).log2=m1
 generalize hm2:m1+((-1074+(pl x:Int)-(m1:Int))%2).toNat=m2
 generalize hn:mg x <<< m2=n
 generalize hw:Datum.rootFrom n (n.log2/2+1) 0=q
 have hlm:52<=(mg x).log2:=(Nat.le_log2 hm).2 (by unfold mg;rw[if_neg (by omega)];show 4503599627370496<=_;omega)
 have hlu:(mg x).log2<=52:=by have:=(Nat.log2_lt hm (k:=53)).2 (fG x);omega
 have hp:1022<=pl x:=by unfold pl;omega
 have hpu:pl x<=2046:=by unfold pl;omega
 have hnl:n.log2=(mg x).log2+m2:=by rw[<-hn,db,da hm]
 have hn0:n≠0:=by
   rw[<-hn,db];intro e
   rcases Nat.mul_eq_zero.1 e with c|c
   · exact hm c
   · have:=Nat.two_pow_pos m2;omega
 have hq:=lD n hn0
 rw[hw] at hq
 have hq2:2^54<=2^(n.log2/2):=Nat.pow_le_pow_right (by omega) (by omega)
 have hj:∃j:Nat,(-1074+(pl x:Int)-(m2:Int))/2-1= -1074+(j:Int)/\1015<=j:=by
   refine⟨((-1074+(pl x:Int)-(m2:Int))/2-1+1074).toNat,?_,?_⟩<;>omega
 obtain⟨j,hj1,hj2⟩:=hj
 show _<=double.nearest false _ _
 rw[hj1,dA]
 have a1:2^55<=2*q+(q*q !=n).toNat:=by
   have:(2:Nat)^55=2*2^54:=by decide
   omega
 exact rz a1 hj2 (by decide) (by decide)
theorem jo{n:Nat}(h:n≠0):1023*4503599627370496<=fh n:=by
 rw[ec]
 generalize hK:(1074:Nat)=K
 have hT:2^K<=n*2^K:=Nat.le_mul_of_pos_left _ (by omega)
 have h9:=kj hT (by clear hT;omega)
 have hI:aJ=9218868437227405312:=rfl
 clear hT
 omega
theorem io{x y:Nat}(hx:x<aJ)(hy:y<aJ)(h:1074<=pl x+pl y):bi x y=rd (mg x*mg y*2^(pl x+pl y-1074)):=by
 unfold bi Format.mul
 rw[bA hx,bA hy]
 simp only[Datum.product,Bool.xor_self,Option.map_some,Option.getD_some]
 show double.nearest false _ _=_
 rw[show(-1074+(pl x:Int)+(-1074+(pl y:Int)))= -1074+((pl x+pl y-1074:Nat):Int) by omega,dA]
theorem oH{x y:Nat}(hx:1000*4503599627370496<=x)(hx2:x<=1100*4503599627370496)(hy:1000*4503599627370496<=y)(hy2:y<=1100*4503599627370496):bi x y<aJ/\bi x y≠0:=by
 have hI:aJ=9218868437227405312:=rfl
 have p1:999<=pl x:=by unfold pl;omega
 have p2:999<=pl y:=by unfold pl;omega
 have p3:pl x<=1099:=by unfold pl;omega
 have p4:pl y<=1099:=by unfold pl;omega
 rw[io (by omega) (by omega) (by omega)]
 generalize hk:pl x+pl y-1074=k
 have hk2:k<=1124:=by omega
 constructor
 · have a1:mg x*mg y<2^106:=by
     have:=Nat.mul_lt_mul'' (fG x) (fG y)
     exact Nat.lt_of_lt_of_le this (by decide)
   have hT:mg x*mg y*2^k<2^(1229+1):=by
     calc mg x*mg y*2^k<2^106*2^k:=Nat.mul_lt_mul_of_pos_right a1 (Nat.two_pow_pos _)
       _=2^(106+k):=(Nat.pow_add _ _ _).symm
       _<=2^(1229+1):=Nat.pow_le_pow_right (by omega) (by omega)
   have h9:=fI hT (by omega)
   have h8:(1229-50)*4503599627370496=5309743960669814784:=by decide
   rw[h8] at h9
   exact Nat.lt_of_le_of_lt h9 (by rw[hI];decide)
 · refine jp ?_
   have m1:mg x≠0:=λe=>by have:=dO.1 e;omega
   have m2:mg y≠0:=λe=>by have:=dO.1 e;omega
   intro e
   rcases Nat.mul_eq_zero.1 e with c|c
   · rcases Nat.mul_eq_zero.1 c with c|c
     · exact m1 c
     · exact m2 c
   · have:=Nat.two_pow_pos k;omega
end TL
/-
  TlJudge3: a plot's rotation: the half-edges of each node, turned.
  By an AI agent.
-/
set_option linter.all false
namespace TL
theorem dP{α β:Type}[Inhabited α][Inhabited β]{f:α->β}{l:List α}{i:Int}(h0:0<=i)(h1:i<l.length):gI (l.map f) i=f (gI l i):=by
 have h:i.toNat<l.length:=by omega
 unfold gI
 rw[List.getD_eq_getElem?_getD,List.getD_eq_getElem?_getD,List.getElem?_map,List.getElem?_eq_getElem h];rfl
section
variable{g:cJ}{p:ci}
end
end TL
/-
  TlMet3: pairs of edges that meet, and angles, of layer 29 (metric), in plain words.
  By an AI agent.
-/
set_option linter.all false
namespace TL
open Go
def dE(g:cJ)(p:ci)(e f:Int)(s t:Sg):Prop:=∃x∈iZ g p e f,jc s.1 s.2 t.1 t.2 x
instance (g:cJ)(p:ci)(e f:Int)(s t:Sg):Decidable (dE g p e f s t):=by unfold dE;infer_instance
structure pM(s t:Sg):Prop where
 a:c5 s.1
 b:c5 s.2
 c:c5 t.1
 d:c5 t.2
section
variable{g:cJ}{p:ci}{e f:Int}{s t:Sg}{x:Pt}
theorem nc{a b q:Pt}(ha:c5 a)(hb:c5 b)(hq:c5 q):(cw a b q).1=decide (dJ a b q):=by unfold cw;rw[if_pos ⟨ha,hb,hq⟩]
theorem sB(h:decide ((gI g.2 e).1∈[(gI g.2 f).1,(gI g.2 f).2])=true):gI p.1 (gI g.2 e).1∈iZ g p e f:=by
 unfold iZ fl;rw[if_pos (of_decide_eq_true h)];simp
theorem nv(h:decide ((gI g.2 e).2∈[(gI g.2 f).1,(gI g.2 f).2])=true):gI p.1 (gI g.2 e).2∈iZ g p e f:=by
 unfold iZ fl;rw[if_pos (of_decide_eq_true h)];simp
theorem rq(h:x∈iZ g p e f):((gI g.2 e).1∈[(gI g.2 f).1,(gI g.2 f).2]/\x=gI p.1 (gI g.2 e).1)\/((gI g.2 e).2∈[(gI g.2 f).1,(gI g.2 f).2]/\x=gI p.1 (gI g.2 e).2):=by
 unfold iZ at h
 rcases List.mem_append.1 h with h|h
 · unfold fl at h;split at h
   · exact .inl ⟨by assumption,by simpa using h⟩
   · cases h
 · unfold fl at h;split at h
   · exact .inr ⟨by assumption,by simpa using h⟩
   · cases h
theorem m5{q:Pt}(ho:pM s t)(hq:c5 q)(hm:q∈iZ g p e f)(h1:(cw s.1 s.2 q).1=true)(h2:(cw t.1 t.2 q).1=true):true=decide (dE g p e f s t):=by
 rw[nc ho.a ho.b hq] at h1
 rw[nc ho.c ho.d hq] at h2
 exact(decide_eq_true ⟨q,hm,of_decide_eq_true h1,of_decide_eq_true h2⟩).symm
theorem gg(ho:pM s t)(h1q:c5 (gI p.1 (gI g.2 e).1))(h2q:c5 (gI p.1 (gI g.2 e).2))
   (h1:¬decide ((gI g.2 e).1∈[(gI g.2 f).1,(gI g.2 f).2])=true\/¬(cw s.1 s.2 (gI p.1 (gI g.2 e).1)).1=true\/¬(cw t.1 t.2 (gI p.1 (gI g.2 e).1)).1=true)
   (h2:¬decide ((gI g.2 e).2∈[(gI g.2 f).1,(gI g.2 f).2])=true\/¬(cw s.1 s.2 (gI p.1 (gI g.2 e).2)).1=true\/¬(cw t.1 t.2 (gI p.1 (gI g.2 e).2)).1=true):false=decide (dE g p e f s t):=by
 refine(decide_eq_false ?_).symm
 rintro⟨x,hx,k1,k2⟩
 rw[nc ho.a ho.b h1q,nc ho.c ho.d h1q] at h1
 rw[nc ho.a ho.b h2q,nc ho.c ho.d h2q] at h2
 rcases rq hx with⟨hm,rfl⟩|⟨hm,rfl⟩
 · rcases h1 with h|h|h
   · exact h (decide_eq_true hm)
   · exact h (decide_eq_true k1)
   · exact h (decide_eq_true k2)
 · rcases h2 with h|h|h
   · exact h (decide_eq_true hm)
   · exact h (decide_eq_true k1)
   · exact h (decide_eq_true k2)
theorem jg{a b c d:Pt}(ho:pM (a,b) (c,d)):(cd a b c d).1=bX a b c d:=by unfold cd;rw[if_pos ⟨⟨ho.a,ho.b⟩,ho.c,ho.d⟩]
theorem qo{a b c d:Pt}:du a b c d=0\/du a b c d=1\/du a b c d=2\/du a b c d=3:=by
 unfold du;dsimp only;split
 · omega
 · split<;>omega
theorem mJ{a b c d:Pt}:bX a b c d=0\/bX a b c d=1\/bX a b c d=2\/bX a b c d=3:=by
 unfold bX;split
 · exact qo
 · split
   · omega
   · split<;>omega
variable{a b c d:Pt}
theorem tk(ho:pM (a,b) (c,d))(h3:¬(cd a b c d).1=3)(h0:¬0<(cd a b c d).1):decide (d8 (a,b) (c,d) (iZ g p e f))=true:=by
 rw[jg ho] at h3 h0
 refine decide_eq_true (.inl ?_)
 rcases mJ (a:=a) (b:=b) (c:=c) (d:=d) with h|h|h|h<;>simp only<;>omega
theorem sV(ho:pM (a,b) (c,d))(h3:¬(cd a b c d).1=3)(h0:0<(cd a b c d).1)(hs:decide (dE g p e f (a,b) (c,d))=true):decide (d8 (a,b) (c,d) (iZ g p e f))=true:=by
 rw[jg ho] at h3 h0
 refine decide_eq_true (.inr ⟨?_,of_decide_eq_true hs⟩)
 rcases mJ (a:=a) (b:=b) (c:=c) (d:=d) with h|h|h|h<;>simp only<;>omega
theorem t9(ho:pM (a,b) (c,d))(h3:(cd a b c d).1=3):¬decide (d8 (a,b) (c,d) (iZ g p e f))=true:=by
 rw[jg ho] at h3
 intro h
 rcases of_decide_eq_true h with h|⟨h,_⟩<;>simp only at h<;>omega
theorem t5(ho:pM (a,b) (c,d))(h0:0<(cd a b c d).1)(hs:¬decide (dE g p e f (a,b) (c,d))=true):¬decide (d8 (a,b) (c,d) (iZ g p e f))=true:=by
 rw[jg ho] at h0
 intro h
 rcases of_decide_eq_true h with h|⟨_,h⟩
 · simp only at h;omega
 · exact hs (decide_eq_true h)
end
def mX(g:cJ)(p:ci)(e f:Int):Prop:=¬jw (gI p.2 e) (gI p.2 f) (iZ g p e f)
instance (g:cJ)(p:ci)(e f:Int):Decidable (mX g p e f):=by unfold mX;infer_instance
theorem sM{g:cJ}{p:ci}{e f:Int}(h:false=decide (jw (gI p.2 e) (gI p.2 f) (iZ g p e f))):true=decide (mX g p e f):=
 (decide_eq_true (of_decide_eq_false h.symm)).symm
theorem t8{g:cJ}{p:ci}{e f:Int}(h:true=decide (jw (gI p.2 e) (gI p.2 f) (iZ g p e f))):false=decide (mX g p e f):=
 (decide_eq_false (λc=>c (of_decide_eq_true h.symm))).symm
def jW(g:cJ)(p:ci)(e:Nat):Nat->Int
 |0=>0
 |f+1=>jW g p e f+if e<f/\mX g p (e:Int) (f:Int) then 1 else 0
def jP(g:cJ)(p:ci)(m:Nat):Nat->Int
 |0=>0
 |e+1=>jP g p m e+jW g p e m
def bZ(g:cJ)(p:ci):Int×Int:=if aY g p=0 then(jP g p g.2.length g.2.length,0) else(0,aY g p)
section
variable{g:cJ}{p:ci}{e m:Nat}
theorem mo:∀f:Nat,f<=e+1->jW g p e f=0
 |0,_=>rfl
 |f+1,h=>by unfold jW;rw[mo f (by omega),if_neg (λc=>by omega)];rfl
theorem kQ:∀f:Nat,0<=jW g p e f/\jW g p e f<=f
 |0=>⟨Int.le_refl _,Int.le_refl _⟩
 |f+1=>by have:=kQ f;unfold jW;split<;>omega
theorem o7(hm:m<=3072):∀e:Nat,0<=jP g p m e/\jP g p m e<=3072*(e:Int)
 |0=>⟨Int.le_refl _,Int.le_refl _⟩
 |e+1=>by
   have:=o7 hm e
   have:=kQ (g:=g) (p:=p) (e:=e) m
   unfold jP;omega
theorem tf{n:Int}{f:Nat}(h:n=jP g p m e+jW g p e f/\e<f)(hb:decide (mX g p (e:Int) (f:Int))=true):n+1=jP g p m e+jW g p e (f+1)/\e<f+1:=by
 refine⟨?_,by omega⟩
 unfold jW;rw[if_pos ⟨h.2,of_decide_eq_true hb⟩,h.1];omega
theorem td{n:Int}{f:Nat}(h:n=jP g p m e+jW g p e f/\e<f)(hb:¬decide (mX g p (e:Int) (f:Int))=true):n=jP g p m e+jW g p e (f+1)/\e<f+1:=by
 refine⟨?_,by omega⟩
 unfold jW;rw[if_neg (λc=>hb (decide_eq_true c.2)),h.1];omega
end
end TL
/-
  TlMet4: numbers with a sign, and angles, of layer 29 (metric).
  By an AI agent.
-/
set_option linter.all false
namespace TL
open Go Ieee
theorem ia{x:Nat}(h:fE x):(∃s m i,double.read x= .number s m i)\/∃s,double.read x= .infinity s:=by
 cases e:double.read x with
 |nan q t=>exact absurd e (h q t)
 |infinity s=>exact .inr ⟨s,rfl⟩
 |number s m i=>exact .inl ⟨s,m,i,rfl⟩
theorem j6{a b:Nat}(ha:fE a)(hb:fE b):∃o,double.order a b=some o:=by
 unfold Format.order
 rcases ia ha with⟨s,m,i,e⟩|⟨s,e⟩<;>rcases ia hb with⟨t,n,j,e'⟩|⟨t,e'⟩<;>rw[e,e']<;>exact⟨_,rfl⟩
def eO(a b:Nat):Nat:=match double.order a b with
 |some .lt=>b
 |some .gt=>a
 |some .eq=>if(double.read a).neg then b else a
 |none=>ij
theorem j9{a b:Nat}(ha:fE a)(hb:fE b):fE (eO a b):=by
 obtain⟨o,e⟩:=j6 ha hb
 unfold eO;rw[e]
 cases o with
 |lt=>exact hb
 |gt=>exact ha
 |eq=>dsimp only;split<;>assumption
theorem k5(m:Int):fE (aq m):=by
 unfold aq FloatKind.nearest FloatKind.encode
 exact ft (d:=.number (m<0) m.natAbs 0) (λq t=>by simp)
theorem jA{x y:Nat}(hx:fE x)(hy:y<aJ)(h:¬y=0):double.div x y=some (aO x y)/\fE (aO x y):=by
 have h0:¬mg y=0:=λe=>h (dO.1 e)
 have:∃d,(double.read x).quotient (double.fractionBits+2) (double.read y)=some d/\∀q t,d≠ .nan q t:=by
   rw[bA hy]
   rcases ia hx with⟨s,m,i,e⟩|⟨s,e⟩<;>rw[e]
   · simp only[Datum.quotient,if_neg h0]
     exact⟨_,rfl,λq t=>by simp⟩
   · exact⟨_,rfl,λq t=>by simp⟩
 obtain⟨d,h1,h2⟩:=this
 have h3:double.div x y=some (double.write d):=by unfold Format.div;rw[h1];rfl
 unfold aO;rw[h3];exact⟨rfl,ft h2⟩
theorem nN:fE 13830554455654793216:=by
 have h:double.read 13830554455654793216= .number true 4503599627370496 (-52):=by decide
 intro q t;rw[h];simp
section
variable{P:Program}{f:Fr}{w:World}{dst:Option Tmp}{ty:TypeId}{pos:String}{after:Array Edge}{g:Option (Nat×Bool)}{x y:Operand}{a b:Nat}
theorem pm{at_:Array TypeId}(hx:ev f x= .float .f64 a)(hy:ev f y= .float .f64 b)(ha:fE a)(hb:fE b):(execOp (ev f) ⟨dst,.call {callee:=.builtin .max,args:= #[x,y],argTypes:=at_},ty,pos,after,g⟩).run P w= .ok (.value (.float .f64 (eO a b))) w:=by
 have h:(Builtin.max2 (.float .f64 a) (.float .f64 b)).run P w= .ok (.float .f64 (eO a b)) w:=by
   obtain⟨o,e⟩:=j6 ha hb
   have e':FloatKind.f64.format.order a b=some o:=e
   unfold eO
   cases o with
   |lt=>simp only[Builtin.max2,e',e];rfl
   |gt=>simp only[Builtin.max2,e',e];rfl
   |eq=>simp only[Builtin.max2,e',e];rfl
 simp[execOp,resolve,invoke,builtin,hx,hy,Builtin.max_,h]
end
def iK(w:eC):Prop:=(-2097152<=w.1/\w.1<=2097152)/\(-2097152<=w.2.1/\w.2.1<=2097152)/\1000*4503599627370496<=w.2.2/\w.2.2<=1100*4503599627370496
theorem qV{a b:Pt}(ha:c5 a)(hb:c5 b)(h:¬a=b):iK (jG a b):=by
 have hI:aJ=9218868437227405312:=rfl
 obtain⟨s1,s2⟩:=l4 ha hb
 have hs:=gM a b
 have hpos:hH a b≠0:=λe=>s2 h (by unfold bk;rw[e,mS];decide+kernel)
 have hlow:1000*4503599627370496<=az (bk a b):=by
   obtain⟨⟨a1,a2⟩,a3,a4⟩:=ha
   obtain⟨⟨b1,b2⟩,b3,b4⟩:=hb
   have m3:=gY (x:=b.1-a.1) (by omega) (by omega)
   have m4:=gY (x:=b.2-a.2) (by omega) (by omega)
   have hlt:hH a b<9223372036854775808:=by unfold hH;omega
   have hf:bk a b=fh (hH a b).toNat:=by
     unfold bk
     conv=>lhs;rw[show hH a b=(((hH a b).toNat:Nat):Int) by omega]
     exact et _
   refine mL (by have:=il hs hlt;unfold bk;omega) ?_
   rw[hf];exact jo (by omega)
 obtain⟨⟨a1,a2⟩,a3,a4⟩:=ha
 obtain⟨⟨b1,b2⟩,b3,b4⟩:=hb
 unfold jG iK
 dsimp only
 omega
theorem lL{L:List (List eC)}{a b:Pt}{v:Int}(ha:c5 a)(hb:c5 b)(h:∀v,∀w∈gI L v,iK w):∀u,∀w∈gI (fD L a b v) u,iK w:=by
 intro u w hw
 unfold fD at hw
 split at hw
 · exact h u w hw
 · rename_i hne
   unfold gI at hw
   rw[List.getD_eq_getElem?_getD,List.getElem?_set] at hw
   split at hw
   · split at hw
     · have hw2:w∈gI L v++[jG a b]:=hw
       rcases List.mem_append.1 hw2 with k|k
       · exact h v w k
       · obtain rfl:=List.mem_singleton.1 k;exact qV ha hb hne
     · cases hw
   · rw[<-List.getD_eq_getElem?_getD] at hw;exact h u w hw
theorem iv{g:cJ}{p:ci}(hs:ni g p):∀e:Nat,e<=p.2.length->∀v,∀w∈gI (ar g p e) v,iK w
 |0,_,v,w,hw=>by
   unfold ar gI at hw
   rw[List.getD_eq_getElem?_getD,List.getElem?_replicate] at hw
   split at hw<;>cases hw
 |e+1,he,v,w,hw=>by
   obtain⟨h1,h2,h3⟩:=hs.ln (e:Int) (by omega) (by omega)
   have k:=λ(i:Int) (h0:0<=i) (hi:i<((gI p.2 (e:Int)).length:Int))=>h3 _ (bl h0 hi)
   unfold ar at hw
   exact lL (k _ (by omega) (by omega)) (k _ (by omega) (by omega)) (lL (k _ (by omega) (by omega)) (k _ (by omega) (by omega)) (iv hs e (by omega))) v w hw
def gD(a b:eC):Int:=a.1*b.1+a.2.1*b.2.1
def oA(a b:eC):Nat:=aO (aq (gD a b)) (bi a.2.2 b.2.2)
def jJ(m:Nat)(a:eC)(bs:List eC):Nat->Nat
 |0=>m
 |j+1=>eO (jJ m a bs j) (oA a (gI bs (j:Int)))
def gB(r:List eC)(i:Nat):List eC:=List.drop (Int.toNat ((i:Int)+1)) (List.take (Int.toNat (r.length:Int)) r)
def i0(m:Nat)(r:List eC):Nat->Nat
 |0=>m
 |i+1=>jJ (i0 m r i) (gI r (i:Int)) (gB r i) (gB r i).length
def eB(L:List (List eC)):Nat->Nat
 |0=>13830554455654793216
 |v+1=>i0 (eB L v) (gI L (v:Int)) (gI L (v:Int)).length
def bz(g:cJ)(p:ci):Nat×Int:=if aY g p=0 then(eB (ar g p g.2.length) (ar g p g.2.length).length,0) else(0,aY g p)
theorem iW{g:cJ}{p:ci}(h:¬aY g p=0):bz g p=(0,aY g p):=by unfold bz;rw[if_neg h]
theorem go{g:cJ}{p:ci}(h:aY g p=0):bz g p=(eB (ar g p g.2.length) (ar g p g.2.length).length,0):=by unfold bz;rw[if_pos h]
theorem iP{g:cJ}{p:ci}(h:¬aY g p=0):bZ g p=(0,aY g p):=by unfold bZ;rw[if_neg h]
theorem kK{g:cJ}{p:ci}(h:aY g p=0):bZ g p=(jP g p g.2.length g.2.length,0):=by unfold bZ;rw[if_pos h]
theorem fo{a b:eC}(ha:iK a)(hb:iK b):bi a.2.2 b.2.2<aJ/\bi a.2.2 b.2.2≠0:=oH ha.2.2.1 ha.2.2.2 hb.2.2.1 hb.2.2.2
theorem fY{a:eC}(ha:iK a):a.2.2<aJ:=by
 have:=ha.2.2.2
 have hI:aJ=9218868437227405312:=rfl
 omega
theorem mu{x y:Int}(h1: -2097152<=x)(h2:x<=2097152)(h3: -2097152<=y)(h4:y<=2097152): -4398046511104<=x*y/\x*y<=4398046511104:=by
 have k1:x*y<=4398046511104:=by
   rcases Int.le_total 0 x with hx|hx<;>rcases Int.le_total 0 y with hy|hy
   · calc x*y<=2097152*2097152:=Int.mul_le_mul h2 h4 hy (by omega)
       _=_:=rfl
   · have:=Int.mul_nonpos_of_nonneg_of_nonpos hx hy;omega
   · have:=Int.mul_nonpos_of_nonpos_of_nonneg hx hy;omega
   · rw[<-Int.neg_mul_neg]
     calc(-x)*(-y)<=2097152*2097152:=Int.mul_le_mul (by omega) (by omega) (by omega) (by omega)
       _=_:=rfl
 have k2: -(x*y)<=4398046511104:=by
   rw[<-Int.neg_mul]
   rcases Int.le_total 0 x with hx|hx<;>rcases Int.le_total 0 y with hy|hy
   · have:=Int.mul_nonpos_of_nonpos_of_nonneg (show-x<=0 by omega) hy;omega
   · rw[<-Int.neg_mul_neg]
     calc(- -x)*(-y)<=2097152*2097152:=Int.mul_le_mul (by omega) (by omega) (by omega) (by omega)
       _=_:=rfl
   · calc(-x)*y<=2097152*2097152:=Int.mul_le_mul (by omega) (by omega) hy (by omega)
       _=_:=rfl
   · have:=Int.mul_nonpos_of_nonneg_of_nonpos (show 0<= -x by omega) hy;omega
 omega
end TL
namespace TL
end TL
/-
  TlJudge4: directions around a point; a plot turned by a quarter; the example's rotation.
  By an AI agent.
-/
set_option linter.all false
namespace TL
section
variable{u v w:Pt}
end
section
variable{p:ci}{o:Pt}{l:List Int}
end
section
variable{u v:Pt}{i k:Int}
def ss(u:Pt):Prop:=0<=u.1/\0<u.2
instance (u:Pt):Decidable (ss u):=by unfold ss;infer_instance
end
section
variable{o:Pt}{ps:List Pt}
end
end TL
/-
  TlJTr: plots moved as a whole: their flaws.
  By an AI agent.
-/
set_option linter.all false
namespace TL
def ck(T:Pt->Pt)(p:ci):ci:=(p.1.map T,p.2.map (List.map T))
section
variable{T:Pt->Pt}{D:Pt->Prop}{g:cJ}{p:ci}{l a b but:List Pt}{q:Pt}{i k:Nat}
theorem l7{e:Int}(h0:0<=e)(h1:e<p.2.length):gI (ck T p).2 e=(gI p.2 e).map T:=dP h0 h1
theorem ei:(ck T p).1.length=p.1.length/\(ck T p).2.length=p.2.length:=⟨List.length_map _,List.length_map _⟩
end
section
variable{g:cJ}{p:ci}
end
def eX(p:ci):Nat->Int
 |0=>(p.1.length:Int)
 |k+1=>eX p k+((gI p.2 (k:Int)).length:Int)+1
theorem mm{p:ci}(h1:(p.1.length:Int)<=1048576)(h:∀l∈p.2,l.length<=1048576):∀k:Nat,(k:Int)<=p.2.length->0<=eX p k/\eX p k<=1048576+1048577*(k:Int)
 |0,_=>by unfold eX;omega
 |k+1,hk=>by
   have h2:=mm h1 h k (by omega)
   have h3:=h _ (bl (xs:=p.2) (i:=(k:Int)) (by omega) (by omega))
   unfold eX;omega
def cY(g:cJ)(p:ci):Prop:=eX p p.2.length<=400/\(¬dd g\/g.1<=30/\(g.2.length:Int)<=40)
instance (g:cJ)(p:ci):Decidable (cY g p):=by unfold cY;infer_instance
theorem m6{p:ci}:∀k:Nat,(p.1.length:Int)+k<=eX p k/\∀e:Nat,e<k->((gI p.2 (e:Int)).length:Int)<=eX p k
 |0=>⟨by unfold eX;omega,λe he=>by omega⟩
 |k+1=>by
   obtain⟨h1,h2⟩:=m6 (p:=p) k
   refine⟨by unfold eX;omega,λe he=>?_⟩
   unfold eX
   by_cases c:e=k
   · subst c;omega
   · have:=h2 e (by omega);omega
theorem n8{g:cJ}{p:ci}(h:cY g p):(dd g->(g.2.length:Int)<=2000)/\((p.1.length:Int)<=400/\(p.2.length:Int)<=400)/\∀e:Int,0<=e->e<p.2.length->((gI p.2 e).length:Int)<=400:=by
 obtain⟨h1,h2⟩:=m6 (p:=p) p.2.length
 obtain⟨h3,h4⟩:=h
 refine⟨λhm=>?_,⟨by omega,by omega⟩,λe h0 he=>?_⟩
 · rcases h4 with h4|h4
   · exact absurd hm h4
   · omega
 · have:=h2 e.toNat (by omega)
   rw[Int.toNat_of_nonneg h0] at this
   omega
end TL
namespace TL
def pB(q:Pt):Prop:=(-9223372036854775808<=q.1/\q.1<=9223372036854775807)/\ -9223372036854775808<=q.2/\q.2<=9223372036854775807
def rx(p:ci):Prop:=((p.1.length:Int)<=1048576/\(p.2.length:Int)<=1048576/\∀l∈p.2,l.length<=1048576)/\(∀q∈p.1,pB q)/\∀l∈p.2,∀q∈l,pB q
section
variable{g:cJ}{p:ci}{l r:List Pt}{L:List (List Pt)}{k e:Nat}
end
end TL
namespace TL
section
variable{α:Type}[Inhabited α][DecidableEq α]{a b:List α}{k:Nat}
end
section
variable{g:cJ}{p:ci}{n:Int}{e:Nat}
theorem sQ(h:n=eX p e)(he:e=p.2.length)(h1:¬n<=400):false=decide (cY g p):=by
 subst he;exact(decide_eq_false λc=>h1 (by rw[h];exact c.1)).symm
theorem sq(h:n=eX p e)(he:e=p.2.length)(h1:n<=400)(h2:¬cK g=true):true=decide (cY g p):=by
 subst he;exact(decide_eq_true ⟨by rw[<-h];exact h1,.inl λc=>h2 (decide_eq_true c)⟩).symm
theorem sF(h:n=eX p e)(he:e=p.2.length)(h1:n<=400)(h2:cK g=true)(h3:g.1<=30):decide ((g.2.length:Int)<=40)=decide (cY g p):=by
 subst he
 rw[decide_eq_decide]
 exact⟨λc=>⟨by rw[<-h];exact h1,.inr ⟨h3,c⟩⟩,λc=>(c.2.resolve_left λq=>q (of_decide_eq_true h2)).2⟩
theorem sb(h:n=eX p e)(he:e=p.2.length)(h1:n<=400)(h2:cK g=true)(h3:¬g.1<=30):false=decide (cY g p):=by
 subst he
 exact(decide_eq_false λc=>h3 (c.2.resolve_left λq=>q (of_decide_eq_true h2)).1).symm
end
end TL
/-
  TlMet5: a plot that is moved measures the same; a plot without flaws has no crossings, and a ratio from 1 up.
  By an AI agent.
-/
set_option linter.all false
namespace TL
open Go
theorem me{l:List Pt}(h:∀q∈l,c5 q):∀k:Nat,k+1<l.length->k<=400->gp l k<=(1064+2*k)*4503599627370496
 |0,hk,_=>(l4 (h _ (bl (i:=((0:Nat):Int)) (by omega) (by omega))) (h _ (bl (i:=((0:Nat):Int)+1) (by omega) (by omega)))).1
 |k+1,hk,h4=>by
   have h1:=me h k (by omega) (by omega)
   have h2:=(l4 (h _ (bl (xs:=l) (i:=((k+1:Nat):Int)) (by omega) (by omega))) (h _ (bl (xs:=l) (i:=((k+1:Nat):Int)+1) (by omega) (by omega)))).1
   obtain⟨e,he⟩:∃e,e=1064+2*k:=⟨_,rfl⟩
   rw[<-he] at h1
   have h3:ig l (k+1)<=e*4503599627370496:=by
     unfold ig
     exact Nat.le_trans h2 (Nat.mul_le_mul_right _ (by clear h1 h2;omega))
   have h5:=nI h1 h3 (by clear h1 h2 h3;omega) (by clear h1 h2 h3;omega)
   have h6:1064+2*(k+1)=e+2:=by omega
   rw[h6]
   exact h5
theorem nP{l:List Pt}(h:∀q∈l,c5 q)(h2:2<=l.length)(h4:l.length<=400):dZ l<aJ:=by
 have hI:aJ=9218868437227405312:=rfl
 have:=me h (l.length-2) (by omega) (by omega)
 unfold dZ;omega
theorem j1{g:cJ}{p:ci}(hs:ni g p)(h4:∀e:Int,0<=e->e<p.2.length->((gI p.2 e).length:Int)<=400)(k:Int):gI (aD p) k<aJ:=by
 have hI:aJ=9218868437227405312:=rfl
 by_cases h:k.toNat<p.2.length
 · have e:gI (aD p) k=dZ (gI p.2 (k.toNat:Int)):=by
     rw[show gI (aD p) k=gI (aD p) ((k.toNat:Nat):Int) by unfold gI;rfl]
     exact jv (by omega) (by omega)
   rw[e]
   have:=hs.ln (k.toNat:Int) (by omega) (by omega)
   exact nP this.2.2 (by omega) (by have:=h4 (k.toNat:Int) (by omega) (by omega);omega)
 · unfold gI
   have e:(aD p).getD k.toNat default=0:=by simp[List.getD,aD,h]
   rw[e];decide
section
variable{g:cJ}{p:ci}{t:Pt}
end
end TL
namespace TL
open Go
theorem qO{g:cJ}{p:ci}(h:(av g p).2=0):aY g p=0:=by
 unfold av at h
 by_cases c:aY g p=0
 · exact c
 · rw[if_neg c] at h;exact h
end TL
/-
  TlScale: numbers twice, and four times, as great: sums, roots, products and quotients of such, to the bit.
  By an AI agent.
-/
set_option linter.all false
namespace TL
open Ieee
def S(k x:Nat):Nat:=if x=0 then 0 else x+k*4503599627370496
theorem nb(k:Nat):S k 0=0:=rfl
theorem oF{k x:Nat}(h:x≠0):S k x=x+k*4503599627370496:=if_neg h
def Rg(a b x:Nat):Prop:=x=0\/a*4503599627370496<=x/\x<=b*4503599627370496
theorem jm{k x:Nat}(h:4503599627370496<=x):mg (x+k*4503599627370496)=mg x:=by
 unfold mg
 rw[if_neg (by omega),if_neg (by omega),Nat.add_mul_mod_self_right]
theorem fB{k x:Nat}(h:4503599627370496<=x):pl (x+k*4503599627370496)=pl x+k:=by
 unfold pl
 rw[Nat.add_mul_div_right _ _ (by omega)]
 omega
theorem eN{x:Nat}(h:4503599627370496<=x):4503599627370496<=mg x:=by unfold mg;rw[if_neg (by omega)];omega
theorem lf{x:Nat}(h:4503599627370496<=x):(mg x).log2=52:=by
 have h0:mg x≠0:=by have:=eN h;omega
 have h1:=eN h
 have h2:=fG x
 exact(Nat.log2_eq_iff h0).2 ⟨h1,h2⟩
theorem rZ{x:Nat}(h:4503599627370496<=x):2^(52+pl x)<=vl x:=by
 unfold vl;rw[Nat.pow_add];exact Nat.mul_le_mul_right _ (eN h)
theorem pH{k x:Nat}(h:x=0\/4503599627370496<=x):vl (S k x)=vl x*2^k:=by
 rcases h with rfl|h
 · rw[nb,fX,Nat.zero_mul]
 · rw[oF (by omega)];unfold vl;rw[jm h,fB h,Nat.pow_add,Nat.mul_assoc]
theorem oy{T k:Nat}(h:2^52<=T)(ho:rd T+k*4503599627370496<aJ):rd (T*2^k)=rd T+k*4503599627370496:=by
 have h0:T≠0:=by have:=Nat.two_pow_pos 52;omega
 have hk:0<2^k:=Nat.two_pow_pos _
 have h1:T*2^k≠0:=by
   intro e;rcases Nat.mul_eq_zero.1 e with c|c<;>omega
 have hl:52<=T.log2:=(Nat.le_log2 h0).2 h
 have e1:rd T=(T.log2-52)*4503599627370496+e9 T (T.log2-52):=by
   unfold rd at ho ⊢
   rw[if_neg h0] at ho ⊢
   rw[Nat.min_def] at ho ⊢
   split at ho
   · rw[if_pos (by assumption)]
   · omega
 have e2:(T.log2+k-52)=(T.log2-52)+k:=by omega
 rw[e1] at ho ⊢
 unfold rd
 rw[if_neg h1,da h0,e2,dV,Nat.add_mul]
 rw[Nat.min_eq_left (by omega)]
 omega
theorem ld{T k:Nat}(h:T=0\/2^52<=T)(ho:rd T+k*4503599627370496<aJ):rd (T*2^k)=S k (rd T):=by
 rcases h with rfl|h
 · have e:rd 0=0:=by unfold rd;rw[if_pos rfl]
   rw[Nat.zero_mul,e];unfold S;rw[if_pos rfl]
 · have h0:T≠0:=λe=>by rw[e] at h;exact absurd h (by decide)
   have h1:=jp h0
   have h2:=oy h ho
   rw[h2];unfold S;rw[if_neg h1]
theorem rr{x:Nat}(h:4503599627370496<=x):2^52<=vl x:=Nat.le_trans (Nat.pow_le_pow_right (by omega) (by omega)) (rZ h)
theorem ks{k x:Nat}(h:x+k*4503599627370496<aJ):S k x<aJ:=by
 unfold S;split
 · decide
 · exact h
theorem ji{k x y:Nat}(h:x<=y):S k x<=S k y:=by unfold S;split<;>split<;>omega
theorem sw{k x y:Nat}:min (S k x) (S k y)=S k (min x y):=by
 rcases Nat.le_total x y with h|h
 · rw[Nat.min_eq_left h,Nat.min_eq_left (ji h)]
 · rw[Nat.min_eq_right h,Nat.min_eq_right (ji h)]
theorem sJ{k x y:Nat}:max (S k x) (S k y)=S k (max x y):=by
 rcases Nat.le_total x y with h|h
 · rw[Nat.max_eq_right h,Nat.max_eq_right (ji h)]
 · rw[Nat.max_eq_left h,Nat.max_eq_left (ji h)]
theorem qF{k x y:Nat}(hx:x=0\/4503599627370496<=x)(hy:y=0\/4503599627370496<=y)(hx2:x+k*4503599627370496<aJ)(hy2:y+k*4503599627370496<aJ)(ho:cE x y+k*4503599627370496<aJ):cE (S k x) (S k y)=S k (cE x y):=by
  rw[gT (ks hx2) (ks hy2),pH hx,pH hy,<-Nat.add_mul]
  rw[gT (by omega) (by omega)] at ho ⊢
  refine ld ?_ ho
  rcases hx with rfl|hx
  · rcases hy with rfl|hy
    · exact .inl rfl
    · right;have:=rr hy;omega
  · right;have:=rr hx;omega
theorem sk{n k K:Nat}(hK:52<=K)(ho:rd (n*2^K)+k*4503599627370496<aJ):rd (n*2^k*2^K)=S k (rd (n*2^K)):=by
  rw[Nat.mul_right_comm]
  refine ld ?_ ho
  rcases Nat.eq_zero_or_pos n with h|h
  · left;rw[h,Nat.zero_mul]
  · right
    calc 2^52<=2^K:=Nat.pow_le_pow_right (by omega) (by omega)
      _<=n*2^K:=Nat.le_mul_of_pos_left _ h
theorem nw{n k:Nat}(ho:fh n+k*4503599627370496<aJ):fh (n*2^k)=S k (fh n):=by
 rw[ec] at ho
 rw[ec,ec]
 revert ho
 generalize hK:(1074:Nat)=K
 intro ho
 exact sk (by omega) ho
theorem rk{x:Nat}(hx:x=0\/4503599627370496<=x)(h2:x+2*4503599627370496<aJ)(ho:az x+1*4503599627370496<aJ):az (S 2 x)=S 1 (az x):=by
  rcases hx with rfl|hx
  · rw[nb];decide+kernel
  rw[oF (by omega)]
  have hm:¬mg x=0:=by have:=eN hx;omega
  have e1:mg (x+2*4503599627370496)=mg x:=jm hx
  have e2:pl (x+2*4503599627370496)=pl x+2:=fB hx
  unfold az Format.sqrt at ho ⊢
  rw[bA (by omega)] at ho
  rw[bA h2,bA (by omega),e1,e2]
  simp only[Datum.root,if_neg hm,Option.map_some,Option.getD_some,Bool.false_eq_true,if_false,show double.fractionBits+2=54 from rfl] at ho ⊢
  generalize hm1:2*54-(mg x).log2=m1 at ho ⊢
  have e3:(-1074+((pl x+2:Nat):Int)-(m1:Int))%2=(-1074+(pl x:Int)-(m1:Int))%2:=by omega
  rw[e3]
  generalize hm2:m1+((-1074+(pl x:Int)-(m1:Int))%2).toNat=m2 at ho ⊢
  generalize hn:mg x <<< m2=n at ho ⊢
  generalize hw:Datum.rootFrom n (n.log2/2+1) 0=q at ho ⊢
  have hlm:(mg x).log2=52:=lf hx
  have hn0:n≠0:=by
    rw[<-hn,db];intro e
    rcases Nat.mul_eq_zero.1 e with c|c
    · exact hm c
    · have:=Nat.two_pow_pos m2;omega
  have hnl:n.log2=52+m2:=by rw[<-hn,db,da hm,hlm]
  have hq:=lD n hn0
  rw[hw] at hq
  have hq2:2^54<=2^(n.log2/2):=Nat.pow_le_pow_right (by omega) (by omega)
  have hj:∃j:Nat,(-1074+(pl x:Int)-(m2:Int))/2-1= -1074+(j:Int)/\(-1074+((pl x+2:Nat):Int)-(m2:Int))/2-1= -1074+((j+1:Nat):Int):=by
    refine⟨((-1074+(pl x:Int)-(m2:Int))/2-1+1074).toNat,?_,?_⟩<;>omega
  obtain⟨j,hj1,hj2⟩:=hj
  have ho':double.nearest false (2*q+(q*q !=n).toNat) ((-1074+(pl x:Int)-(m2:Int))/2-1)+1*4503599627370496<aJ:=ho
  show double.nearest false _ _=S 1 (double.nearest false _ _)
  rw[hj1,dA] at ho'
  rw[hj1,hj2,dA,dA,Nat.pow_add,<-Nat.mul_assoc]
  refine ld (.inr ?_) ho'
  calc 2^52<=2*q+(q*q !=n).toNat:=by
        have:(2:Nat)^52<=2^54:=by decide
        omega
    _<=_:=Nat.le_mul_of_pos_right _ (Nat.two_pow_pos _)
end TL
/-
  TlScale2: products, quotients and differences of numbers that are twice, or four times, as great; rounding keeps order.
  By an AI agent.
-/
set_option linter.all false
namespace TL
open Ieee
theorem n6{n m d:Nat}(h:n<=m):e9 n d<=e9 m d:=by
 unfold e9
 generalize hg:2^d=g
 have hg0:0<g:=by rw[<-hg];exact Nat.two_pow_pos _
 have hd:=Nat.div_le_div_right (c:=g) h
 have h1:=Nat.div_add_mod n g
 have h2:=Nat.div_add_mod m g
 by_cases e:n/g=m/g
 · rw[e] at h1 ⊢
   have hr:n%g<=m%g:=by omega
   split<;>split<;>omega
 · split<;>split<;>omega
theorem sf{T:Nat}(h:T≠0):rd T<=(T.log2-52)*4503599627370496+9007199254740992:=by
 unfold rd;rw[if_neg h]
 refine Nat.le_trans (Nat.min_le_left _ _) (Nat.add_le_add_left ?_ _)
 have h1:T/2^(T.log2-52)<9007199254740992:=by
   refine(Nat.div_lt_iff_lt_mul (Nat.two_pow_pos _)).2 ?_
   refine Nat.lt_of_lt_of_le (Nat.lt_log2_self (n:=T)) ?_
   rw[show(9007199254740992:Nat)=2^53 by decide,<-Nat.pow_add]
   exact Nat.pow_le_pow_right (by omega) (by omega)
 unfold e9;split<;>omega
theorem tz{a b c:Nat}(h:a+4503599627370496<=b)(hc:4503599627370496<=c):a+9007199254740992<=b+c:=by omega
theorem i6{T U:Nat}(h:T<=U):rd T<=rd U:=by
 by_cases h0:T=0
 · rw[h0];unfold rd;rw[if_pos rfl];exact Nat.zero_le _
 have hU:U≠0:=by omega
 have hl:T.log2<=U.log2:=(Nat.le_log2 hU).2 (Nat.le_trans (Nat.log2_self_le h0) h)
 by_cases e:T.log2-52=U.log2-52
 · unfold rd
   rw[if_neg h0,if_neg hU,e]
   have:=n6 (d:=U.log2-52) h
   omega
 · have h1:=sf h0
   have h2:=se T
   have h3:4503599627370496<=e9 U (U.log2-52):=by
     refine Nat.le_trans ?_ (Nat.le_add_right _ _)
     refine(Nat.le_div_iff_mul_le (Nat.two_pow_pos _)).2 ?_
     rw[show(4503599627370496:Nat)=2^52 by decide,<-Nat.pow_add,show 52+(U.log2-52)=U.log2 by omega]
     exact Nat.log2_self_le hU
   have h4:rd U=min ((U.log2-52)*4503599627370496+e9 U (U.log2-52)) aJ:=by unfold rd;rw[if_neg hU]
   rw[h4]
   clear h4
   refine Nat.le_min.2 ⟨Nat.le_trans h1 ?_,h2⟩
   have h5:T.log2-52+1<=U.log2-52:=by clear h1 h2 h3;omega
   have h6:(T.log2-52)*4503599627370496+4503599627370496<=(U.log2-52)*4503599627370496:=by
     have:=Nat.mul_le_mul_right 4503599627370496 h5
     rw[Nat.add_mul,Nat.one_mul] at this
     exact this
   exact tz h6 h3
theorem sh{c K:Nat}(hc:c<2^53)(hK:52<=K)(ho:rd (c*2^K)<aJ):vl (rd (c*2^K))=c*2^K:=by
  by_cases h0:c=0
  · rw[h0,Nat.zero_mul];have e:rd 0=0:=by unfold rd;rw[if_pos rfl]
    rw[e];exact fX
  have hl:c.log2<=52:=by have:=(Nat.log2_lt h0).2 hc;omega
  have hT:c*2^K≠0:=by
    intro e;rcases Nat.mul_eq_zero.1 e with k|k
    · exact h0 k
    · have:=Nat.two_pow_pos K;omega
  obtain⟨e,he⟩:∃e,c.log2+K-52=e:=⟨_,rfl⟩
  have e1:c*2^K=(c*2^(52-c.log2))*2^e:=by rw[Nat.mul_assoc,<-Nat.pow_add];congr 2;omega
  have hM1:2^52<=c*2^(52-c.log2):=by
    calc 2^52=2^c.log2*2^(52-c.log2):=by rw[<-Nat.pow_add];congr 1;omega
      _<=_:=Nat.mul_le_mul_right _ (Nat.log2_self_le h0)
  have hM2:c*2^(52-c.log2)<2^53:=by
    calc c*2^(52-c.log2)<2^(c.log2+1)*2^(52-c.log2):=Nat.mul_lt_mul_of_pos_right Nat.lt_log2_self (Nat.two_pow_pos _)
      _=2^53:=by rw[<-Nat.pow_add];congr 1;omega
  have e2:rd (c*2^K)=e*4503599627370496+c*2^(52-c.log2):=by
    unfold rd at ho ⊢
    rw[if_neg hT,da h0,he] at ho ⊢
    have e3:e9 (c*2^K) e=c*2^(52-c.log2):=by
      have:=dV (c*2^(52-c.log2)) 0 e
      rw[Nat.zero_add,ex,<-e1] at this
      exact this
    rw[e3] at ho ⊢
    rw[Nat.min_def] at ho ⊢
    split at ho
    · rw[if_pos (by assumption)]
    · omega
  rw[e2,e1]
  generalize c*2^(52-c.log2)=M at hM1 hM2 ⊢
  have hM1':4503599627370496<=M:=hM1
  have hM2':M<9007199254740992:=hM2
  unfold vl
  have p1:pl (e*4503599627370496+M)=e:=by unfold pl;omega
  have p2:mg (e*4503599627370496+M)=M:=by unfold mg;rw[if_neg (by omega)];omega
  rw[p1,p2]
theorem ra{x y a b K:Nat}(hx:x<aJ)(hy:y<aJ)(ha:vl x<=a*2^K)(hb:vl y<=b*2^K)(hc:a+b<2^53)(hK:52<=K)(ho:rd ((a+b)*2^K)<aJ):cE x y<aJ/\vl (cE x y)<=(a+b)*2^K:=by
 rw[gT hx hy]
 have h1:rd (vl x+vl y)<=rd ((a+b)*2^K):=i6 (by rw[Nat.add_mul];omega)
 refine⟨Nat.lt_of_le_of_lt h1 ho,?_⟩
 have:=qD h1
 rw[sh hc hK ho] at this
 exact this
theorem jH(r:Nat):double.word false r=r:=by unfold Format.word;rw[if_neg Bool.false_ne_true]
theorem lu(s:Bool)(m:Nat)(p:Int):double.nearest s m p=double.word s (double.nearest false m p):=by
 unfold Format.nearest
 dsimp only
 split<;>rw[jH]
 rw[kP,kP]
theorem nB(s:Bool){r:Nat}(h:r<aJ):double.read (double.word s r)= .number s (mg r) (-1074+(pl r:Nat)):=by
 have h':r<9218868437227405312:=h
 have e0:=bA h
 cases s with
 |false=>exact e0
 |true=>
   unfold Format.read at e0 ⊢
   simp only[kt,im,oo,oD,Format.word,if_true] at e0 ⊢
   have h1:(9223372036854775808+r)/9223372036854775808=1:=by omega
   have h2:(9223372036854775808+r)%9223372036854775808=r:=by omega
   have h3:r%9223372036854775808=r:=by omega
   rw[h1,h2]
   rw[h3] at e0
   rw[if_pos h] at e0 ⊢
   by_cases c:r<4503599627370496
   · rw[if_pos c] at e0 ⊢
     injection e0 with a b c'
     rw[<-b,<-c'];rfl
   · rw[if_neg c] at e0 ⊢
     injection e0 with a b c'
     rw[b,c'];rfl
theorem qt(b:Bool)(m:Nat)(p:Int){r:Nat}(h:double.nearest false m p=r):∃s,double.write (.number b m p)=double.word s r:=⟨b,by
 show double.nearest b m p=_
 rw[lu,h]⟩
def ls(x m:Nat):Nat:=rd ((vl x-vl m)+(vl m-vl x))
theorem oC{x m:Nat}(hx:x<aJ)(hm:m<aJ):∃s,cr x m=double.word s (ls x m):=by
 unfold cr Format.sub
 rw[bA hx,bA hm]
 simp only[Datum.opposite,Datum.sum,jx,nC,ly,db,signed,Bool.false_eq_true,if_false,Bool.not_false,if_true,Option.map_some,Option.getD_some]
 refine qt _ _ _ ?_
 rw[dA]
 unfold ls
 congr 1
 have k1:=dS (a:=pl x) (b:=min (pl x) (pl m)) (by omega)
 have k2:=dS (a:=pl m) (b:=min (pl x) (pl m)) (by omega)
 unfold vl
 rw[<-k1,<-k2,<-Nat.mul_assoc,<-Nat.mul_assoc]
 generalize mg x*2^(pl x-min (pl x) (pl m))=A
 generalize mg m*2^(pl m-min (pl x) (pl m))=C
 generalize 2^min (pl x) (pl m)=E
 rcases Nat.le_total A C with h|h
 · have e:((A:Int)+ -(C:Int)).natAbs=C-A:=by omega
   rw[e,<-Nat.sub_mul,<-Nat.sub_mul,Nat.sub_eq_zero_of_le h,Nat.zero_mul,Nat.zero_add]
 · have e:((A:Int)+ -(C:Int)).natAbs=A-C:=by omega
   rw[e,<-Nat.sub_mul,<-Nat.sub_mul,Nat.sub_eq_zero_of_le h,Nat.zero_mul,Nat.add_zero]
theorem nX{s:Bool}{r:Nat}(h:r<aJ):bi (double.word s r) (double.word s r)=bi r r:=by
 unfold bi Format.mul
 rw[nB s h,bA h]
 simp only[Datum.product,Bool.xor_self]
theorem sX{k x m:Nat}(hx:x=0\/4503599627370496<=x)(hm:m=0\/4503599627370496<=m)(hd:(vl x-vl m)+(vl m-vl x)=0\/2^52<=(vl x-vl m)+(vl m-vl x))(ho:ls x m+k*4503599627370496<aJ):ls (S k x) (S k m)=S k (ls x m):=by
 unfold ls at ho ⊢
 rw[pH hx,pH hm,<-Nat.sub_mul,<-Nat.sub_mul,<-Nat.add_mul]
 exact ld hd ho
theorem qP{a b x y:Nat}(hx:4503599627370496<=x)(hy:4503599627370496<=y)(hx2:x+a*4503599627370496<aJ)(hy2:y+b*4503599627370496<aJ)(h:1074<=pl x+pl y)(ho:bi x y+(a+b)*4503599627370496<aJ):bi (S a x) (S b y)=S (a+b) (bi x y):=by
 rw[oF (by omega),oF (by omega),io hx2 hy2 (by rw[fB hx,fB hy];omega),jm hx,jm hy,fB hx,fB hy]
 rw[io (by omega) (by omega) h] at ho ⊢
 rw[show pl x+a+(pl y+b)-1074=(pl x+pl y-1074)+(a+b) by omega,Nat.pow_add,<-Nat.mul_assoc]
 refine ld (.inr ?_) ho
 have m1:=eN hx
 have m2:=eN hy
 calc 2^52<=mg x:=m1
   _<=mg x*mg y:=Nat.le_mul_of_pos_right _ (by omega)
   _<=_:=Nat.le_mul_of_pos_right _ (Nat.two_pow_pos _)
theorem rR{y:Nat}(hy:y<aJ):bi 0 y=0:=by
 unfold bi Format.mul
 rw[bA (x:=0) (by decide),bA hy]
 simp only[Datum.product,show mg 0=0 from rfl,Nat.zero_mul,Bool.xor_self,Option.map_some,Option.getD_some]
 show double.nearest false 0 _=0
 unfold Format.nearest;rw[if_pos rfl];rfl
theorem r9{m p a b e:Nat}(c:Nat)(h:c=2^a)(hp:a+b=p+e):c*m*2^b=m*2^p*2^e:=by
 rw[h,Nat.mul_comm (2^a),Nat.mul_assoc,Nat.mul_assoc,<-Nat.pow_add,<-Nat.pow_add,hp]
theorem mj{e x:Nat}(he:e=1\/e=2)(hx:x=0\/52*4503599627370496<=x)(ho:x+e*4503599627370496<aJ):bi ((1023+e)*4503599627370496) x=S e x:=by
  have hI:aJ=9218868437227405312:=rfl
  have p1:pl ((1023+e)*4503599627370496)=1022+e:=by unfold pl;rw[Nat.mul_div_cancel _ (by omega)];omega
  have m1:mg ((1023+e)*4503599627370496)=4503599627370496:=by unfold mg;rw[if_neg (by omega),Nat.mul_mod_left]
  rcases hx with rfl|hx
  · rw[nb]
    rcases he with rfl|rfl<;>decide+kernel
  · have p2:51<=pl x:=by unfold pl;omega
    rw[io (by omega) (by omega) (by omega),p1,m1]
    have e1:4503599627370496*mg x*2^(1022+e+pl x-1074)=vl x*2^e:=r9 _ (show(4503599627370496:Nat)=2^52 by decide) (by omega)
    have hxi:x<aJ:=by omega
    have hv:=kw hxi
    have h9:=ld (T:=vl x) (k:=e) (.inr (rr (by omega))) (by rw[hv];exact ho)
    rw[hv] at h9
    rw[e1];exact h9
def Qt(a b:Nat):Nat:=2*(a*2^54/b)+(a*2^54%b !=0).toNat
theorem qN{x y:Nat}(hx:4503599627370496<=x)(hy:4503599627370496<=y):2^54<=Qt (mg x) (mg y):=by
 have m1:=eN hx
 have m2:=fG y
 have m3:=eN hy
 have:2^53<=mg x*2^54/mg y:=by
   refine(Nat.le_div_iff_mul_le (by omega)).2 ?_
   calc 2^53*mg y<=2^53*2^53:=Nat.mul_le_mul_left _ (Nat.le_of_lt m2)
     _=2^52*2^54:=by decide
     _<=mg x*2^54:=Nat.mul_le_mul_right _ m1
 unfold Qt
 have e:(2:Nat)^54=2*2^53:=by decide
 omega
theorem su{x y:Nat}(hy:4503599627370496<=y):Qt (mg x) (mg y)<2^57:=by
 have m1:=fG x
 have m3:=eN hy
 have:mg x*2^54/mg y<=2^55:=by
   refine Nat.div_le_of_le_mul ?_
   calc mg x*2^54<=2^53*2^54:=Nat.mul_le_mul_right _ (Nat.le_of_lt m1)
     _=2^52*2^55:=by decide
     _<=mg y*2^55:=Nat.mul_le_mul_right _ m3
 unfold Qt
 have hb:(mg x*2^54%mg y !=0).toNat<=1:=by cases(mg x*2^54%mg y !=0)<;>simp
 have e:(2:Nat)^57=4*2^55:=by decide
 omega
theorem nk{s:Bool}{x y:Nat}(hx:4503599627370496<=x)(hx2:x<aJ)(hy:4503599627370496<=y)(hy2:y<aJ)(h:pl y<=pl x+1019):aO (double.word s x) y=double.word s (rd (Qt (mg x) (mg y)*2^(pl x+1019-pl y))):=by
 have hm:¬mg y=0:=by have:=eN hy;omega
 unfold aO Format.div
 rw[nB s hx2,bA hy2]
 simp only[Datum.quotient,if_neg hm,Option.map_some,Option.getD_some,Bool.xor_false,show double.fractionBits+2=54 from rfl,lf hx,lf hy]
 show double.nearest _ _ _=_
 rw[lu,show(-1074+(pl x:Int)-(-1074+(pl y:Int))-((54+52-52:Nat):Int)-1)= -1074+((pl x+1019-pl y:Nat):Int) by omega,dA,db]
 rfl
theorem iH{x y:Nat}(hx:4503599627370496<=x)(hx2:x<aJ)(hy:4503599627370496<=y)(hy2:y<aJ)(h:pl y<=pl x+1019):aO x y=rd (Qt (mg x) (mg y)*2^(pl x+1019-pl y)):=by
 have:=nk (s:=false) hx hx2 hy hy2 h
 rw[jH,jH] at this
 exact this
theorem gU{y:Nat}(hy:y<aJ)(h:y≠0):aO 0 y=0:=by
 have hm:¬mg y=0:=λe=>h (dO.1 e)
 unfold aO Format.div
 rw[bA (x:=0) (by decide),bA hy]
 simp only[Datum.quotient,if_neg hm,show mg 0=0 from rfl,Nat.zero_shiftLeft,Nat.zero_div,Nat.zero_mod,Option.map_some,Option.getD_some,Bool.xor_self]
 show double.nearest false (2*0+(0 !=0).toNat) _=0
 unfold Format.nearest;rw[if_pos (by rfl)];rfl
theorem sK{k x y:Nat}(hx:x=0\/4503599627370496<=x)(hx2:x+k*4503599627370496<aJ)(hy:4503599627370496<=y)(hy2:y<aJ)(h:x≠0->pl y<=pl x+1019)(ho:aO x y+k*4503599627370496<aJ):aO (S k x) y=S k (aO x y):=by
 rcases hx with rfl|hx
 · rw[nb,gU hy2 (by omega),nb]
 · have hp:=h (by omega)
   rw[oF (by omega),iH (by omega) hx2 hy hy2 (by rw[fB hx];omega),jm hx,fB hx]
   rw[iH hx (by omega) hy hy2 hp] at ho ⊢
   rw[show pl x+k+1019-pl y=(pl x+1019-pl y)+k by omega,Nat.pow_add,<-Nat.mul_assoc]
   refine ld (.inr ?_) ho
   calc 2^52<=2^54:=by decide
     _<=_:=qN hx hy
     _<=_:=Nat.le_mul_of_pos_right _ (Nat.two_pow_pos _)
theorem rP{k x y:Nat}(hx:x=0\/4503599627370496<=x)(hx2:x+k*4503599627370496<aJ)(hy:y=0\/4503599627370496<=y)(hy2:y+k*4503599627370496<aJ)(h:x≠0->pl y<=pl x+1019):aO (S k x) (S k y)=aO x y:=by
 rcases hy with rfl|hy
 · rw[nb]
   rcases hx with rfl|hx
   · rw[nb]
   · rw[oF (by omega)]
     unfold aO
     rw[kI (Nat.le_of_lt hx2) (by omega),kI (by omega) (by omega)]
 · rw[oF (x:=y) (by omega)]
   rcases hx with rfl|hx
   · rw[nb,gU hy2 (by omega),gU (by omega) (by omega)]
   · have hp:=h (by omega)
     rw[oF (by omega),iH (by omega) hx2 (by omega) hy2 (by rw[fB hx,fB hy];omega),iH hx (by omega) hy (by omega) hp,jm hx,jm hy,fB hx,fB hy]
     congr 3;omega
theorem re{x y:Nat}(hx:4503599627370496<=x)(hx2:x<aJ)(hy:4503599627370496<=y)(hy2:y<aJ)(h:pl y<=pl x+1019)(ho:pl x<=pl y+1000):(pl x+1022-pl y)*4503599627370496<=aO x y/\aO x y<=(pl x+1026-pl y)*4503599627370496:=by
 have hI:aJ=9218868437227405312:=rfl
 rw[iH hx hx2 hy hy2 h]
 obtain⟨j,hj⟩:∃j,pl x+1019-pl y=j:=⟨_,rfl⟩
 rw[hj]
 have hlo:2^(54+j)<=Qt (mg x) (mg y)*2^j:=by rw[Nat.pow_add];exact Nat.mul_le_mul_right _ (qN hx hy)
 have hhi:Qt (mg x) (mg y)*2^j<2^(56+j+1):=by
   rw[show 56+j+1=57+j by omega,Nat.pow_add]
   exact Nat.mul_lt_mul_of_pos_right (su hy) (Nat.two_pow_pos _)
 have k1:=kj hlo (by omega)
 have k2:=fI hhi (by omega)
 clear hlo hhi
 have e1:54+j-51=pl x+1022-pl y:=by omega
 have e2:56+j-50<=pl x+1026-pl y:=by omega
 rw[e1] at k1
 refine⟨?_,Nat.le_trans k2 (Nat.mul_le_mul_right _ e2)⟩
 refine Nat.le_trans (Nat.le_min.2 ⟨Nat.le_refl _,?_⟩) k1
 have:(pl x+1022-pl y)*4503599627370496<=2022*4503599627370496:=Nat.mul_le_mul_right _ (by omega)
 exact Nat.le_trans this (by decide)
end TL
/-
  TlTwice: a drawing twice as great: lengths, sums, means twice, ratios the same, spreads four times.
  By an AI agent.
-/
set_option linter.all false
namespace TL
open Go
def cS(a:Pt):Pt:=(2*a.1,2*a.2)
def KK:Nat:=1104
theorem sH{c:Nat}(h:c<2^20):rd (c*2^KK)<=1073*4503599627370496:=by
 have hK:KK=1104:=rfl
 revert hK
 generalize KK=K
 intro hK
 have hT:c*2^K<2^(19+K+1):=by
   rw[show 19+K+1=20+K by omega,Nat.pow_add]
   exact Nat.mul_lt_mul_of_pos_right h (Nat.two_pow_pos _)
 have h2:=fI hT (by omega)
 have e:19+K-50=1073:=by omega
 rw[e] at h2;exact h2
structure Gd(c x:Nat):Prop where
 lo:x=0\/1000*4503599627370496<=x
 fin:x<aJ
 hi:vl x<=c*2^KK
theorem Gd.le{c x:Nat}(h:Gd c x)(hc:c<2^20):x<=1073*4503599627370496:=by
 have h1:=i6 h.hi
 rw[kw h.fin] at h1
 exact Nat.le_trans h1 (sH hc)
theorem Gd.mono{c d x:Nat}(h:Gd c x)(hd:c<=d):Gd d x:=⟨h.lo,h.fin,Nat.le_trans h.hi (Nat.mul_le_mul_right _ hd)⟩
theorem Gd.zero(c:Nat):Gd c 0:=⟨.inl rfl,by decide,by rw[fX];exact Nat.zero_le _⟩
theorem qX{x y:Nat}(hx:x<aJ)(hy:y<aJ):x<=cE x y/\y<=cE x y:=by
 rw[gT hx hy]
 have h1:=i6 (show vl x<=vl x+vl y from Nat.le_add_right _ _)
 have h2:=i6 (show vl y<=vl x+vl y from Nat.le_add_left _ _)
 rw[kw hx] at h1
 rw[kw hy] at h2
 exact⟨h1,h2⟩
theorem nF{a x y:Nat}(hx:x<aJ)(hy:y<aJ)(h1:x=0\/a<=x)(h2:y=0\/a<=y):cE x y=0\/a<=cE x y:=by
 have h:=qX hx hy
 rcases h1 with rfl|h1
 · rcases h2 with rfl|h2
   · left;rw[rU (by omega)]
   · right;exact Nat.le_trans h2 h.2
 · right;exact Nat.le_trans h1 h.1
theorem Gd.add{a b x y:Nat}(hx:Gd a x)(hy:Gd b y)(h:a+b<2^20):Gd (a+b) (cE x y):=by
 have hI:aJ=9218868437227405312:=rfl
 have h3:=sH h
 have hlt:(1073*4503599627370496:Nat)<aJ:=by decide
 obtain⟨k1,k2⟩:=ra hx.fin hy.fin hx.hi hy.hi (Nat.lt_of_lt_of_le h (by decide)) (by decide) (Nat.lt_of_le_of_lt h3 hlt)
 exact⟨nF hx.fin hy.fin hx.lo hy.lo,k1,k2⟩
theorem mQ{x:Nat}{a:Nat}(h:x=0\/a<=x)(ha:4503599627370496<=a):x=0\/4503599627370496<=x:=by
 rcases h with h|h
 · exact .inl h
 · exact .inr (Nat.le_trans ha h)
theorem Gd.b{c x:Nat}(h:Gd c x):x=0\/4503599627370496<=x:=mQ h.lo (by decide)
theorem Gd.room{c x:Nat}(h:Gd c x)(hc:c<2^20):x+1*4503599627370496<aJ:=by
 have h1:=h.le hc
 have h2:(1073*4503599627370496+1*4503599627370496:Nat)<aJ:=by decide
 exact Nat.lt_of_le_of_lt (Nat.add_le_add_right h1 _) h2
theorem Gd.S1{a b x y:Nat}(hx:Gd a x)(hy:Gd b y)(h:a+b<2^20):cE (S 1 x) (S 1 y)=S 1 (cE x y):=
 qF hx.b hy.b (hx.room (by omega)) (hy.room (by omega)) ((hx.add hy h).room h)
theorem pc(a b:Pt):hH (cS a) (cS b)=hH a b*4:=by
 unfold hH cS
 have e1:2*b.1-2*a.1=2*(b.1-a.1):=by omega
 have e2:2*b.2-2*a.2=2*(b.2-a.2):=by omega
 rw[e1,e2]
 have h:∀x:Int,2*x*(2*x)=x*x*4:=λx=>by rw[Int.mul_assoc,Int.mul_comm x,Int.mul_assoc];omega
 rw[h,h];omega
theorem ik(a b:Pt):bk a b=fh (hH a b).toNat:=by
 have hs:=gM a b
 unfold bk
 conv=>lhs;rw[show hH a b=(((hH a b).toNat:Nat):Int) by omega]
 exact et _
theorem qB{a b:Pt}(ha:c5 a)(hb:c5 b):(hH a b).toNat<2^44:=by
 obtain⟨⟨a1,a2⟩,a3,a4⟩:=ha
 obtain⟨⟨b1,b2⟩,b3,b4⟩:=hb
 have m3:=gY (x:=b.1-a.1) (by omega) (by omega)
 have m4:=gY (x:=b.2-a.2) (by omega) (by omega)
 have hs:=gM a b
 have:hH a b<=8796093022208:=by unfold hH;omega
 have e:(2:Nat)^44=17592186044416:=by decide
 rw[e];omega
theorem iI{n:Nat}(h:n<2^44):fh n<=1067*4503599627370496:=by
 rw[ec]
 generalize hK:(1074:Nat)=K
 have hT:n*2^K<2^(43+K+1):=by
   rw[show 43+K+1=44+K by omega,Nat.pow_add]
   exact Nat.mul_lt_mul_of_pos_right h (Nat.two_pow_pos _)
 have h2:=fI hT (by omega)
 have e:43+K-50=1067:=by omega
 rw[e] at h2;exact h2
theorem je(n:Nat):fh n=0\/1023*4503599627370496<=fh n:=by
 rcases Nat.eq_zero_or_pos n with h|h
 · left;rw[h];exact j8
 · right;exact jo (by omega)
theorem te{x e K:Nat}(hK:K=51+e)(h:x<=e*4503599627370496)(he:1<=e):vl x<=1*2^K:=by
 rw[Nat.one_mul,hK];exact kA h he
theorem qC{a b:Pt}(ha:c5 a)(hb:c5 b):Gd 1 (az (bk a b)):=by
 have h1:=iI (qB ha hb)
 rw[<-ik] at h1
 have h3:=(mH (e:=1067) h1 (by decide) (by decide)).1
 have h4:(520+1067/2)=1053:=by decide
 rw[h4] at h3
 have hI:aJ=9218868437227405312:=rfl
 have hx:bk a b<aJ:=Nat.lt_of_le_of_lt h1 (by decide)
 refine⟨?_,Nat.lt_of_le_of_lt h3 (by decide),?_⟩
 · rcases je (hH a b).toNat with h|h
   · left;rw[ik,h];decide+kernel
   · right;rw[<-ik] at h;exact mL hx h
 · exact te (e:=1053) (show KK=51+1053 from rfl) h3 (by decide)
theorem om{a b:Pt}(ha:c5 a)(hb:c5 b):az (bk (cS a) (cS b))=S 1 (az (bk a b)):=by
 have h1:=iI (qB ha hb)
 have hI:aJ=9218868437227405312:=rfl
 have hn:=gM a b
 have e:bk (cS a) (cS b)=S 2 (bk a b):=by
   rw[ik,ik,pc,show(hH a b*4).toNat=(hH a b).toNat*2^2 by omega]
   exact nw (Nat.lt_of_le_of_lt (Nat.add_le_add_right h1 _) (by decide))
 rw[e]
 rw[<-ik] at h1
 refine rk ?_ (Nat.lt_of_le_of_lt (Nat.add_le_add_right h1 _) (by decide)) ((qC ha hb).room (by decide))
 rw[ik]
 exact mQ (je _) (by decide)
theorem qR{l:List Pt}(h:∀q∈l,c5 q){k:Nat}(hk:k+1<l.length):Gd 1 (ig l k)/\ig (l.map cS) k=S 1 (ig l k):=by
 have o1:=h _ (bl (xs:=l) (i:=(k:Int)) (by omega) (by omega))
 have o2:=h _ (bl (xs:=l) (i:=(k:Int)+1) (by omega) (by omega))
 unfold ig
 rw[dP (by omega) (by omega),dP (by omega) (by omega)]
 exact⟨qC o1 o2,om o1 o2⟩
theorem nL{l:List Pt}(h:∀q∈l,c5 q):∀k:Nat,k+1<l.length->k<1000->Gd (k+1) (gp l k)/\gp (l.map cS) k=S 1 (gp l k)
 |0,hk,_=>qR h hk
 |k+1,hk,h4=>by
   obtain⟨h1,h2⟩:=nL h k (by omega) (by omega)
   obtain⟨h3,h5⟩:=qR h hk
   have e:(2:Nat)^20=1048576:=by decide
   unfold gp
   rw[h2,h5]
   exact⟨h1.add h3 (by omega),h1.S1 h3 (by omega)⟩
section
variable{g:cJ}{p:ci}
def G4(g:cJ)(p:ci):Prop:=ni g p/\(∀e:Int,0<=e->e<p.2.length->((gI p.2 e).length:Int)<=400)/\(p.2.length:Int)<=40
theorem iC(h:G4 g p){k:Nat}(hk:k<p.2.length):Gd 400 (gI (aD p) (k:Int))/\gI (aD (ck cS p)) (k:Int)=S 1 (gI (aD p) (k:Int)):=by
 obtain⟨hs,h4,_⟩:=h
 have k1:=hs.ln (k:Int) (by omega) (by omega)
 have k2:=h4 (k:Int) (by omega) (by omega)
 have l2:(ck cS p).2.length=p.2.length:=ei.2
 rw[jv (by omega) (by omega),jv (by omega) (by omega),l7 (by omega) (by omega)]
 unfold dZ
 rw[List.length_map]
 obtain⟨k3,k4⟩:=nL k1.2.2 ((gI p.2 (k:Int)).length-2) (by omega) (by omega)
 exact⟨k3.mono (by omega),k4⟩
theorem cR(p:ci):(aD p).length=p.2.length:=List.length_map _
theorem o9(h:G4 g p):∀k:Nat,k<=p.2.length->Gd (400*k) (fC (aD p) k)/\fC (aD (ck cS p)) k=S 1 (fC (aD p) k)
 |0,_=>⟨Gd.zero _,rfl⟩
 |k+1,hk=>by
   have h40:=h.2.2
   obtain⟨h1,h2⟩:=o9 h k (by omega)
   obtain⟨h3,h5⟩:=iC h (k:=k) (by omega)
   have e:(2:Nat)^20=1048576:=by decide
   unfold fC
   rw[h2,h5]
   exact⟨h1.add h3 (by omega),h1.S1 h3 (by omega)⟩
theorem ot(h:G4 g p):∀k:Nat,k<=p.2.length->Gd 400 (fU (aD p) k)/\fU (aD (ck cS p)) k=S 1 (fU (aD p) k)
 |0,_=>⟨Gd.zero _,rfl⟩
 |k+1,hk=>by
   obtain⟨h1,h2⟩:=ot h k (by omega)
   obtain⟨h3,h5⟩:=iC h (k:=k) (by omega)
   unfold fU
   rw[h2,h5,sJ]
   refine⟨?_,rfl⟩
   rcases Nat.le_total (fU (aD p) k) (gI (aD p) (k:Int)) with c|c
   · rw[Nat.max_eq_right c];exact h3
   · rw[Nat.max_eq_left c];exact h1
theorem ou(h:G4 g p):∀k:Nat,k+1<=p.2.length->Gd 400 (fi (aD p) (k+1))/\fi (aD (ck cS p)) (k+1)=S 1 (fi (aD p) (k+1))
 |0,hk=>by
   obtain⟨h3,h5⟩:=iC h (k:=0) (by omega)
   have e:(2:Nat)^20=1048576:=by decide
   have h6:=ks (h3.room (by omega))
   unfold fi
   rw[h5]
   show Gd 400 (min aJ _)/\min aJ _=S 1 (min aJ _)
   rw[Nat.min_eq_right (Nat.le_of_lt h6),Nat.min_eq_right (Nat.le_of_lt h3.fin)]
   exact⟨h3,rfl⟩
 |k+1,hk=>by
   obtain⟨h1,h2⟩:=ou h k (by omega)
   obtain⟨h3,h5⟩:=iC h (k:=k+1) (by omega)
   unfold fi
   rw[h2,h5,sw]
   refine⟨?_,rfl⟩
   rcases Nat.le_total (fi (aD p) (k+1)) (gI (aD p) ((k+1:Nat):Int)) with c|c
   · rw[Nat.min_eq_left c];exact h1
   · rw[Nat.min_eq_right c];exact h3
end
end TL
/-
  TlTwice2: a drawing twice as great: means, ratios, spreads.
  By an AI agent.
-/
set_option linter.all false
namespace TL
open Go
theorem s3{n:Nat}(h0:n≠0)(h:n<=40):1023*4503599627370496<=aq (n:Int)/\aq (n:Int)<=1029*4503599627370496:=by
  rw[et]
  refine⟨jo h0,?_⟩
  rw[ec]
  generalize hK:(1074:Nat)=K
  have hT:n*2^K<2^(5+K+1):=by
    rw[show 5+K+1=6+K by omega,Nat.pow_add]
    exact Nat.mul_lt_mul_of_pos_right (by have:(2:Nat)^6=64:=by decide
                                          omega) (Nat.two_pow_pos _)
  have h2:=fI hT (by omega)
  have e:5+K-50=1029:=by omega
  rw[e] at h2;exact h2
theorem eM{a b x:Nat}(h1:a*4503599627370496<=x)(h2:x<=b*4503599627370496):a-1<=pl x/\pl x<=b-1:=by
 have e1:a<=x/4503599627370496:=(Nat.le_div_iff_mul_le (by decide)).2 h1
 have e2:x/4503599627370496<=b:=Nat.div_le_of_le_mul (by rw[Nat.mul_comm];exact h2)
 unfold pl;omega
theorem eP{a b:Nat}(h:a<=b):a*4503599627370496<=b*4503599627370496:=Nat.mul_le_mul_right _ h
theorem fH{a x:Nat}(h:a*4503599627370496<=x)(ha:1<=a):4503599627370496<=x:=Nat.le_trans (by have:=eP ha;rw[Nat.one_mul] at this;exact this) h
theorem e7{a x:Nat}(k:Nat)(h:x<=a*4503599627370496)(ha:a+k<=2046):x+k*4503599627370496<aJ:=by
 have h1:x+k*4503599627370496<=(a+k)*4503599627370496:=by rw[Nat.add_mul];exact Nat.add_le_add_right h _
 exact Nat.lt_of_le_of_lt (Nat.le_trans h1 (eP ha)) (by decide)
theorem eK{a x:Nat}(h:x<=a*4503599627370496)(ha:a<=2046):x<aJ:=Nat.lt_of_le_of_lt (Nat.le_trans h (eP ha)) (by decide)
theorem qK{a b k x n:Nat}(ha:500<=a)(hb:b<=1300)(hk:k<=2)(h1:x=0\/a*4503599627370496<=x)(h2:x<=b*4503599627370496)(h0:n≠0)(hn:n<=40):aO (S k x) (aq (n:Int))=S k (aO x (aq (n:Int)))/\(aO x (aq (n:Int))=0\/(a-7)*4503599627370496<=aO x (aq (n:Int)))/\aO x (aq (n:Int))<=(b+4)*4503599627370496:=by
  obtain⟨n1,n2⟩:=s3 h0 hn
  generalize aq (n:Int)=y at n1 n2 ⊢
  obtain⟨n3,n4⟩:=eM n1 n2
  have hy:=fH n1 (by decide)
  have hy2:y<aJ:=eK n2 (by decide)
  have hbd:x≠0->(pl y<=pl x+1019)/\(a-7)*4503599627370496<=aO x y/\aO x y<=(b+4)*4503599627370496:=by
    intro hx
    have h1':=h1.resolve_left hx
    obtain⟨p1,p2⟩:=eM h1' h2
    have hq:=re (fH h1' (by omega)) (eK h2 (by omega)) hy hy2 (by omega) (by omega)
    exact⟨by omega,Nat.le_trans (eP (by omega)) hq.1,Nat.le_trans hq.2 (eP (by omega))⟩
  by_cases hx:x=0
  · subst hx
    have e:aO 0 y=0:=gU hy2 (by omega)
    rw[nb,e]
    exact⟨(nb k).symm,.inl rfl,Nat.zero_le _⟩
  · obtain⟨q1,q2,q3⟩:=hbd hx
    have h1':=h1.resolve_left hx
    refine⟨sK (.inr (fH h1' (by omega))) (e7 k h2 (by omega)) hy hy2 (λ_=>q1) (e7 k q3 (by omega)),.inr q2,q3⟩
theorem ox{a x:Nat}(ha:1<=a)(h:x=0\/a*4503599627370496<=x):∃X,vl x=X*2^(a-1):=by
  rcases h with rfl|h
  · exact⟨0,by rw[fX,Nat.zero_mul]⟩
  · have e1:a<=x/4503599627370496:=(Nat.le_div_iff_mul_le (by decide)).2 h
    refine⟨mg x*2^(pl x-(a-1)),?_⟩
    unfold vl
    rw[Nat.mul_assoc,<-Nat.pow_add]
    congr 2
    unfold pl;omega
theorem st{a b x m:Nat}(ha:60<=a)(ha2:a<=2000)(hb:b<=1100)(hab:60<=b)(hx:x=0\/a*4503599627370496<=x)(hm:m=0\/a*4503599627370496<=m)(hx2:x<=b*4503599627370496)(hm2:m<=b*4503599627370496):
   ((vl x-vl m)+(vl m-vl x)=0\/2^52<=(vl x-vl m)+(vl m-vl x))/\(ls x m=0\/(a-52)*4503599627370496<=ls x m)/\ls x m<=(b+1)*4503599627370496:=by
 obtain⟨X,e1⟩:=ox (by omega) hx
 obtain⟨M,e2⟩:=ox (by omega) hm
 have u1:=kA hx2 (by omega)
 have u2:=kA hm2 (by omega)
 have e3:(vl x-vl m)+(vl m-vl x)=((X-M)+(M-X))*2^(a-1):=by
   rw[e1,e2,<-Nat.sub_mul,<-Nat.sub_mul,<-Nat.add_mul]
 have hub:(vl x-vl m)+(vl m-vl x)<2^(51+b+1):=by
   have:2^(51+b+1)=2*2^(51+b):=by rw[Nat.pow_succ,Nat.mul_comm]
   have:=Nat.two_pow_pos (51+b)
   omega
 have k2:=fI hub (by omega)
 have hdf:ls x m<=(b+1)*4503599627370496:=by
   unfold ls
   rw[show 51+b-50=b+1 by omega] at k2
   exact k2
 by_cases hD:(X-M)+(M-X)=0
 · rw[hD,Nat.zero_mul] at e3
   refine⟨.inl e3,.inl ?_,hdf⟩
   unfold ls;rw[e3];unfold rd;rw[if_pos rfl]
 · have h1:2^(a-1)<=(vl x-vl m)+(vl m-vl x):=by
     rw[e3];exact Nat.le_mul_of_pos_left _ (by omega)
   refine⟨.inr (Nat.le_trans (Nat.pow_le_pow_right (by decide) (by omega)) h1),.inr ?_,hdf⟩
   have k1:=kj h1 (by omega)
   unfold ls
   rw[show a-1-51=a-52 by omega] at k1
   refine Nat.le_trans (Nat.le_min.2 ⟨Nat.le_refl _,?_⟩) k1
   exact Nat.le_trans (eP (show a-52<=2046 by omega)) (by decide)
theorem nn{a b x y:Nat}(ha:900<=a)(hb:b<=1130)(hx:a*4503599627370496<=x)(hx2:x<=b*4503599627370496)(hy:a*4503599627370496<=y)(hy2:y<=b*4503599627370496):(2*a-1023)*4503599627370496<=bi x y/\bi x y<=(2*b-1020)*4503599627370496:=by
 obtain⟨p1,p2⟩:=eM hx hx2
 obtain⟨q1,q2⟩:=eM hy hy2
 rw[io (eK hx2 (by omega)) (eK hy2 (by omega)) (by omega)]
 obtain⟨j,hj⟩:∃j,pl x+pl y-1074=j:=⟨_,rfl⟩
 rw[hj]
 have m1:=eN (fH hx (by omega))
 have m2:=eN (fH hy (by omega))
 have m3:=fG x
 have m4:=fG y
 have hlo:2^(104+j)<=mg x*mg y*2^j:=by
   rw[Nat.pow_add]
   refine Nat.mul_le_mul_right _ ?_
   calc 2^104=4503599627370496*4503599627370496:=by decide
     _<=_:=Nat.mul_le_mul m1 m2
 have hhi:mg x*mg y*2^j<2^(105+j+1):=by
   rw[show 105+j+1=106+j by omega,Nat.pow_add]
   refine Nat.mul_lt_mul_of_pos_right ?_ (Nat.two_pow_pos _)
   exact Nat.lt_of_lt_of_le (Nat.mul_lt_mul'' m3 m4) (by decide)
 have k1:=kj hlo (by omega)
 have k2:=fI hhi (by omega)
 clear hlo hhi
 refine⟨?_,Nat.le_trans k2 (eP (by omega))⟩
 refine Nat.le_trans (Nat.le_min.2 ⟨eP (show 2*a-1023<=104+j-51 by omega),?_⟩) k1
 exact Nat.le_trans (eP (show 2*a-1023<=2046 by have:=eM hx hx2;omega)) (by decide)
section
variable{g:cJ}{p:ci}
theorem ov(h:G4 g p)(h0:0<p.2.length):ed (aD (ck cS p))=S 1 (ed (aD p))/\(ed (aD p)=0\/993*4503599627370496<=ed (aD p))/\ed (aD p)<=1077*4503599627370496:=by
 have h40:=h.2.2
 have e:(2:Nat)^20=1048576:=by decide
 have l2:(ck cS p).2.length=p.2.length:=ei.2
 obtain⟨k1,k2⟩:=o9 h p.2.length (Nat.le_refl _)
 have k3:=k1.le (by omega)
 unfold ed
 rw[cR,cR,l2,k2]
 exact qK (a:=1000) (b:=1073) (by decide) (by decide) (by decide) k1.lo k3 (by omega) (by omega)
theorem tA{x m:Nat}(hx:x=0\/993*4503599627370496<=x)(hm:m=0\/993*4503599627370496<=m)(hx2:x<=1077*4503599627370496)(hm2:m<=1077*4503599627370496):
   bi (cr (S 1 x) (S 1 m)) (cr (S 1 x) (S 1 m))=S 2 (bi (cr x m) (cr x m))/\(bi (cr x m) (cr x m)=0\/859*4503599627370496<=bi (cr x m) (cr x m))/\bi (cr x m) (cr x m)<=1136*4503599627370496:=by
 obtain⟨d1,d2,d3⟩:=st (a:=993) (b:=1077) (by decide) (by decide) (by decide) (by decide) hx hm hx2 hm2
 have hxb:=mQ hx (by decide)
 have hmb:=mQ hm (by decide)
 have r1:x<aJ:=eK hx2 (by decide)
 have r2:m<aJ:=eK hm2 (by decide)
 have r3:=ks (e7 1 hx2 (by decide))
 have r4:=ks (e7 1 hm2 (by decide))
 obtain⟨s,e1⟩:=oC r1 r2
 obtain⟨t,e2⟩:=oC r3 r4
 have hS:=sX (k:=1) hxb hmb d1 (e7 1 d3 (by decide))
 have r5:ls x m<aJ:=eK d3 (by decide)
 have r6:=ks (e7 1 d3 (by decide))
 rw[e2,hS,nX r6,e1,nX r5]
 generalize ls x m=r at d2 d3 r5 r6 ⊢
 rcases d2 with rfl|d2
 · rw[nb,rR (by decide),nb];exact⟨rfl,.inl rfl,Nat.zero_le _⟩
 · obtain⟨b1,b2⟩:=nn (a:=941) (b:=1078) (by decide) (by decide) d2 d3 d2 d3
   have hp:=(eM d2 d3).1
   have hr:=fH d2 (by decide)
   refine⟨qP (a:=1) (b:=1) hr hr (e7 1 d3 (by decide)) (e7 1 d3 (by decide)) (by omega) (e7 2 b2 (by decide)),.inr b1,b2⟩
theorem sy(h:G4 g p){m:Nat}(hm:m=0\/993*4503599627370496<=m)(hm2:m<=1077*4503599627370496):∀k:Nat,k<=p.2.length->lG (S 1 m) (aD (ck cS p)) k=S 2 (lG m (aD p) k)/\(lG m (aD p) k=0\/859*4503599627370496<=lG m (aD p) k)/\lG m (aD p) k<=(1136+2*k)*4503599627370496
 |0,_=>⟨rfl,.inl rfl,Nat.zero_le _⟩
 |k+1,hk=>by
   have h40:=h.2.2
   obtain⟨h1,h2,h3⟩:=sy h hm hm2 k (by omega)
   obtain⟨h4,h5⟩:=iC h (k:=k) (by omega)
   have e:(2:Nat)^20=1048576:=by decide
   have l1:gI (aD p) (k:Int)=0\/993*4503599627370496<=gI (aD p) (k:Int):=by
     rcases h4.lo with c|c
     · exact .inl c
     · exact .inr (Nat.le_trans (eP (by decide)) c)
   obtain⟨q1,q2,q3⟩:=tA l1 hm (Nat.le_trans (h4.le (by omega)) (eP (by decide))) hm2
   unfold lG
   rw[h5,h1,q1]
   generalize bi (cr (gI (aD p) (k:Int)) m) (cr (gI (aD p) (k:Int)) m)=y at q2 q3 ⊢
   generalize lG m (aD p) k=x at h2 h3 ⊢
   have hx:x<=(1136+2*k)*4503599627370496:=h3
   have hy:y<=(1136+2*k)*4503599627370496:=Nat.le_trans q3 (eP (by omega))
   have hs:=nI hx hy (by omega) (by omega)
   have e2:1136+2*(k+1)=1136+2*k+2:=by omega
   rw[e2]
   refine⟨qF (mQ h2 (by decide)) (mQ q2 (by decide)) (e7 2 hx (by omega)) (e7 2 hy (by omega)) (e7 2 hs (by omega)),nF (eK hx (by omega)) (eK hy (by omega)) h2 q2,hs⟩
theorem nE(h:G4 g p)(h0:0<p.2.length):dM (aD (ck cS p))=S 2 (dM (aD p))/\(dM (aD p)=0\/852*4503599627370496<=dM (aD p))/\dM (aD p)<=1220*4503599627370496:=by
 have h40:=h.2.2
 have l2:(ck cS p).2.length=p.2.length:=ei.2
 obtain⟨m1,m2,m3⟩:=ov h h0
 obtain⟨k1,k2,k3⟩:=sy h m2 m3 p.2.length (Nat.le_refl _)
 have k4:=Nat.le_trans k3 (eP (show 1136+2*p.2.length<=1216 by omega))
 unfold dM
 rw[cR,cR,l2,m1,k1]
 exact qK (a:=859) (b:=1216) (by decide) (by decide) (by decide) k2 k4 (by omega) (by omega)
theorem pN(h:G4 g p)(h0:0<p.2.length):gP (aD (ck cS p))=gP (aD p):=by
 have l2:(ck cS p).2.length=p.2.length:=ei.2
 have e:(2:Nat)^20=1048576:=by decide
 obtain⟨n,hn⟩:∃n,p.2.length=n+1:=⟨p.2.length-1,by omega⟩
 obtain⟨x1,x2⟩:=ot h p.2.length (Nat.le_refl _)
 obtain⟨y1,y2⟩:=ou h n (by omega)
 rw[<-hn] at y1 y2
 unfold gP
 rw[cR,cR,l2,x2,y2]
 have hx:=x1.le (by omega)
 have hy:=y1.le (by omega)
 refine rP x1.b (e7 1 hx (by decide)) y1.b (e7 1 hy (by decide)) (λhne=>?_)
 have p1:=eM (x1.lo.resolve_left hne) hx
 have p2:pl (fi (aD p) p.2.length)<=1072:=(eM (a:=0) (by rw[Nat.zero_mul];exact Nat.zero_le _) hy).2
 omega
end
end TL
/-
  TlTwice3: a drawing twice as great: angles; what MetricTwice says.
  By an AI agent.
-/
set_option linter.all false
namespace TL
open Go
def dW(w:eC):eC:=(2*w.1,2*w.2.1,S 1 w.2.2)
theorem oS{a b:Pt}:cS a=cS b↔a=b:=by
 refine⟨λh=>?_,λh=>by rw[h]⟩
 have h1:=congrArg Prod.fst h
 have h2:=congrArg Prod.snd h
 simp only[cS] at h1 h2
 exact Prod.ext (by omega) (by omega)
theorem oB{a b:Pt}(ha:c5 a)(hb:c5 b):jG (cS a) (cS b)=dW (jG a b):=by
 unfold jG dW
 rw[om ha hb]
 unfold cS
 exact Prod.ext (by simp only;omega) (Prod.ext (by simp only;omega) rfl)
theorem qG(L:List (List eC))(v:Int):gI (L.map (List.map dW)) v=(gI L v).map dW:=by
 unfold gI
 rw[List.getD_eq_getElem?_getD,List.getD_eq_getElem?_getD,List.getElem?_map]
 cases L[v.toNat]? <;>rfl
theorem jR{L:List (List eC)}{a b:Pt}{v:Int}(ha:c5 a)(hb:c5 b):fD (L.map (List.map dW)) (cS a) (cS b) v=(fD L a b v).map (List.map dW):=by
 unfold fD
 rw[oB ha hb,qG]
 by_cases c:a=b
 · rw[if_pos c,if_pos (by rw[c])]
 · rw[if_neg c,if_neg (λe=>c (oS.1 e)),List.map_set,List.map_append];rfl
theorem iS{g:cJ}{p:ci}(hs:ni g p):∀e:Nat,e<=p.2.length->ar g (ck cS p) e=(ar g p e).map (List.map dW)
 |0,_=>by unfold ar;rw[List.map_replicate];rfl
 |e+1,he=>by
   obtain⟨h1,h2,h3⟩:=hs.ln (e:Int) (by omega) (by omega)
   have k:=λ(i:Int) (h0:0<=i) (hi:i<((gI p.2 (e:Int)).length:Int))=>h3 _ (bl h0 hi)
   unfold ar
   rw[iS hs e (by omega),l7 (by omega) (by omega),List.length_map,dP (by omega) (by omega),dP (by omega) (by omega),dP (by omega) (by omega),dP (by omega) (by omega),jR (k _ (by omega) (by omega)) (k _ (by omega) (by omega)),jR (k _ (by omega) (by omega)) (k _ (by omega) (by omega))]
theorem j4(m:Int):aq m=Ieee.double.word (decide (m<0)) (fh m.natAbs):=by
 show Ieee.double.nearest (decide (m<0)) m.natAbs 0=_
 exact lu _ _ _
theorem rv(a b:eC):gD (dW a) (dW b)=gD a b*4:=by
 unfold gD dW
 have h:∀x y:Int,2*x*(2*y)=x*y*4:=λx y=>by rw[Int.mul_assoc,Int.mul_comm x,Int.mul_assoc,Int.mul_comm y];omega
 simp only[h];omega
theorem pU{a b:eC}(ha:iK a)(hb:iK b):oA (dW a) (dW b)=oA a b:=by
 obtain⟨⟨a1,a2⟩,⟨a3,a4⟩,a5,a6⟩:=ha
 obtain⟨⟨b1,b2⟩,⟨b3,b4⟩,b5,b6⟩:=hb
 have p1:=mu a1 a2 b1 b2
 have p2:=mu a3 a4 b3 b4
 have hm:(gD a b).natAbs<2^44:=by
   have e:(2:Nat)^44=17592186044416:=by decide
   unfold gD;rw[e];omega
 unfold oA
 rw[rv,j4,j4,show(gD a b*4).natAbs=(gD a b).natAbs*2^2 by omega,show decide (gD a b*4<0)=decide (gD a b<0) by rw[decide_eq_decide];omega]
 have hr:=iI hm
 have hl:=je (gD a b).natAbs
 rw[nw (e7 2 hr (by decide))]
 show aO _ (bi (S 1 a.2.2) (S 1 b.2.2))=_
 obtain⟨q1,q2⟩:=nn (a:=1000) (b:=1100) (by decide) (by decide) a5 a6 b5 b6
 have q3:=(eM a5 a6).1
 have q4:=fH a5 (by decide)
 have q5:=fH b5 (by decide)
 have q6:=(eM b5 b6).1
 rw[qP (a:=1) (b:=1) q4 q5 (e7 1 a6 (by decide)) (e7 1 b6 (by decide)) (by omega) (e7 2 q2 (by decide))]
 generalize bi a.2.2 b.2.2=P at q1 q2 ⊢
 have hP:=fH q1 (by decide)
 have hP2:P<aJ:=eK q2 (by decide)
 have hP3:=e7 2 q2 (by decide)
 have hpl:=eM q1 q2
 show aO (Ieee.double.word _ (S 2 _)) (S 2 P)=_
 rw[oF (x:=P) (by omega)]
 by_cases hz:(gD a b).natAbs=0
 · have hd:decide (gD a b<0)=false:=decide_eq_false (by omega)
   rw[hz,j8,nb,hd,jH,gU hP3 (by omega),gU hP2 (by omega)]
 · have hr1:=hl.resolve_left (ki hz)
   generalize fh (gD a b).natAbs=r at hr hr1 ⊢
   have hrp:=eM hr1 hr
   have hr2:=fH hr1 (by decide)
   rw[oF (x:=r) (by omega),nk (by omega) (e7 2 hr (by decide)) (by omega) hP3 (by rw[fB hr2,fB hP];omega),nk hr2 (eK hr (by decide)) hP hP2 (by omega),jm hr2,jm hP,fB hr2,fB hP]
   congr 4;omega
theorem rO(r:List eC)(i:Nat):gB (r.map dW) i=(gB r i).map dW:=by
 unfold gB
 rw[List.length_map,List.map_drop,List.map_take]
theorem kf{m:Nat}{a:eC}{bs:List eC}(ha:iK a)(hb:∀w∈bs,iK w):∀j:Nat,j<=bs.length->jJ m (dW a) (bs.map dW) j=jJ m a bs j
 |0,_=>rfl
 |j+1,hj=>by
   unfold jJ
   rw[kf ha hb j (by omega),dP (by omega) (by omega),pU ha (hb _ (bl (by omega) (by omega)))]
theorem mb{r:List eC}{i:Nat}{w:eC}(h:w∈gB r i):w∈r:=List.mem_of_mem_take (List.mem_of_mem_drop h)
theorem kL{m:Nat}{r:List eC}(hr:∀w∈r,iK w):∀i:Nat,i<=r.length->i0 m (r.map dW) i=i0 m r i
 |0,_=>rfl
 |i+1,hi=>by
   unfold i0
   rw[kL hr i (by omega),dP (by omega) (by omega),rO,List.length_map]
   exact kf (hr _ (bl (by omega) (by omega))) (λw hw=>hr w (mb hw)) _ (Nat.le_refl _)
theorem jS{L:List (List eC)}(hL:∀v,∀w∈gI L v,iK w):∀v:Nat,eB (L.map (List.map dW)) v=eB L v
 |0=>rfl
 |v+1=>by
   unfold eB
   rw[jS hL v,qG,List.length_map]
   exact kL (hL _) _ (Nat.le_refl _)
theorem qr{a b:eC}(ha:iK a)(hb:iK b):fE (oA a b):=by
 have h:=fo ha hb
 exact(jA (k5 _) h.1 h.2).2
theorem kb{m:Nat}{a:eC}{bs:List eC}(hm:fE m)(ha:iK a)(hb:∀w∈bs,iK w):∀j:Nat,j<=bs.length->fE (jJ m a bs j)
 |0,_=>hm
 |j+1,hj=>j9 (kb hm ha hb j (by omega)) (qr ha (hb _ (bl (by omega) (by omega))))
theorem km{m:Nat}{r:List eC}(hm:fE m)(hr:∀w∈r,iK w):∀i:Nat,i<=r.length->fE (i0 m r i)
 |0,_=>hm
 |i+1,hi=>kb (km hm hr i (by omega)) (hr _ (bl (by omega) (by omega))) (λw hw=>hr w (mb hw)) _ (Nat.le_refl _)
theorem kg{L:List (List eC)}(hL:∀v,∀w∈gI L v,iK w):∀v:Nat,fE (eB L v)
 |0=>nN
 |v+1=>km (kg hL v) (hL _) _ (Nat.le_refl _)
theorem kR{x:Nat}(h:fE x):(Ieee.double.order x x==some .eq)=true:=by
 unfold Ieee.Format.order
 rcases ia h with⟨s,m,i,e⟩|⟨s,e⟩<;>rw[e]
 · simp only[Ieee.Datum.order]
   have:∀z:Int,compare z z= .eq:=λz=>by simp[compare,compareOfLessAndEq]
   rw[this];rfl
 · simp only[Ieee.Datum.order,f9];rfl
def oE(x y:Nat):Bool:=Ieee.double.order x y==some .eq
theorem oR{x:Nat}(h:¬oE x x=true):bQ x=true:=by
 unfold oE at h;unfold bQ;rw[bne]
 cases e:(Ieee.double.order x x==some .eq) with
 |true=>exact absurd e h
 |false=>rfl
section
variable{g:cJ}{p:ci}
structure gF(g:cJ)(p:ci):Prop where
 m:dd g
 f:aY g p=0
 q:aY g (ck cS p)=0
 d:G4 g p
 n:0<p.2.length
theorem gF.of(hm:dd g)(h1:(av g p).2=0)(h2:(av g (ck cS p)).2=0)(h4:∀e:Int,0<=e->e<p.2.length->((gI p.2 e).length:Int)<=400)(hl:cY g p)(hn:¬(g.2.length:Int)=0):gF g p:=by
 have f1:=qO h1
 obtain⟨_,hs,_⟩:=eH f1
 have hs2:=hs.m
 have h40:(g.2.length:Int)<=40:=by
   rcases hl.2 with c|c
   · exact absurd hm c
   · exact c.2
 exact⟨hm,f1,qO h2,⟨hs,h4,by omega⟩,by omega⟩
theorem gF.ang(h:gF g p):(Ieee.double.order (bz g p).1 (bz g (ck cS p)).1==some .eq)=true:=by
 have hs:=h.d.1
 have hs2:=hs.m
 have hw:=iv hs g.2.length (by omega)
 rw[go h.f,go h.q,iS hs _ (by omega),List.length_map]
 show(Ieee.double.order (eB _ _) (eB (List.map _ _) _)==some .eq)=true
 rw[jS hw]
 exact kR (kg hw _)
theorem gF.sum(h:gF g p):Gd 16000 (av g p).1.1/\(av g (ck cS p)).1.1=S 1 (av g p).1.1:=by
 have l2:(ck cS p).2.length=p.2.length:=ei.2
 obtain⟨k1,k2⟩:=o9 h.d p.2.length (Nat.le_refl _)
 have h40:=h.d.2.2
 rw[bV h.f,bV h.q]
 show Gd 16000 (fC (aD p) (aD p).length)/\fC (aD (ck cS p)) (aD (ck cS p)).length=S 1 (fC (aD p) (aD p).length)
 rw[cR,cR,l2]
 exact⟨k1.mono (by omega),k2⟩
theorem gF.mean(h:gF g p):(av g (ck cS p)).1.2.1=S 1 (av g p).1.2.1/\((av g p).1.2.1=0\/993*4503599627370496<=(av g p).1.2.1)/\(av g p).1.2.1<=1077*4503599627370496:=by
 rw[bV h.f,bV h.q]
 exact ov h.d h.n
theorem gF.least(h:gF g p):Gd 400 (av g p).1.2.2.1/\(av g (ck cS p)).1.2.2.1=S 1 (av g p).1.2.2.1:=by
 have l2:(ck cS p).2.length=p.2.length:=ei.2
 obtain⟨n,hn⟩:∃n,p.2.length=n+1:=⟨p.2.length-1,by have:=h.n;omega⟩
 obtain⟨k1,k2⟩:=ou h.d n (by omega)
 rw[bV h.f,bV h.q]
 show Gd 400 (fi (aD p) (aD p).length)/\fi (aD (ck cS p)) (aD (ck cS p)).length=S 1 (fi (aD p) (aD p).length)
 rw[cR,cR,l2,hn]
 exact⟨k1,k2⟩
theorem gF.great(h:gF g p):Gd 400 (av g p).1.2.2.2.1/\(av g (ck cS p)).1.2.2.2.1=S 1 (av g p).1.2.2.2.1:=by
 have l2:(ck cS p).2.length=p.2.length:=ei.2
 obtain⟨k1,k2⟩:=ot h.d p.2.length (Nat.le_refl _)
 rw[bV h.f,bV h.q]
 show Gd 400 (fU (aD p) (aD p).length)/\fU (aD (ck cS p)) (aD (ck cS p)).length=S 1 (fU (aD p) (aD p).length)
 rw[cR,cR,l2]
 exact⟨k1,k2⟩
theorem gF.ratio(h:gF g p):(av g (ck cS p)).1.2.2.2.2.1=(av g p).1.2.2.2.2.1:=by
 rw[bV h.f,bV h.q]
 exact pN h.d h.n
theorem gF.spread(h:gF g p):(av g (ck cS p)).1.2.2.2.2.2.1=S 2 (av g p).1.2.2.2.2.2.1/\((av g p).1.2.2.2.2.2.1=0\/852*4503599627370496<=(av g p).1.2.2.2.2.2.1)/\(av g p).1.2.2.2.2.2.1<=1220*4503599627370496:=by
 rw[bV h.f,bV h.q]
 exact nE h.d h.n
theorem pX{a x y:Nat}(h:y=S 1 x)(hx:x=0\/a*4503599627370496<=x)(ha:52<=a)(hx2:x<=1100*4503599627370496):y<=aJ/\y=bi 4611686018427387904 x:=by
 have h1:=e7 1 hx2 (by decide)
 refine⟨by rw[h];exact Nat.le_of_lt (ks h1),?_⟩
 have:=mj (e:=1) (.inl rfl) (x:=x) (by rcases hx with c|c;exact .inl c;exact .inr (Nat.le_trans (eP ha) c)) h1
 rw[h,<-this]
theorem tj{a x y:Nat}(h:y=S 2 x)(hx:x=0\/a*4503599627370496<=x)(ha:52<=a)(hx2:x<=1300*4503599627370496):y<=aJ/\y=bi 4616189618054758400 x:=by
 have h1:=e7 2 hx2 (by decide)
 refine⟨by rw[h];exact Nat.le_of_lt (ks h1),?_⟩
 have:=mj (e:=2) (.inr rfl) (x:=x) (by rcases hx with c|c;exact .inl c;exact .inr (Nat.le_trans (eP ha) c)) h1
 rw[h,<-this]
theorem Gd.u{c x:Nat}(h:Gd c x)(hc:c<2^20):x<=1100*4503599627370496:=Nat.le_trans (h.le hc) (eP (by decide))
theorem gF.eSum(h:gF g p):(av g (ck cS p)).1.1<=aJ/\(av g (ck cS p)).1.1=bi 4611686018427387904 (av g p).1.1:=pX h.sum.2 h.sum.1.lo (by decide) (h.sum.1.u (by decide))
theorem gF.eMean(h:gF g p):(av g (ck cS p)).1.2.1<=aJ/\(av g (ck cS p)).1.2.1=bi 4611686018427387904 (av g p).1.2.1:=pX h.mean.1 h.mean.2.1 (by decide) (Nat.le_trans h.mean.2.2 (eP (by decide)))
theorem gF.eLeast(h:gF g p):(av g (ck cS p)).1.2.2.1<=aJ/\(av g (ck cS p)).1.2.2.1=bi 4611686018427387904 (av g p).1.2.2.1:=pX h.least.2 h.least.1.lo (by decide) (h.least.1.u (by decide))
theorem gF.eGreat(h:gF g p):(av g (ck cS p)).1.2.2.2.1<=aJ/\(av g (ck cS p)).1.2.2.2.1=bi 4611686018427387904 (av g p).1.2.2.2.1:=pX h.great.2 h.great.1.lo (by decide) (h.great.1.u (by decide))
theorem gF.eSpread(h:gF g p):(av g (ck cS p)).1.2.2.2.2.2.1<=aJ/\(av g (ck cS p)).1.2.2.2.2.2.1=bi 4616189618054758400 (av g p).1.2.2.2.2.2.1:=tj h.spread.1 h.spread.2.1 (by decide) (Nat.le_trans h.spread.2.2 (eP (by decide)))
theorem de{x:Nat}{a:Nat}(h:x<=a*4503599627370496)(ha:a<=2046):x<aJ:=eK h ha
end
theorem mw{l r:List Pt}{k:Nat}(h:r=(l.take k).map cS)(hk:(k:Int)<l.length):r++[(2*(gI l (k:Int)).1,2*(gI l (k:Int)).2)]=(l.take (k+1)).map cS:=by
 rw[dn hk,List.map_append,h];rfl
theorem nT{l r:List Pt}{k:Nat}(h:r=(l.take k).map cS):r.length<=k:=by rw[h,List.length_map,List.length_take];omega
theorem qf{p:ci}{L:List (List Pt)}{r:List Pt}{e k:Nat}(h:L=(p.2.take e).map (List.map cS))(he:(e:Int)<p.2.length)(hr:r=((gI p.2 (e:Int)).take k).map cS)(hk:¬(k:Int)<(gI p.2 (e:Int)).length):L++[r]=(p.2.take (e+1)).map (List.map cS):=by
 have e1:(gI p.2 (e:Int)).take k=gI p.2 (e:Int):=List.take_of_length_le (by omega)
 rw[dn he,List.map_append,h,hr,e1];rfl
theorem ry{p:ci}{L:List (List Pt)}{e:Nat}(h:L=(p.2.take e).map (List.map cS)):L.length<=e:=by rw[h,List.length_map,List.length_take];omega
theorem mN{g:cJ}{p:ci}(h:aY g (ck cS p)=0)(h4:∀e:Int,0<=e->e<p.2.length->((gI p.2 e).length:Int)<=400)(k:Int):gI (aD (ck cS p)) k<aJ:=by
 obtain⟨_,hs,_⟩:=eH h
 have l2:(ck cS p).2.length=p.2.length:=ei.2
 exact j1 hs (λe h0 h1=>by rw[l7 h0 (by omega),List.length_map];exact h4 e h0 (by omega)) k
end TL
/-
  TlJMov: a plot moved, its nodes named anew: as many flaws of each kind, and the same told of it.
  By an AI agent.
-/
set_option linter.all false
namespace TL
section
variable{f h:Nat->Nat}{F:Nat->Nat->Nat}{n m:Nat}
end
def ind(P:Prop)[Decidable P]:Nat:=if P then 1 else 0
section
variable{n:Nat}{s:Nat->Nat}{E E':Nat->Nat->Prop}[∀v w,Decidable (E v w)][∀v w,Decidable (E' v w)]
end
section
variable{g:cJ}{p q:ci}{to:List Int}
end
section
variable{g:cJ}{p q:ci}{to:List Int}{t:Pt}
end
end TL
namespace TL
section
variable{g:cJ}{p:ci}{to:List Int}{t:Pt}{qA l r:List Pt}{qL L:List (List Pt)}{v e k i:Nat}
end
end TL
/-
  TlOpen: arguments opened: what a law's reader says of a slice is what a walk wants of it.
  By an AI agent.
-/
namespace TL
open Go Go.Proofs Go.ChangeShapes Go.WideShapes Go.Joins Go.Deep
structure fN{H:Type}(f:DataW H->Nat):Prop where
 slice:∀l s:List (DataW H),l.length<=f (.slice l s)
 elem:∀l s:List (DataW H),∀d∈l,f d<=f (.slice l s)
 part:∀l:List (DataW H),∀d∈l,f d<=f (.agg l)
def qh(α:Type)[Rp α](P:Program)(t:TypeId):Prop:=
  ∀{H:Type} (enc:TypeId×Value->H) (w:World) (fuel:Nat) (cs:List Value) (x:DataW H×List MemPlace),DataW.trod enc P w 0 (λ_=>true) true fuel t cs=some x->∃y:α,Rp.rep c0 any w cs y
theorem mA{P:Program}{t:TypeId}(ht:P.underlying t=some (.int .i64)):qh Int P t:=by
 intro H enc w fuel cs x h
 obtain⟨n,rfl,_,_⟩:=DataW.trod_int ht h
 exact⟨n,rfl⟩
theorem jU{H:Type}{enc:TypeId×Value->H}{P:Program}{w:World}{base:Nat}{spare:Nat->Bool}{held:Bool}{t e:TypeId}{fuel:Nat}{cs:List Value}{x:DataW H×List MemPlace}(ht:P.underlying t=some (.array 2 e))(hce:P.cellsOf e=1)(hct:P.cellsOf t=2)
   (h:DataW.trod enc P w base spare held fuel t cs=some x):
   ∃v0 v1 y0 y1 n,cs=[v0,v1]/\x=(.agg [y0.1,y1.1],y0.2++y1.2)/\DataW.trod enc P w base spare held n e [v0]=some y0/\DataW.trod enc P w base spare held n e [v1]=some y1:=by
 cases fuel with
 |zero=>simp[DataW.trod] at h
 |succ n=>
   unfold DataW.trod at h
   rw[ht] at h
   have r2:List.range 2=[0,1]:=rfl
   simp only[hct] at h
   by_cases hl:cs.length=2
   · rw[if_pos hl] at h
     match cs,hl with
     |[v0,v1],_=>
       simp[r2,hce] at h
       cases h0:DataW.trod enc P w base spare held n e [v0] with
       |none=>simp[h0] at h
       |some y0=>
         cases h1:DataW.trod enc P w base spare held n e [v1] with
         |none=>simp[h0,h1] at h
         |some y1=>
           simp[h0,h1] at h
           exact⟨v0,v1,y0,y1,n,rfl,h.symm,h0,h1⟩
   · rw[if_neg hl] at h;cases h
theorem oJ{P:Program}{t e:TypeId}(ht:P.underlying t=some (.array 2 e))(he:P.underlying e=some (.int .i64))(hce:P.cellsOf e=1)(hct:P.cellsOf t=2):qh (Int×Int) P t:=by
 intro H enc w fuel cs x h
 obtain⟨v0,v1,y0,y1,n,rfl,_,h0,h1⟩:=jU ht hce hct h
 obtain⟨a,ha⟩:=mA he enc w n [v0] y0 h0
 obtain⟨b,hb⟩:=mA he enc w n [v1] y1 h1
 exact⟨(a,b),[v0],[v1],rfl,ha,hb⟩
theorem mZ{α:Type}[Rp α][Inhabited α]{P:Program}{t e:TypeId}(ht:P.underlying t=some (.slice e))(hc:P.cellsOf e=Rp.sz α)(hz:0<Rp.sz α)(he:qh α P e)
    {H:Type}{enc:TypeId×Value->H}{w:World}{f:DataW H->Nat}(hf:fN f){fuel:Nat}{v:Value}{x:DataW H×List MemPlace}
    (hs:∀a len cap,v= .slice (some a) len cap->a.spot=none)(h:DataW.trod enc P w 0 (λ_=>true) true fuel t [v]=some x)(hb:f x.1<=1048576):∃xs:List α,Ro w v xs:=by
  rcases Deep.open_slice ht h with⟨h0,_⟩|⟨a,len,cap,m,n,D,Pl,h0,_,hlc,_,hm,rfl,hx⟩
  · obtain rfl:v= .slice none 0 0:=by simpa using h0
    exact⟨[],.inl ⟨⟨_,rfl⟩,rfl⟩⟩
  · obtain rfl:v= .slice (some a) len cap:=by simpa using h0
    have hsp:=hs a len cap rfl
    obtain⟨b,off,spot⟩:=a
    obtain rfl:spot=none:=hsp
    simp only[if_true] at hm
    subst hm
    obtain⟨Y,hY⟩:=Deep.choose_lt (α:=α) (n:=len) (p:=λi y=>∃cs,(∀j,j<Rp.sz α->w.cell? ⟨b,off+i*Rp.sz α+j,none⟩=cs[j]?)/\Rp.rep c0 any w cs y) (λi hi=>by
      obtain⟨cs',h1,h2⟩:=hx i (by omega)
      obtain⟨y,hy⟩:=he enc w n cs' _ h2
      refine⟨y,cs',λj hj=>?_,hy⟩
      obtain⟨_,hl,hcell⟩:=World.cells?_some h1
      have:=hcell j (by omega)
      rw[Deep.add_add,hc] at this
      rw[<-this]
      unfold Addr.add
      by_cases hij:i*Rp.sz α+j=0
      · rw[if_pos hij,Nat.add_assoc,hij];rfl
      · rw[if_neg hij,Nat.add_assoc])
    have hlen:((List.range len).map Y).length=len:=by simp
    have hbound:=Nat.le_trans (hf.slice _ _) hb
    refine⟨(List.range len).map Y,.inr ⟨b,off,m,by rw[hlen],⟨by omega,by simp at hbound;omega⟩,λi y hi=>?_⟩⟩
    have hil:i<len:=by
      have:=(List.getElem?_eq_some_iff.1 hi).1
      omega
    obtain rfl:Y i=y:=by simpa[hil] using hi
    obtain⟨cs,h1,h2⟩:=hY i hil
    refine⟨?_,trivial,cs,h1,h2⟩
    have h3:=h1 0 hz
    have h4:=Rp.len h2
    have h5:0<cs.length:=by omega
    rw[List.getElem?_eq_getElem h5] at h3
    by_cases hbl:b<w.heap.size
    · exact hbl
    · have:w.heap[b]? =none:=Array.getElem?_eq_none (by omega)
      simp[World.cell?,this] at h3
theorem eI{P:Program}{w:World}{base:Nat}{t e:TypeId}{v:Value}(ht:P.underlying t=some (.slice e))(h:Cell.okWide P w .any base t v):∀a len cap,v= .slice (some a) len cap->a.spot=none:=by
 rintro a len cap rfl
 simp only[Cell.okWide,Cell.ok,ht] at h
 exact h.2.2.2.1
theorem qq{α:Type}[Rp α][Inhabited α]{P:Program}{t t0 t1 e:TypeId}{f0 f1:Field}(hs:P.underlying t=some (.struct #[f0,f1]))(hone:oneCellFields P #[f0,f1]=true)(hC:P.cellsOf t=2)(hts:P.cellTypes P.depth t=some [t0,t1])
    (h0:f0.type=t0)(h1:f1.type=t1)(hi:P.underlying t0=some (.int .i64))(ht:P.underlying t1=some (.slice e))(hc:P.cellsOf e=Rp.sz α)(hz:0<Rp.sz α)(he:qh α P e)
    {H:Type}{enc:TypeId×Value->H}{w:World}{f:DataW H->Nat}(hf:fN f){base:Nat}{v:Value}{d:DataW H}{p:List MemPlace}
    (hval:Value.okWide P w .any base t v)(h:DataW.Trod enc P w 0 (λ_=>true) true t v d p)(hb:f d<=1048576):∃(n:Int) (u:Value) (xs:List α),v= .agg #[.int .i64 n,u]/\Ro w u xs:=by
  obtain⟨v0,v1,y0,y1,n,rfl,rfl,rfl,r0,r1⟩:=open_agg2 hs hone hC hval h
  subst h0 h1
  obtain⟨k,hk,_,_⟩:=DataW.trod_int hi r0
  obtain rfl:v0= .int .i64 k:=by simpa using hk
  have hcell:Cell.okWide P w .any base f1.type v1:=by
    simp only[Value.okWide,hs] at hval
    obtain⟨cs,hcs,_,ts,h3,_,h4⟩:=hval
    rw[hts] at h3
    obtain rfl:=Option.some.inj h3
    obtain rfl: #[Value.int .i64 k,v1]=cs:=by simpa using hcs
    obtain⟨u,hu,hk⟩:=h4 1 v1 rfl
    simp at hu
    subst hu
    exact hk
  obtain⟨xs,hx⟩:=mZ ht hc hz he hf (eI ht hcell) (x:=y1) r1 (Nat.le_trans (hf.part _ _ (by simp)) hb)
  exact⟨k,v1,xs,rfl,hx⟩
end TL
/-
  TlPost: what is owed behind a law that returns true and writes nothing of the caller's.
  By an AI agent.
-/
namespace TL
open Go Go.Proofs Go.ChangeShapes Go.WideShapes Go.RowKit
def mE(P:Program)(ts:List TypeId):Bool:=ts.all λt=>P.readableRec t&&decide (t<P.types.size)
theorem j7{H:Type}{enc:TypeId×Value->H}{P:Program}(hl:laidOutB P=true){W W':World}(hb:Below W.heap.size W W')(sp:Nat->Bool):
   ∀{ts:List TypeId} {vs:List Value} {ds:List (DataW H)} {ps:List MemPlace},mE P ts=true->DataW.TrodAll enc P W 0 (λ_=>true) true ts vs ds ps->(∀p∈ps,p.block<W.heap.size)->(∀p∈ps,sp p.block=true)->DataW.TrodAll enc P W' 0 sp true ts vs ds ps
 |[],[],[],_,_,h,_,_=>h
 |[],[],_::_,_,_,h,_,_=>h.elim
 |[],_::_,_,_,_,h,_,_=>by cases‹List (DataW H)›<;>exact h.elim
 |_::_,[],_,_,_,h,_,_=>by cases‹List (DataW H)›<;>exact h.elim
 |_::_,_::_,[],_,_,h,_,_=>h.elim
 |t::ts,v::vs,d::ds,ps,hr,h,hlt,hsp=>by
   obtain⟨p,q,h1,h2,rfl⟩:=h
   simp only[mE,List.all_cons,Bool.and_eq_true,decide_eq_true_eq] at hr
   exact⟨p,q,WideElems.Trod_stays hl hr.1.1 hr.1.2 h1 (λx hx=>hb.same (hlt x (by simp[hx]))) (λx hx=>hsp x (by simp[hx])),
     j7 hl hb sp hr.2 h2 (λx hx=>hlt x (by simp[hx])) (λx hx=>hsp x (by simp[hx])),rfl⟩
theorem nA{H:Type}{enc:TypeId×Value->H}{P:Program}{f:Func}{s:ChangeSpec}{W W':World}{args:Array Value}{ds gs:List (DataW H)}{before:List MemPlace}{tb:TypeId}
   (hl:laidOutB P=true)(hr:mE P f.params.toList=true)(hv:s.vars=[])(hrt:f.resultTypes= #[tb])(htb:P.underlying tb=some .bool)
   (hW:DataW.Whole enc P f.params.toList s.vars false W args.toList ds gs before)(hfn:s.fn H (ds++gs)={results:=[.lit (.bool true)],args:=ds})(hB:Below W.heap.size W W'):
   s.post enc P f false true false false W args (.bool true) W':=by
 have hlt:=hW.lt
 have hW0:=hW
 obtain⟨p,q,hA,hV,rfl,hfz,_⟩:=hW
 rw[hv] at hV
 obtain⟨rfl,rfl⟩:=trodVars_none hV
 simp only[List.append_nil] at hlt hfz hW0 hfn
 have hres:∀(b:Nat) (sp:Nat->Bool) (hd:Bool),DataW.TrodAll enc P W' b sp hd f.resultTypes.toList ((Value.bool true).resultList f.resultTypes.size) (s.fn H (ds++[])).results []:=λb sp hd=>by
   rw[hrt,List.append_nil,hfn]
   exact trodAll_cons_mk (shut_bool htb true) trodAll_mk0
 have hargs:∀sp:Nat->Bool,(∀x∈p,sp x.block=true)->DataW.TrodAll enc P W' 0 sp true f.params.toList args.toList (s.fn H (ds++[])).args p:=λsp hsp=>by
   rw[List.append_nil,hfn]
   exact j7 hl hB sp hr hA hlt hsp
 have hvars:∀sp:Nat->Bool,DataW.TrodVars enc P W' sp s.vars (s.fn H (ds++[])).vars []:=λsp=>by
   rw[List.append_nil,hfn,hv]
   rfl
 refine⟨ds,[],p,[],p,[],hW0,hres _ _ _,hargs _ (λx hx=>by simpa using hlt x hx),hvars _,World.keptBut_mono (λx hx=>⟨hx,Or.inr (by simpa using hx)⟩) (hB.frame _),λ_=>?_⟩
 refine⟨?_,_,_,([]++p)++[],⟨[]++p,[],trodAll_append (hargs _ (λ_ _=>rfl)) (hres _ _ _),hvars _,rfl,?_,?_⟩,?_⟩
 · exact ok_one hrt rfl (okWide_bool_mk htb true)
 · intro b off hp
   have hp':MemPlace.cell b off∈p:=by simpa using hp
   rw[hB.frozen (p:=⟨b,off,none⟩) (hlt _ hp')]
   exact hfz b off hp'
 · intro ha;cases ha
 · intro x hx _
   simpa using hx
end TL
/-
  TlOpenL: arguments that are plots: a list of points, and a list of lists of points; whole numbers in their range.
  By an AI agent.
-/
set_option linter.all false
namespace TL
open Go Go.Proofs Go.ChangeShapes Go.WideShapes Go.Joins Go.Deep
def mV(α:Type)[Rp α](Q:α->Prop)(P:Program)(t:TypeId):Prop:=
  ∀{H:Type} (enc:TypeId×Value->H) (w:World) (fuel:Nat) (cs:List Value) (x:DataW H×List MemPlace),DataW.trod enc P w 0 (λ_=>true) true fuel t cs=some x->∃y:α,Rp.rep c0 any w cs y/\Q y
def tm(n:Int):Prop:= -9223372036854775808<=n/\n<=9223372036854775807
theorem lI{P:Program}{t:TypeId}(ht:P.underlying t=some (.int .i64)):mV Int tm P t:=by
 intro H enc w fuel cs x h
 obtain⟨n,rfl,_,hw⟩:=DataW.trod_int ht h
 refine⟨n,rfl,?_⟩
 simp only[Lit.wf,Bool.and_eq_true,decide_eq_true_eq] at hw
 have e1:IntKind.i64.min= -9223372036854775808:=by decide
 have e2:IntKind.i64.max=9223372036854775807:=by decide
 unfold tm
 omega
theorem rh{P:Program}{t e:TypeId}{f0 f1:Field}(hs:P.underlying t=some (.struct #[f0,f1]))(hone:oneCellFields P #[f0,f1]=true)(hC:P.cellsOf t=2)(h0:f0.type=e)(h1:f1.type=e)(he:P.underlying e=some (.int .i64)):mV (Int×Int) pB P t:=by
 intro H enc w fuel cs x h
 obtain⟨y0,y1,n,_,hl,k0,k1⟩:=trod_struct2 hs h
 obtain⟨o0,c0⟩:=hone_of hone 0 f0 rfl
 obtain⟨o1,c1⟩:=hone_of hone 1 f1 rfl
 rw[hC] at hl
 match cs,hl with
 |[v0,v1],_=>
   have k0':DataW.trod enc P w 0 (λ_=>true) true n f0.type [v0]=some y0:=by simpa[o0,c0] using k0
   have k1':DataW.trod enc P w 0 (λ_=>true) true n f1.type [v1]=some y1:=by simpa[o1,c1] using k1
   rw[h0] at k0'
   rw[h1] at k1'
   obtain⟨a,ha,qa⟩:=lI he enc w n [v0] y0 k0'
   obtain⟨b,hb,qb⟩:=lI he enc w n [v1] y1 k1'
   exact⟨(a,b),⟨[v0],[v1],rfl,ha,hb⟩,qa,qb⟩
theorem j2{α:Type}[Rp α][Inhabited α]{Q:α->Prop}{P:Program}{t e:TypeId}(ht:P.underlying t=some (.slice e))(hc:P.cellsOf e=Rp.sz α)(hz:0<Rp.sz α)(he:mV α Q P e)
   {H:Type}{enc:TypeId×Value->H}{w:World}{f:DataW H->Nat}(hf:fN f){fuel:Nat}{v:Value}{x:DataW H×List MemPlace}
   (hs:∀a len cap,v= .slice (some a) len cap->a.spot=none)(h:DataW.trod enc P w 0 (λ_=>true) true fuel t [v]=some x)(hb:f x.1<=1048576):∃xs:List α,Ro w v xs/\(∀y∈xs,Q y)/\xs.length<=1048576:=by
 rcases Deep.open_slice ht h with⟨h0,_⟩|⟨a,len,cap,m,n,D,Pl,h0,_,hlc,_,hm,rfl,hx⟩
 · obtain rfl:v= .slice none 0 0:=by simpa using h0
   exact⟨[],.inl ⟨⟨_,rfl⟩,rfl⟩,λy hy=>(by cases hy),by simp⟩
 · obtain rfl:v= .slice (some a) len cap:=by simpa using h0
   have hsp:=hs a len cap rfl
   obtain⟨b,off,spot⟩:=a
   obtain rfl:spot=none:=hsp
   simp only[if_true] at hm
   subst hm
   obtain⟨Y,hY⟩:=Deep.choose_lt (α:=α) (n:=len) (p:=λi y=>(∃cs,(∀j,j<Rp.sz α->w.cell? ⟨b,off+i*Rp.sz α+j,none⟩=cs[j]?)/\Rp.rep c0 any w cs y)/\Q y) (λi hi=>by
     obtain⟨cs',h1,h2⟩:=hx i (by omega)
     obtain⟨y,hy,hq⟩:=he enc w n cs' _ h2
     refine⟨y,⟨cs',λj hj=>?_,hy⟩,hq⟩
     obtain⟨_,hl,hcell⟩:=World.cells?_some h1
     have:=hcell j (by omega)
     rw[Deep.add_add,hc] at this
     rw[<-this]
     unfold Addr.add
     by_cases hij:i*Rp.sz α+j=0
     · rw[if_pos hij,Nat.add_assoc,hij];rfl
     · rw[if_neg hij,Nat.add_assoc])
   have hlen:((List.range len).map Y).length=len:=by simp
   have hbound:=Nat.le_trans (hf.slice _ _) hb
   have hll:len<=1048576:=by simp at hbound;omega
   refine⟨(List.range len).map Y,.inr ⟨b,off,m,by rw[hlen],⟨by omega,by omega⟩,λi y hi=>?_⟩,λy hy=>?_,by omega⟩
   · have hil:i<len:=by
       have:=(List.getElem?_eq_some_iff.1 hi).1
       omega
     obtain rfl:Y i=y:=by simpa[hil] using hi
     obtain⟨⟨cs,h1,h2⟩,_⟩:=hY i hil
     refine⟨?_,trivial,cs,h1,h2⟩
     have h3:=h1 0 hz
     have h4:=Rp.len h2
     have h5:0<cs.length:=by omega
     rw[List.getElem?_eq_getElem h5] at h3
     by_cases hbl:b<w.heap.size
     · exact hbl
     · have:w.heap[b]? =none:=Array.getElem?_eq_none (by omega)
       simp[World.cell?,this] at h3
   · obtain⟨i,hi,rfl⟩:=List.mem_map.1 hy
     exact(hY i (List.mem_range.1 hi)).2
theorem mU{α:Type}[Rp α][Inhabited α]{Q:α->Prop}{P:Program}{e q:TypeId}(he:P.underlying e=some (.slice q))(hc:P.cellsOf q=Rp.sz α)(hz:0<Rp.sz α)(hq:mV α Q P q)
    {H:Type}{enc:TypeId×Value->H}{w:World}{f:DataW H->Nat}(hf:fN f){fuel:Nat}{u:Value}{x:DataW H×List MemPlace}
    (h:DataW.trod enc P w 0 (λ_=>true) true fuel e [u]=some x)(hb:f x.1<=1048576):∃xs:List α,Ro w u xs/\(∀y∈xs,Q y)/\xs.length<=1048576:=by
  have h':=h
  rcases Deep.open_slice he h with⟨h0,_⟩|⟨a,len,cap,m,n,D,Pl,h0,_,hlc,_,hm,rfl,hx⟩
  · obtain rfl:u= .slice none 0 0:=by simpa using h0
    exact⟨[],.inl ⟨⟨_,rfl⟩,rfl⟩,λy hy=>(by cases hy),by simp⟩
  · obtain rfl:u= .slice (some a) len cap:=by simpa using h0
    simp only[if_true] at hm
    subst hm
    by_cases hc0:m=0
    · have hl:len=0:=by omega
      subst hl hc0
      exact⟨[],.inl ⟨⟨_,rfl⟩,rfl⟩,λy hy=>(by cases hy),by simp⟩
    · obtain⟨cs',h1,h2⟩:=hx 0 (by omega)
      obtain⟨_,hl,hcell⟩:=World.cells?_some h1
      have h3:=hcell 0 (by omega)
      have h4:0<cs'.length:=by omega
      rw[List.getElem?_eq_getElem h4] at h3
      have hs:a.spot=none:=by
        have:=World.cell?_spot h3
        simpa[Addr.add] using this
      exact j2 he hc hz hq hf (by rintro a' len' cap' e';cases e';exact hs) h' hb
theorem mT{α:Type}[Rp α][Inhabited α]{Q:α->Prop}{P:Program}{t e q:TypeId}(ht:P.underlying t=some (.slice e))(he:P.underlying e=some (.slice q))(hce:P.cellsOf e=1)(hc:P.cellsOf q=Rp.sz α)(hz:0<Rp.sz α)(hq:mV α Q P q)
    {H:Type}{enc:TypeId×Value->H}{w:World}{f:DataW H->Nat}(hf:fN f){fuel:Nat}{v:Value}{x:DataW H×List MemPlace}
    (hs:∀a len cap,v= .slice (some a) len cap->a.spot=none)(h:DataW.trod enc P w 0 (λ_=>true) true fuel t [v]=some x)(hb:f x.1<=1048576):∃xss:List (List α),Ro w v xss/\(∀l∈xss,(∀y∈l,Q y)/\l.length<=1048576)/\xss.length<=1048576:=by
  rcases Deep.open_slice ht h with⟨h0,_⟩|⟨a',len,cap,m,n,D,Pl,h0,_,hlc,_,hm,hd,hx⟩
  · obtain rfl:v= .slice none 0 0:=by simpa using h0
    exact⟨[],.inl ⟨⟨_,rfl⟩,rfl⟩,λl hl=>(by cases hl),by simp⟩
  · obtain rfl:v= .slice (some a') len cap:=by simpa using h0
    have hsp:=hs a' len cap rfl
    obtain⟨b,off,spot⟩:=a'
    obtain rfl:spot=none:=hsp
    simp only[if_true] at hm
    subst hm hd
    have hbound:=Nat.le_trans (hf.slice _ _) hb
    obtain⟨Y,hY⟩:=Deep.choose_lt (α:=List α) (n:=len) (p:=λi y=>(∃cs,(∀j,j<Rp.sz (List α)->w.cell? ⟨b,off+i*Rp.sz (List α)+j,none⟩=cs[j]?)/\Rp.rep c0 any w cs y)/\(∀z∈y,Q z)/\y.length<=1048576) (λi hi=>by
      obtain⟨cs',h1,h2⟩:=hx i (by omega)
      obtain⟨_,hl,hcell⟩:=World.cells?_some h1
      rw[hce] at hl
      obtain⟨u,rfl⟩:∃u,cs'=[u]:=by
        match cs',hl with
        |[u],_=>exact⟨u,rfl⟩
      obtain⟨y,hy,hyl⟩:=mU he hc hz hq hf h2 (Nat.le_trans (hf.elem _ _ _ (by simp;exact⟨i,hi,rfl⟩)) hb)
      refine⟨y,⟨[u],λj hj=>?_,u,rfl,hy⟩,hyl⟩
      have hj0:j<1:=hj
      have:=hcell j (by rw[hce];exact hj0)
      rw[Deep.add_add,hce] at this
      rw[<-this]
      show w.cell? ⟨b,off+i*1+j,none⟩=_
      unfold Addr.add
      by_cases hij:i*1+j=0
      · rw[if_pos hij,Nat.add_assoc,hij];rfl
      · rw[if_neg hij,Nat.add_assoc])
    have hlen:((List.range len).map Y).length=len:=by simp
    have hll:len<=1048576:=by simp at hbound;omega
    refine⟨(List.range len).map Y,.inr ⟨b,off,m,by rw[hlen],⟨by omega,by omega⟩,λi y hi=>?_⟩,λl hl=>?_,by omega⟩
    · have hil:i<len:=by
        have:=(List.getElem?_eq_some_iff.1 hi).1
        omega
      obtain rfl:Y i=y:=by simpa[hil] using hi
      obtain⟨⟨cs,h1,h2⟩,_⟩:=hY i hil
      refine⟨?_,trivial,cs,h1,h2⟩
      have h3:=h1 0 Nat.zero_lt_one
      have h4:=Rp.len h2
      have h5:0<cs.length:=by rw[h4];exact Nat.zero_lt_one
      rw[List.getElem?_eq_getElem h5] at h3
      by_cases hbl:b<w.heap.size
      · exact hbl
      · have:w.heap[b]? =none:=Array.getElem?_eq_none (by omega)
        simp[World.cell?,this] at h3
    · obtain⟨i,hi,rfl⟩:=List.mem_map.1 hl
      exact(hY i (List.mem_range.1 hi)).2
theorem o8{P:Program}{t t0 t1 e q:TypeId}{f0 f1:Field}(hs:P.underlying t=some (.struct #[f0,f1]))(hone:oneCellFields P #[f0,f1]=true)(hC:P.cellsOf t=2)(hts:P.cellTypes P.depth t=some [t0,t1])
    (h0:f0.type=t0)(h1:f1.type=t1)(ht0:P.underlying t0=some (.slice q))(ht1:P.underlying t1=some (.slice e))(he:P.underlying e=some (.slice q))(hce:P.cellsOf e=1)(hcq:P.cellsOf q=2)(hq:mV (Int×Int) pB P q)
    {H:Type}{enc:TypeId×Value->H}{w:World}{f:DataW H->Nat}(hf:fN f){base:Nat}{v:Value}{d:DataW H}{p:List MemPlace}
    (hval:Value.okWide P w .any base t v)(h:DataW.Trod enc P w 0 (λ_=>true) true t v d p)(hb:f d<=1048576):∃(u0 u1:Value) (xs:List (Int×Int)) (xss:List (List (Int×Int))),v= .agg #[u0,u1]/\Ro w u0 xs/\Ro w u1 xss/\rx (xs,xss):=by
  obtain⟨v0,v1,y0,y1,n,rfl,rfl,rfl,r0,r1⟩:=open_agg2 hs hone hC hval h
  subst h0 h1
  simp only[Value.okWide,hs] at hval
  obtain⟨cs,hcs,_,ts,h3,_,h4⟩:=hval
  rw[hts] at h3
  obtain rfl:=Option.some.inj h3
  obtain rfl: #[v0,v1]=cs:=by simpa using hcs
  obtain⟨t0',hu0,hk0⟩:=h4 0 v0 rfl
  obtain⟨t1',hu1,hk1⟩:=h4 1 v1 rfl
  simp at hu0 hu1
  subst hu0 hu1
  obtain⟨xs,hx,hxq,hxl⟩:=j2 (α:=Int×Int) ht0 (by rw[hcq];rfl) (by decide) hq hf (eI ht0 hk0) (x:=y0) r0 (Nat.le_trans (hf.part _ _ (by simp)) hb)
  obtain⟨xss,hy,hyq,hyl⟩:=mT (α:=Int×Int) ht1 he hce (by rw[hcq];rfl) (by decide) hq hf (eI ht1 hk1) (x:=y1) r1 (Nat.le_trans (hf.part _ _ (by simp)) hb)
  exact⟨v0,v1,xs,xss,rfl,hx,hy,⟨by show(xs.length:Int)<=_;omega,by show(xss.length:Int)<=_;omega,λl hl=>(hyq l hl).2⟩,hxq,λl hl=>(hyq l hl).1⟩
end TL
