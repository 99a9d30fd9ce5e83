import Derived.Test.YtfpckpgnnplhnaaGreatSwTlGenA
import Derived.Test.YtfpckpgnnplhnaaGreatSwTlAli
set_option linter.all false
set_option maxRecDepth 20000
namespace TL
open Go Go.Proofs
theorem oH:Tryz.prog.follows .mixedOrders=true:=by kernel_rfl
theorem jC:Tryz.f20.body.isNone=false:=rfl
theorem jr:(Tryz.f20.name== "runtime.NumGoroutine")=false:=by decide+kernel
theorem gc:Tryz.f21.body.isNone=false:=rfl
theorem gg:(Tryz.f21.name== "runtime.NumGoroutine")=false:=by decide+kernel
theorem Am:Tryz.f22.body.isNone=false:=rfl
theorem yQ:(Tryz.f22.name== "runtime.NumGoroutine")=false:=by decide+kernel
theorem qA:Tryz.f23.body.isNone=false:=rfl
theorem r8:(Tryz.f23.name== "runtime.NumGoroutine")=false:=by decide+kernel
theorem eV:Tryz.f25.body.isNone=false:=rfl
theorem eW:(Tryz.f25.name== "runtime.NumGoroutine")=false:=by decide+kernel
theorem xJ:Tryz.f27.body.isNone=false:=rfl
theorem AN:(Tryz.f27.name== "runtime.NumGoroutine")=false:=by decide+kernel
theorem gk(w0:World)(least:Int)(numbers:List Int)(numbers_v:Value)(hnumbers_v:Ro w0 numbers_v numbers)(n:Int)(m:Int)(hk:∀k∈numbers,least<=k/\k<=100)(hn:n<=1000)(hm:m<=1000):
    Calls Tryz.prog 21 #[vi least,numbers_v,vi n,vi m] w0 (λee w=>ee= .returned (vi 0)/\eK w0.heap.size w0 w):=by
 refine ah Tryz.func21 rfl nq ?_
 have bH:=aW.start w0
 have Rnumbers:=hnumbers_v.sl
 refine a7 (a6 rfl (ai 0 (ab (a7 (a7 (a6 rfl (mv numbers_v ?_)))))))
 have len1:=(Rnumbers).small
 refine lx (bG bF rfl Rnumbers) (mi 0 (ab (aj ?_)))
 refine aR (σ:=Nat×ax) (λ⟨k,gq⟩ f w=>aW w0 gq w/\f 0=vi least/\f 1=numbers_v/\f 2=vi n/\f 3=vi m/\f 13=numbers_v/\f 14=vi (numbers.length:Int)/\f 15=vi ↑k/\Sl gq (is 0) w numbers_v numbers/\(k:Int)<=((numbers.length:Int):Int)/\True) (λ⟨k,gq⟩=>Int.toNat (((numbers.length:Int):Int)-(k:Int))) (0,c0) ?_ ?_
 · exact⟨bH,rfl,rfl,rfl,rfl,rfl,rfl,rfl,Rnumbers,by omega,trivial⟩
 rintro⟨k,g4⟩ f2 w3 ⟨bH,zs0,zs1,zs2,zs3,zs13,zs14,zs15,Rnumbers,hle_k,hinv2⟩ back2
 refine a7 (a6 rfl (lx (br (m:=↑k) (n:=(numbers.length:Int)) zs15 zs14) (ab (a7 ?_))))
 by_cases p2:(k:Int)<(numbers.length:Int)
 ·
  refine ag rfl (dt p2) ?_
  have hkk:=hk _ (bz (xs:=numbers) (i:=↑k) (by omega) ‹_›)
  refine am (a7 (aj (a7 (a6 rfl (lx (ad (v:=numbers_v) (i:=↑k) bF rfl zs13 Rnumbers zs15 (by omega) (by omega)) (lx (aw (v:=numbers_v) (i:=↑k) aD rfl Rnumbers (by omega) (by omega) (by decide) rfl) (ai (gI numbers ↑k) (ab (a7 (a6 rfl (mi (gI numbers ↑k) (mz zs0 ?_))))))))))))
  refine lx (br (m:=(gI numbers ↑k)) (n:=least) rfl rfl) (ab ?_)
  have p4:¬((gI numbers ↑k)<least):=by omega
  refine af rfl (df p4) (am (ak (a6 rfl (lx (aJ (m:=↑k) (n:=1) zs15 rfl (by omega)) (mi ((k:Int)+1) (ab ?_))))))
  refine back2 (k+1,g4) _ _ ⟨bH,zs0,zs1,zs2,zs3,zs13,zs14,rfl,Rnumbers,by omega,?_⟩ ?_
  · trivial
  · show Int.toNat (_-_)<Int.toNat (_-_)
    omega
 refine af rfl (df p2) (aF rfl (a7 (a7 (a6 rfl (mz zs1 (lx (bG bF rfl Rnumbers) (mi 0 (ab (aj ?_)))))))))
 refine aR (σ:=Nat×ax) (λ⟨j,gq⟩ f w=>aW w0 gq w/\f 2=vi n/\f 3=vi m/\f 23=numbers_v/\f 24=vi (numbers.length:Int)/\f 25=vi ↑j/\Sl gq (is 0) w numbers_v numbers/\(j:Int)<=((numbers.length:Int):Int)/\True) (λ⟨j,gq⟩=>Int.toNat (((numbers.length:Int):Int)-(j:Int))) (0,g4) ?_ ?_
 · exact⟨bH,zs2,zs3,rfl,rfl,rfl,Rnumbers,by omega,trivial⟩
 rintro⟨j,g7⟩ f5 w6 ⟨bH,zs2,zs3,zs23,zs24,zs25,Rnumbers,hle_j,hinv8⟩ back8
 refine a7 (a6 rfl (lx (br (m:=↑j) (n:=(numbers.length:Int)) zs25 zs24) (ab (a7 ?_))))
 by_cases p8:(j:Int)<(numbers.length:Int)
 ·
  refine ag rfl (dt p8) ?_
  have hkk:=hk _ (bz (xs:=numbers) (i:=↑j) (by omega) ‹_›)
  refine am (a7 (aj (a7 (a6 rfl (lx (ad (v:=numbers_v) (i:=↑j) bF rfl zs23 Rnumbers zs25 (by omega) (by omega)) (lx (aw (v:=numbers_v) (i:=↑j) aD rfl Rnumbers (by omega) (by omega) (by decide) rfl) (ai (gI numbers ↑j) (ab (a7 (a6 rfl (mi (gI numbers ↑j) (lx (eX (m:=(gI numbers ↑j)) (n:=3072) rfl rfl) ?_))))))))))))
  refine ab ?_
  have p10:¬(3072<(gI numbers ↑j)):=by omega
  refine af rfl (df p10) (am (ak (a6 rfl (lx (aJ (m:=↑j) (n:=1) zs25 rfl (by omega)) (mi ((j:Int)+1) (ab ?_))))))
  refine back8 (j+1,g7) _ _ ⟨bH,zs2,zs3,zs23,zs24,rfl,Rnumbers,by omega,?_⟩ ?_
  · trivial
  · show Int.toNat (_-_)<Int.toNat (_-_)
    omega
 refine af rfl (df p8) (aF rfl (a7 (a7 (a6 rfl (mz zs2 (lx (eX (m:=n) (n:=1024) rfl rfl) (mv (vb (decide (1024<n))) ?_)))))))
 have q34:¬(1024<n):=by omega
 refine lv (vi m) (wy (df q34)) (ar zs3) (lv (vb (decide (3072<m))) (wy (df q34)) (eX (m:=m) (n:=3072) rfl rfl) (lw (vb (decide (3072<m))) (bo rfl (df q34) rfl) (ab ?_)))
 have p13:¬(3072<m):=by omega
 refine af rfl (df p13) (am (a7 (a6 rfl (ai 0 (ab (az (vs:=[vi 0]) Tryz.func21 (.tmp rfl .nil) ?_))))))
 have e0:(0:Int)=(0):=by
   rfl
 exact⟨ri e0,bH.below⟩
set_option maxHeartbeats 4000000 in
theorem uA(w0:World)(n:Int)(hn:1<=n/\n<=20):
    Calls Tryz.prog 6 #[vi n] w0 (λee w=>∃xx:ax×Value,ee= .returned ((λ⟨δ,rv0⟩=>vt [vg [vi ((cL n).1),rv0],vi 0]) xx)/\(λ(⟨δ,rv0⟩:ax×Value) (w:World)=>dz w0 δ w/\Ow δ (is 1) (is 1) w rv0 ((cL n).2)) xx w):=by
 refine ah Tryz.func6 rfl nq ?_
 have bH:=aW.start w0
 obtain⟨hn1,hn2⟩:=hn
 refine a7 (a6 rfl (cy rfl (bU c0 (is 1) (1,0) rfl rfl ?_)))
 intro g4 w1 b3 ch2 bx5
 refine lo (aZ g4 (is 2) (2,0) rfl aK ?_)
 intro g9 w6 b8 ch7 bx10
 refine ai 0 (ab (a7 (bp g9 [0,2,3,6,8,9,11] oH ?_)))
 intro w12 ch11
 refine cU (σ:=ax) [5,4,1,6,3,2,0] 5 (λgq f w=>aW w0 gq w/\f 2=vp b8 0/\f 8=vi 0/\f 9=vi n/\f 10=Value.func (.func 22) #[] (List.toArray [vp b3 0])/\Bx gq (is 1) w b3 [vi n]/\Bx gq (is 2) w b8 [vi 0,vn]) ?_ ?_
 ·
  rintro g23 f21 w22 ⟨bH,zs2,zs8,zs9,zs10,bx5,bx10⟩
  refine cE 7 rfl (aV (aB (vals:=[vi 0,vi n,Value.func (.func 22) #[] (List.toArray [vp b3 0])]) Tryz.func20 jC jr (fI zs8 (fI zs9 (fI zs10 rfl)))) (ah Tryz.func20 rfl nq (a7 (a6 rfl (cy rfl (aZ g23 (is 4) (4,0) rfl aK ?_))))))
  intro g27 w24 b26 ch25 bx28
  refine ai 0 (ab (a7 (a7 (a6 rfl (mi 0 (lx (du (m:=0) (n:=0) rfl rfl) (ab (af rfl rfl (am (a7 (a6 rfl (mi n (lw (vg [vi n,vn]) (bn (vs:=[(0,vi n)]) rfl (by kernel_rfl)) ?_)))))))))))))
  refine lw (vg [vi n,vn]) (bn (vs:=[(0,vg [vi n,vn])]) rfl (by kernel_rfl)) (lo (bU g27 (is 5) (5,0) rfl rfl ?_))
  intro g32 w29 b31 ch30 bx33
  refine ma (vp b31 0) (ab (a7 (a6 rfl (mv (Value.func (.func 22) #[] (List.toArray [vp b3 0])) (mv (vp b31 0) (lo (aV (fW (fid:=22) (vals:=[vp b31 0]) (caps:=[vp b3 0]) rfl Tryz.func22 Am yQ rfl) (ah Tryz.func22 rfl nq (a6 rfl (mv (vp b31 0) ?_))))))))))
  refine lx (a8 aD rfl bx5.t rfl) (lo (aV (aB (vals:=[vp b31 0,vi 0,vi n]) Tryz.func23 qA r8 rfl) (ah Tryz.func23 rfl nq (a7 (a7 (a6 rfl (mi n (lx (da (m:=n) (n:=1) rfl rfl (by omega)) (mi 0 (ab (aj ?_)))))))))))
  refine aR (σ:=Value×(List Pt)×Nat×ax) (λ⟨E_v,E,k,gq⟩ f w=>aW w0 gq w/\f 0=vp b31 0/\f 1=vi 0/\f 2=vi n/\f 8=vi (n-1)/\f 9=vi ↑k/\Bx gq (is 1) w b3 [vi n]/\Bx gq (is 2) w b8 [vi 0,vn]/\Bx gq (is 4) w b26 [vi 0,vn]/\Bx gq (is 5) w b31 [vi n,E_v]/\Ow gq (is 7) (is 7) w E_v E/\(k:Int)<=(n-1:Int)/\(E=lU k)) (λ⟨E_v,E,k,gq⟩=>Int.toNat ((n-1:Int)-(k:Int))) (vn,[],0,g32) ?_ ?_
  · exact⟨bH.t,rfl,rfl,rfl,rfl,rfl,bx5.t,bx10.t,bx28.t,bx33,Ow.nil,by omega,by rfl⟩
  rintro⟨E_v,E,k,g36⟩ f34 w35 ⟨bH,zs0_c3,zs1_c3,zs2_c3,zs8_c3,zs9_c3,bx5,bx10,bx28,bx33,o_E,hle_k,hE⟩ back1_c3
  have hEl:E.length=k:=by rw[hE];exact nr
  refine a7 (a6 rfl (lx (br (m:=↑k) (n:=n-1) zs9_c3 zs8_c3) (ab (a7 ?_))))
  by_cases p1_c3:(k:Int)<(n-1)
  ·
   refine ag rfl (dt p1_c3) (am (a7 (aj (a7 (a6 rfl (mz zs9_c3 (ai (k:Int) (ab (a6 rfl (mz zs0_c3 (mz zs1_c3 ?_)))))))))))
   refine mi ↑k (lx (aJ (m:=0) (n:=↑k) rfl rfl (by omega)) (mz zs1_c3 (mi ↑k (lx (aJ (m:=0) (n:=↑k) rfl rfl (by omega)) (lx (aJ (m:=0+(k:Int)) (n:=1) rfl rfl (by omega)) (lo (aV (aB (vals:=[vp b31 0,vi (0+(k:Int)),vi ((0+(k:Int))+1)]) Tryz.func25 eV eW rfl) (ah Tryz.func25 rfl nq (a6 rfl ?_)))))))))
   refine mv (vp b31 0) (mv (vp b31 0) (lw (vp b31 0) (ae rfl) (lx (aa mA rfl rfl rfl rfl) (lx (aa dK rfl rfl rfl rfl) (lx (a8 bM rfl bx33 rfl) (mi (0+(k:Int)) (mi ((0+(k:Int))+1) (lw (vg [vi (0+(k:Int)),vi ((0+(k:Int))+1)]) (bn (vs:=[(0,vi (0+(k:Int))),(1,vi ((0+(k:Int))+1))]) rfl (by kernel_rfl)) (lo ?_)))))))))
   refine aq (α:=Pt) g36 (is 6) (is 6) (6,0) rfl ([(0+(k:Int),(0+(k:Int))+1)]:List Pt) eG bm (by decide) (by decide) (vs:=[(0,vg [vi (0+(k:Int)),vi ((0+(k:Int))+1)])]) rfl rfl (.cons rfl .nil) ?_
   intro g37 w38 v39 ch40 o41
   refine lo ?_
   refine aS (α:=Pt) (xs:=E) (ys:=([(0+(k:Int),(0+(k:Int))+1)]:List Pt)) g37 (J:=is 7) (S:=is 7) (7,0) rfl eG bm (by decide) rfl rfl rfl o_E.t o41.flat (by decide) (by(simp;omega)) ?_
   intro g42 w43 v44 ch45 o46
   refine lw (vp b31 0) (ae rfl) (lx (aa mA rfl rfl rfl rfl) (lx (aa dK rfl rfl rfl rfl) (lo ?_)))
   refine aC (cs':=[vi n,v44]) bM rfl rfl bx33.t (aL o46.flat) nq (aM o46.flat) rfl ?_
   intro w47 ch48 bx49
   refine ab (ck (vs:=[]) Tryz.func25 .nil ?_)
   refine⟨vt [],rfl,?_⟩
   refine ab (ak ?_)
   refine a6 rfl (lx (aJ (m:=↑k) (n:=1) zs9_c3 rfl (by omega)) (mi ((k:Int)+1) (ab ?_)))
   refine back1_c3 (v44,(E++([(0+(k:Int),(0+(k:Int))+1)]:List Pt)),k+1,g42) _ _ ⟨bH.t,zs0_c3,zs1_c3,zs2_c3,zs8_c3,rfl,bx5.t,bx10.t,bx28.t,bx49,o46.t,by omega,?_⟩ ?_
   · show(E++([(0+(k:Int),(0+(k:Int))+1)]:List Pt))=lU (k+1)
     (simp only[Int.zero_add];exact oX hE)
   · show Int.toNat (_-_)<Int.toNat (_-_)
     omega
  refine af rfl (df p1_c3) (aF rfl (a6 rfl (mz zs0_c3 (mz zs1_c3 (mz zs2_c3 (lx (aJ (m:=0) (n:=n) rfl rfl (by omega)) (lx (da (m:=0+n) (n:=1) rfl rfl (by omega)) (mz zs1_c3 (lo ?_)))))))))
  refine aV (aB (vals:=[vp b31 0,vi ((0+n)-1),vi 0]) Tryz.func25 eV eW rfl) (ah Tryz.func25 rfl nq (a6 rfl (mv (vp b31 0) (mv (vp b31 0) (lw (vp b31 0) (ae rfl) (lx (aa mA rfl rfl rfl rfl) (lx (aa dK rfl rfl rfl rfl) (lx (a8 bM rfl bx33.t rfl) (mi ((0+n)-1) ?_)))))))))
  refine mi 0 (lw (vg [vi ((0+n)-1),vi 0]) (bn (vs:=[(0,vi ((0+n)-1)),(1,vi 0)]) rfl (by kernel_rfl)) (lo (aq (α:=Pt) g36 (is 8) (is 8) (8,0) rfl ([((0+n)-1,0)]:List Pt) eG bm (by decide) (by decide) (vs:=[(0,vg [vi ((0+n)-1),vi 0])]) rfl rfl (.cons rfl .nil) ?_)))
  intro g51 w52 v53 ch54 o55
  refine lo ?_
  refine aS (α:=Pt) (xs:=E) (ys:=([((0+n)-1,0)]:List Pt)) g51 (J:=is 7) (S:=is 7) (7,0) rfl eG bm (by decide) rfl rfl rfl o_E.t o55.flat (by decide) (by(simp;omega)) ?_
  intro g56 w57 v58 ch59 o60
  refine lw (vp b31 0) (ae rfl) (lx (aa mA rfl rfl rfl rfl) (lx (aa dK rfl rfl rfl rfl) (lo ?_)))
  refine aC (cs':=[vi n,v58]) bM rfl rfl bx33.t (aL o60.flat) nq (aM o60.flat) rfl ?_
  intro w61 ch62 bx63
  refine ab (ck (vs:=[]) Tryz.func25 .nil ?_)
  refine⟨vt [],rfl,?_⟩
  refine ab (ck (vs:=[]) Tryz.func23 .nil ?_)
  refine⟨vt [],rfl,?_⟩
  refine ab (ck (vs:=[]) Tryz.func22 .nil ?_)
  refine⟨vt [],rfl,?_⟩
  refine ab (a7 ?_)
  refine a6 rfl (mv (vp b31 0) (lw (vp b31 0) (ae rfl) (lx (aa mA rfl rfl rfl rfl) (lx (av (ds:=[vi n,v58]) aK rfl bx63 rfl rfl) (lo ?_)))))
  refine aA (cs':=[vi n,v58]) aK rfl rfl bx28.t rfl nq (AllOne.all (.cons rfl (.cons (aM o60.t.flat) .nil))) rfl ?_
  intro w64 ch65 bx66
  refine ai 0 (ab (az (vs:=[vg [vi n,v58],vi 0]) Tryz.func20 (.cell rfl (cd (ds:=[vi n,v58]) aK bx66 rfl rfl) (.tmp rfl .nil)) ?_))
  refine⟨vt [vg [vi n,v58],vi 0],rfl,?_⟩
  refine xp 8 rfl (λw=>ay rfl rfl) (xp 9 rfl (λw=>ay rfl rfl) (cE 10 rfl ?_))
  refine aA (cs':=[vi n,v58]) aK zs2 rfl bx10.t rfl nq (AllOne.all (.cons rfl (.cons (aM o60.t.flat) .nil))) rfl ?_
  intro w68 ch69 bx70
  refine xp (v:=vi 0) 11 rfl (λw=>bK rfl) (bV (by kernel_rfl) (az (vs:=[vg [vi n,v58],vi 0]) Tryz.func6 (.cell zs2 (cd (ds:=[vi n,v58]) aK bx70 rfl rfl) (.tmp rfl .nil)) ?_))
  have e0:((n,(E++([((0+n)-1,0)]:List Pt))):(Int)×(List Pt))=(cL n):=by
    (have hz:=qt hE (by omega) (by omega);simp only[Int.zero_add];exact hz)
  have e1:(0:Int)=(0):=by
    rfl
  exact⟨(fin w0 g56 (λn=>if n=7 then 1 else 0),v58),(cP (a:=(n,(E++([((0+n)-1,0)]:List Pt)))) (b:=0) (λ(z0:(Int)×(List Pt)) (z1:Int)=>Ending.returned (vt [vg [vi z0.1,v58],vi z1])) e0 e1),bH.t.fresh _,((congrArg (λ(z:(Int)×(List Pt))=>z.2) e0)▸(o60.t.glue (γ:=c0) (ren:=(λn=>if n=7 then 1 else 0)) (k:=1) bH.t.col rfl rfl))⟩
 intro nd20
 refine cU (σ:=Value×ax) [5,1,6,3,2,0] 6 (λ⟨v75,gq⟩ f w=>aW w0 gq w/\f 2=vp b8 0/\f 5=v75/\f 6=vi n/\f 7=vi n/\f 9=vi n/\f 10=Value.func (.func 22) #[] (List.toArray [vp b3 0])/\Bx gq (is 1) w b3 [vi n]/\Bx gq (is 2) w b8 [vi 0,vn]/\Ow gq (is 3) (is 3) w v75 ([n]:List Int)) ?_ ?_
 ·
  rintro⟨v75,g81⟩ f79 w80 ⟨bH,zs2,zs5,zs6,zs7,zs9,zs10,bx5,bx10,o77⟩
  refine cE 4 rfl (bI (v:=vi 0) (aB (vals:=[vi 1,v75,vi n,vi n]) Tryz.func21 gc gg (fI rfl (fI zs5 (fI zs6 (fI zs7 rfl))))) (gk w80 1 ([n]:List Int) v75 (o77.flat).ro n n (by exact(λk hk=>by simp only[List.mem_cons,List.not_mem_nil,or_false] at hk;rcases hk with rfl<;>omega)) (by omega) (by omega)) ?_)
  intro w82 hb83
  replace hb83:=aG hb83 g81
  exact bC (by kernel_rfl) (nd20 (g81) _ _ ⟨bH.t,zs2,rfl,zs9,zs10,bx5.t,bx10.t⟩)
 intro nd78
 refine xh 0 [2,3,5,6] rfl (λw' hw'=>a8 aD rfl (bx5.t.bel hw') rfl) (xh 2 [0,1,3,5,6] rfl (λw' hw'=>a8 aD rfl (bx5.t.bel hw') rfl) (xh 3 [2,0,1,5,6] rfl (λw' hw'=>a8 aD rfl (bx5.t.bel hw') rfl) (xp (v:=Value.func (.func 22) #[] (List.toArray [vp b3 0])) 6 rfl (λw=>ez (vals:=[vp b3 0]) rfl) ?_)))
 refine de 1 5 rfl rfl (by kernel_rfl) rfl rfl ?_ ?_
 ·
  refine aq (α:=Int) g9 (is 3) (is 3) (3,0) rfl ([n]:List Int) bF aD (by decide) (by decide) (vs:=[(0,vi n)]) rfl rfl (.cons rfl .nil) ?_
  intro g84 w85 v86 ch87 o88
  refine de 4 5 rfl rfl (by kernel_rfl) rfl rfl ?_ ?_
  ·
   refine bI (v:=vi 0) (aB (vals:=[vi 1,v86,vi n,vi n]) Tryz.func21 gc gg rfl) (gk w85 1 ([n]:List Int) v86 (o88.flat).ro n n (by exact(λk hk=>by simp only[List.mem_cons,List.not_mem_nil,or_false] at hk;rcases hk with rfl<;>omega)) (by omega) (by omega)) ?_
   intro w89 hb90
   replace hb90:=aG hb90 g84
   refine cE 5 rfl (ao (v:=vi n) (a8 aD rfl bx5.t rfl) ?_)
   have C92:=cg [] (ch11.o (ch87.o hb90.n))
   have C91:=ch2.n.seq (ch7.n.seq C92)
   exact bC (by kernel_rfl) (nd20 (g84) _ _ ⟨bH.t,rfl,rfl,rfl,rfl,bx5.t,bx10.t⟩)
  ·
   refine ao (v:=vi n) (a8 aD rfl bx5.t rfl) ?_
   exact bC (by kernel_rfl) (nd78 (v86,g84) _ _ ⟨bH.t,rfl,rfl,rfl,rfl,rfl,rfl,bx5.t,bx10.t,o88⟩)
 ·
  refine ao (v:=vi n) (a8 aD rfl bx5.t rfl) (cE 1 rfl (aq (α:=Int) g9 (is 3) (is 3) (3,0) rfl ([n]:List Int) bF aD (by decide) (by decide) (vs:=[(0,vi n)]) rfl rfl (.cons rfl .nil) ?_))
  intro g94 w95 v96 ch97 o98
  exact bC (by kernel_rfl) (nd78 (v96,g94) _ _ ⟨bH.t,rfl,rfl,rfl,rfl,rfl,rfl,bx5.t,bx10.t,o98⟩)
set_option maxHeartbeats 4000000 in
theorem pC(w0:World)(n:Int)(hn:1<=n/\n<=20):
    Calls Tryz.prog 9 #[vi n] w0 (λee w=>∃xx:ax×Value,ee= .returned ((λ⟨δ,rv0⟩=>vt [vg [vi ((dB n).1),rv0],vi 0]) xx)/\(λ(⟨δ,rv0⟩:ax×Value) (w:World)=>dz w0 δ w/\Ow δ (is 1) (is 1) w rv0 ((dB n).2)) xx w):=by
 refine ah Tryz.func9 rfl nq ?_
 have bH:=aW.start w0
 obtain⟨hn1,hn2⟩:=hn
 obtain⟨hnm0,hnm1⟩:=EB hn1 hn2
 refine a7 (a6 rfl (cy rfl (bU c0 (is 1) (1,0) rfl rfl ?_)))
 intro g4 w1 b3 ch2 bx5
 refine lo (aZ g4 (is 2) (2,0) rfl aK ?_)
 intro g9 w6 b8 ch7 bx10
 refine ai 0 (ab (a7 (a6 rfl (ai 0 (ab (a7 (a7 (a6 rfl ?_))))))))
 refine lx (a8 aD rfl bx5.t rfl) (lx (xr (m:=n) (n:=3072) rfl rfl) (ab ?_))
 have p2:n<=3072:=by omega
 refine ag rfl (dt p2) (a6 rfl (lx (a8 aD rfl bx5.t rfl) (lx (a8 aD rfl bx5.t rfl) (lx (da (m:=n) (n:=1) rfl rfl (by omega)) (lx (kb (m:=n) (n:=n-1) rfl rfl (by omega)) (lx (kh (m:=n*(n-1)) (n:=2) rfl rfl (by omega) (by omega) (by omega)) (ai ((n*(n-1))/2) (ab (a7 (bp g9 [0,2,3,6,8,9,11] oH ?_))))))))))
 intro w12 ch11
 refine cU (σ:=ax) [5,4,1,6,3,2,0] 5 (λgq f w=>aW w0 gq w/\f 2=vp b8 0/\f 16=vi 0/\f 17=vi n/\f 18=Value.func (.func 27) #[] (List.toArray [vp b3 0])/\Bx gq (is 1) w b3 [vi n]/\Bx gq (is 2) w b8 [vi 0,vn]) ?_ ?_
 ·
  rintro g23 f21 w22 ⟨bH,zs2,zs16,zs17,zs18,bx5,bx10⟩
  refine cE 7 rfl (aV (aB (vals:=[vi 0,vi n,Value.func (.func 27) #[] (List.toArray [vp b3 0])]) Tryz.func20 jC jr (fI zs16 (fI zs17 (fI zs18 rfl)))) (ah Tryz.func20 rfl nq (a7 (a6 rfl (cy rfl (aZ g23 (is 4) (4,0) rfl aK ?_))))))
  intro g27 w24 b26 ch25 bx28
  refine ai 0 (ab (a7 (a7 (a6 rfl (mi 0 (lx (du (m:=0) (n:=0) rfl rfl) (ab (af rfl rfl (am (a7 (a6 rfl (mi n (lw (vg [vi n,vn]) (bn (vs:=[(0,vi n)]) rfl (by kernel_rfl)) ?_)))))))))))))
  refine lw (vg [vi n,vn]) (bn (vs:=[(0,vg [vi n,vn])]) rfl (by kernel_rfl)) (lo (bU g27 (is 5) (5,0) rfl rfl ?_))
  intro g32 w29 b31 ch30 bx33
  refine ma (vp b31 0) (ab (a7 (a6 rfl (mv (Value.func (.func 27) #[] (List.toArray [vp b3 0])) (mv (vp b31 0) (lo (aV (fW (fid:=27) (vals:=[vp b31 0]) (caps:=[vp b3 0]) rfl Tryz.func27 xJ AN rfl) (ah Tryz.func27 rfl nq (a7 (a6 rfl ?_))))))))))
  refine lx (a8 aD rfl bx5.t rfl) (mi 0 (ab (aj ?_)))
  refine aR (σ:=Value×(List Pt)×Nat×ax) (λ⟨E_v,E,i,gq⟩ f w=>aW w0 gq w/\f 0=vp b31 0/\f 1=vp b3 0/\f 5=vi n/\f 6=vi ↑i/\Bx gq (is 1) w b3 [vi n]/\Bx gq (is 2) w b8 [vi 0,vn]/\Bx gq (is 4) w b26 [vi 0,vn]/\Bx gq (is 5) w b31 [vi n,E_v]/\Ow gq (is 7) (is 7) w E_v E/\(i:Int)<=(n:Int)/\(E=iM n i)) (λ⟨E_v,E,i,gq⟩=>Int.toNat ((n:Int)-(i:Int))) (vn,[],0,g32) ?_ ?_
  · exact⟨bH.t,rfl,rfl,rfl,rfl,bx5.t,bx10.t,bx28.t,bx33,Ow.nil,by omega,by rfl⟩
  rintro⟨E_v,E,i,g36⟩ f34 w35 ⟨bH,zs0_c2,zs1_c2,zs5_c2,zs6_c2,bx5,bx10,bx28,bx33,o_E,hle_i,hE⟩ back1_c2
  have hEl:E.length<=i*20:=by rw[hE];exact nC hn2 i
  refine a7 (a6 rfl (lx (br (m:=↑i) (n:=n) zs6_c2 zs5_c2) (ab (a7 ?_))))
  by_cases p1_c2:(i:Int)<n
  ·
   refine ag rfl (dt p1_c2) (am (a7 (aj (a7 (a6 rfl (mz zs6_c2 (ai (i:Int) (ab (a7 (a6 rfl (mi ↑i (lx (aJ (m:=↑i) (n:=1) rfl rfl (by omega)) ?_))))))))))))
   refine ai ((i:Int)+1) (ab (aj ?_))
   refine aR (σ:=Value×(List Pt)×Int×ax) (λ⟨F_v,F,kk,gq⟩ f w=>aW w0 gq w/\f 0=vp b31 0/\f 1=vp b3 0/\f 3=vi ↑i/\f 4=vi kk/\f 5=vi n/\f 6=vi ↑i/\Bx gq (is 1) w b3 [vi n]/\Bx gq (is 2) w b8 [vi 0,vn]/\Bx gq (is 4) w b26 [vi 0,vn]/\Bx gq (is 5) w b31 [vi n,F_v]/\Ow gq (is 7) (is 7) w F_v F/\(F=iM n i++ko i (kk-1-(i:Int)).toNat/\(i:Int)+1<=kk/\kk<=n)) (λ⟨F_v,F,kk,gq⟩=>(n-kk).toNat) (E_v,E,(i:Int)+1,g36) ?_ ?_
   · exact⟨bH,zs0_c2,zs1_c2,rfl,rfl,zs5_c2,zs6_c2,bx5,bx10,bx28,bx33,o_E,by exact⟨hE.trans uv,by omega,by omega⟩⟩
   rintro⟨F_v,F,kk,g39⟩ f37 w38 ⟨bH,zs0_c2,zs1_c2,zs3_c2,zs4_c2,zs5_c2,zs6_c2,bx5,bx10,bx28,bx33,o_F,hF0⟩ back4_c2
   obtain⟨hF,hF1,hF2⟩:=hF0
   have hFl:=Cc hn2 ‹_› hF hF2
   refine a7 (a7 (a6 rfl (mz zs4_c2 (lx (a8 aD zs1_c2 bx5 rfl) (lx (br (m:=kk) (n:=n) rfl rfl) (ab ?_))))))
   by_cases p4_c2:kk<n
   ·
    refine ag rfl (dt p4_c2) (am (a7 (aj (a6 rfl (mz zs0_c2 (mz zs3_c2 (mz zs4_c2 (lo (aV (aB (vals:=[vp b31 0,vi ↑i,vi kk]) Tryz.func25 eV eW rfl) ?_)))))))))
    refine ah Tryz.func25 rfl nq (a6 rfl (mv (vp b31 0) (mv (vp b31 0) (lw (vp b31 0) (ae rfl) (lx (aa mA rfl rfl rfl rfl) (lx (aa dK rfl rfl rfl rfl) (lx (a8 bM rfl bx33 rfl) (mi ↑i (mi kk ?_)))))))))
    refine lw (vg [vi ↑i,vi kk]) (bn (vs:=[(0,vi ↑i),(1,vi kk)]) rfl (by kernel_rfl)) (lo (aq (α:=Pt) g39 (is 6) (is 6) (6,0) rfl ([((i:Int),kk)]:List Pt) eG bm (by decide) (by decide) (vs:=[(0,vg [vi ↑i,vi kk])]) rfl rfl (.cons rfl .nil) ?_))
    intro g40 w41 v42 ch43 o44
    refine lo ?_
    refine aS (α:=Pt) (xs:=F) (ys:=([((i:Int),kk)]:List Pt)) g40 (J:=is 7) (S:=is 7) (7,0) rfl eG bm (by decide) rfl rfl rfl o_F.t o44.flat (by decide) (by(simp;omega)) ?_
    intro g45 w46 v47 ch48 o49
    refine lw (vp b31 0) (ae rfl) (lx (aa mA rfl rfl rfl rfl) (lx (aa dK rfl rfl rfl rfl) (lo ?_)))
    refine aC (cs':=[vi n,v47]) bM rfl rfl bx33.t (aL o49.flat) nq (aM o49.flat) rfl ?_
    intro w50 ch51 bx52
    refine ab (ck (vs:=[]) Tryz.func25 .nil ?_)
    refine⟨vt [],rfl,?_⟩
    refine ab (ak ?_)
    refine a6 rfl (mz zs4_c2 (lx (aJ (m:=kk) (n:=1) rfl rfl (by omega)) (ai (kk+1) (ab ?_))))
    refine back4_c2 (v47,(F++([((i:Int),kk)]:List Pt)),kk+1,g45) _ _ ⟨bH.t,zs0_c2,zs1_c2,zs3_c2,rfl,zs5_c2,zs6_c2,bx5.t,bx10.t,bx28.t,bx52,o49.t,?_⟩ ?_
    · show(F++([((i:Int),kk)]:List Pt))=iM n i++ko i ((kk+1)-1-(i:Int)).toNat/\(i:Int)+1<=(kk+1)/\(kk+1)<=n
      exact⟨A6 hF hF1,by omega,by omega⟩
    · show(n-(kk+1)).toNat<(n-kk).toNat
      omega
   refine af rfl (df p4_c2) (aF rfl (ak (a6 rfl (lx (aJ (m:=↑i) (n:=1) zs6_c2 rfl (by omega)) (mi ((i:Int)+1) (ab ?_))))))
   refine back1_c2 (F_v,F,i+1,g39) _ _ ⟨bH,zs0_c2,zs1_c2,zs5_c2,rfl,bx5,bx10,bx28,bx33.t,o_F.t,by omega,?_⟩ ?_
   · show F=iM n (i+1)
     exact Co hF hF2 ‹_›
   · show Int.toNat (_-_)<Int.toNat (_-_)
     omega
  refine af rfl (df p1_c2) (aF rfl (ck (vs:=[]) Tryz.func27 .nil ?_))
  refine⟨vt [],rfl,?_⟩
  refine ab (a7 (a6 rfl (mv (vp b31 0) (lw (vp b31 0) (ae rfl) (lx (aa mA rfl rfl rfl rfl) (lx (av (ds:=[vi n,E_v]) aK rfl bx33.t rfl rfl) (lo (aA (cs':=[vi n,E_v]) aK rfl rfl bx28 rfl nq (AllOne.all (.cons rfl (.cons (aM o_E.flat) .nil))) rfl ?_))))))))
  intro w54 ch55 bx56
  refine ai 0 (ab (az (vs:=[vg [vi n,E_v],vi 0]) Tryz.func20 (.cell rfl (cd (ds:=[vi n,E_v]) aK bx56 rfl rfl) (.tmp rfl .nil)) ?_))
  refine⟨vt [vg [vi n,E_v],vi 0],rfl,?_⟩
  refine xp 8 rfl (λw=>ay rfl rfl) (xp 9 rfl (λw=>ay rfl rfl) (cE 10 rfl ?_))
  refine aA (cs':=[vi n,E_v]) aK zs2 rfl bx10.t rfl nq (AllOne.all (.cons rfl (.cons (aM o_E.t.flat) .nil))) rfl ?_
  intro w57 ch58 bx59
  refine xp (v:=vi 0) 11 rfl (λw=>bK rfl) (bV (by kernel_rfl) (az (vs:=[vg [vi n,E_v],vi 0]) Tryz.func9 (.cell zs2 (cd (ds:=[vi n,E_v]) aK bx59 rfl rfl) (.tmp rfl .nil)) ?_))
  have e0:((n,E):(Int)×(List Pt))=(dB n):=by
    exact zD hE (by omega) (by omega)
  have e1:(0:Int)=(0):=by
    rfl
  exact⟨(fin w0 g36 (λn=>if n=7 then 1 else 0),E_v),(cP (a:=(n,E)) (b:=0) (λ(z0:(Int)×(List Pt)) (z1:Int)=>Ending.returned (vt [vg [vi z0.1,E_v],vi z1])) e0 e1),bH.t.fresh _,((congrArg (λ(z:(Int)×(List Pt))=>z.2) e0)▸(o_E.t.glue (γ:=c0) (ren:=(λn=>if n=7 then 1 else 0)) (k:=1) bH.t.col rfl rfl))⟩
 intro nd20
 refine cU (σ:=Value×ax) [5,1,6,3,2,0] 6 (λ⟨v62,gq⟩ f w=>aW w0 gq w/\f 2=vp b8 0/\f 13=v62/\f 14=vi n/\f 15=vi ((n*(n-1))/2)/\f 17=vi n/\f 18=Value.func (.func 27) #[] (List.toArray [vp b3 0])/\Bx gq (is 1) w b3 [vi n]/\Bx gq (is 2) w b8 [vi 0,vn]/\Ow gq (is 3) (is 3) w v62 ([n]:List Int)) ?_ ?_
 ·
  rintro⟨v62,g68⟩ f66 w67 ⟨bH,zs2,zs13,zs14,zs15,zs17,zs18,bx5,bx10,o64⟩
  refine cE 4 rfl (bI (v:=vi 0) (aB (vals:=[vi 1,v62,vi n,vi ((n*(n-1))/2)]) Tryz.func21 gc gg (fI rfl (fI zs13 (fI zs14 (fI zs15 rfl))))) (gk w67 1 ([n]:List Int) v62 (o64.flat).ro n ((n*(n-1))/2) (by exact(λk hk=>by simp only[List.mem_cons,List.not_mem_nil,or_false] at hk;rcases hk with rfl<;>omega)) (by omega) (by omega)) ?_)
  intro w69 hb70
  replace hb70:=aG hb70 g68
  exact bC (by kernel_rfl) (nd20 (g68) _ _ ⟨bH.t,zs2,rfl,zs17,zs18,bx5.t,bx10.t⟩)
 intro nd65
 refine xh 0 [2,3,5,6] rfl (λw' hw'=>a8 aD rfl (bx5.t.bel hw') rfl) (xh 2 [0,1,3,5,6] rfl (λw' hw'=>a8 aD rfl (bx5.t.bel hw') rfl) (xp (v:=vi ((n*(n-1))/2)) 3 rfl (λw=>ar rfl) (xp (v:=Value.func (.func 27) #[] (List.toArray [vp b3 0])) 6 rfl (λw=>ez (vals:=[vp b3 0]) rfl) ?_)))
 refine de 1 5 rfl rfl (by kernel_rfl) rfl rfl ?_ ?_
 ·
  refine aq (α:=Int) g9 (is 3) (is 3) (3,0) rfl ([n]:List Int) bF aD (by decide) (by decide) (vs:=[(0,vi n)]) rfl rfl (.cons rfl .nil) ?_
  intro g71 w72 v73 ch74 o75
  refine de 4 5 rfl rfl (by kernel_rfl) rfl rfl ?_ ?_
  ·
   refine bI (v:=vi 0) (aB (vals:=[vi 1,v73,vi n,vi ((n*(n-1))/2)]) Tryz.func21 gc gg rfl) (gk w72 1 ([n]:List Int) v73 (o75.flat).ro n ((n*(n-1))/2) (by exact(λk hk=>by simp only[List.mem_cons,List.not_mem_nil,or_false] at hk;rcases hk with rfl<;>omega)) (by omega) (by omega)) ?_
   intro w76 hb77
   replace hb77:=aG hb77 g71
   refine cE 5 rfl (ao (v:=vi n) (a8 aD rfl bx5.t rfl) ?_)
   have C79:=cg [] (ch11.o (ch74.o hb77.n))
   have C78:=ch2.n.seq (ch7.n.seq C79)
   exact bC (by kernel_rfl) (nd20 (g71) _ _ ⟨bH.t,rfl,rfl,rfl,rfl,bx5.t,bx10.t⟩)
  ·
   refine ao (v:=vi n) (a8 aD rfl bx5.t rfl) ?_
   exact bC (by kernel_rfl) (nd65 (v73,g71) _ _ ⟨bH.t,rfl,rfl,rfl,rfl,rfl,rfl,bx5.t,bx10.t,o75⟩)
 ·
  refine ao (v:=vi n) (a8 aD rfl bx5.t rfl) (cE 1 rfl (aq (α:=Int) g9 (is 3) (is 3) (3,0) rfl ([n]:List Int) bF aD (by decide) (by decide) (vs:=[(0,vi n)]) rfl rfl (.cons rfl .nil) ?_))
  intro g81 w82 v83 ch84 o85
  exact bC (by kernel_rfl) (nd65 (v83,g81) _ _ ⟨bH.t,rfl,rfl,rfl,rfl,rfl,rfl,bx5.t,bx10.t,o85⟩)
end TL
