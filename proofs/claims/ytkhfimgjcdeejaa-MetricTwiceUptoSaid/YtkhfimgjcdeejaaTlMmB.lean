import Derived.Test.YtkhfimgjcdeejaaTlP2
import Derived.Test.YtkhfimgjcdeejaaTlGmA
import Derived.Test.YtkhfimgjcdeejaaTlGenA
import Derived.Test.YtkhfimgjcdeejaaTlGjC
import Derived.Test.YtkhfimgjcdeejaaTlMmA
import Derived.Test.YtkhfimgjcdeejaaProg
import Derived.Test.YtkhfimgjcdeejaaTlAli
set_option linter.all false
set_option maxRecDepth 20000
namespace TL
open Go Go.Proofs
theorem kn:Try.prog.follows .mixedOrders=true:=by kernel_rfl
theorem aF:Tp Try.prog 30 false 1 8 (.float .f64 0):=Tp.of (by kernel_rfl)
theorem i5:Try.f22.body.isNone=false:=rfl
theorem ic:(Try.f22.name== "runtime.NumGoroutine")=false:=by decide+kernel
theorem lN:Try.f23.body.isNone=false:=rfl
theorem lR:(Try.f23.name== "runtime.NumGoroutine")=false:=by decide+kernel
theorem mF:Try.f25.body.isNone=false:=rfl
theorem lC:(Try.f25.name== "runtime.NumGoroutine")=false:=by decide+kernel
theorem qp:Try.f36.body.isNone=false:=rfl
theorem pg:(Try.f36.name== "runtime.NumGoroutine")=false:=by decide+kernel
theorem c9:Try.f46.body.isNone=false:=rfl
theorem c8:(Try.f46.name== "runtime.NumGoroutine")=false:=by decide+kernel
theorem dp:Try.f47.body.isNone=false:=rfl
theorem dj:(Try.f47.name== "runtime.NumGoroutine")=false:=by decide+kernel
theorem nf(w0:World)(line:List Pt)(line_v:Value)(hline_v:Ro w0 line_v line)(hok:fF line)(h2:2<=(line.length:Int)):
    Calls Try.prog 36 #[line_v] w0 (λee w=>ee= .returned (Value.float .f64 (dZ line))/\cG w0.heap.size w0 w):=by
 refine aK Try.func36 rfl nq ?_
 have bH:=bu.start w0
 have Rline:=hline_v.sl
 obtain⟨hl1,hl2⟩:=hok
 refine a8 (a7 rfl (ma (Value.float .f64 0) (ab (a8 (bq c0 rfl kn (by kernel_rfl) ?_)))))
 intro w2 ch1
 refine qm line_v ?_
 replace Rline:=Rline.cn ch1
 refine qx (λw' hw'=>af (v:=line_v) (i:=0) cT rfl rfl (Rline.bel hw') rfl (by omega) (by omega)) (qv (vg [vi ((gI line 0).1),vi ((gI line 0).2)]) (λw' hw'=>aT (v:=line_v) (i:=0) aj rfl (Rline.bel hw') (by omega) (by omega) rfl) (qm line_v (qx (λw' hw'=>af (v:=line_v) (i:=1) cT rfl rfl (Rline.bel hw') rfl (by omega) (by omega)) (qv (vg [vi ((gI line 1).1),vi ((gI line 1).2)]) (λw' hw'=>aT (v:=line_v) (i:=1) aj rfl (Rline.bel hw') (by omega) (by omega) rfl) ?_))))
 refine cv (v:=Value.float .f64 (bk (gI line 0) (gI line 1))) rfl (λw' hw'=>aG (vals:=[vg [vi ((gI line 0).1),vi ((gI line 0).2)],vg [vi ((gI line 1).1),vi ((gI line 1).2)]]) Try.func47 dp dj rfl) (λw' hw'=>(cm w' (gI line 0) (gI line 1) (by exact hl2 _ (bl (by omega) (by omega))) (by exact hl2 _ (bl (by omega) (by omega)))).mono λe w2 h2=>⟨h2.1,hw'.trans (h2.2.mono hw'.size)⟩) (cv (v:=Value.float .f64 (az (bk (gI line 0) (gI line 1)))) rfl (λw' hw'=>aG (vals:=[Value.float .f64 (bk (gI line 0) (gI line 1))]) Try.func46 c9 c8 rfl) (λw' hw'=>(c7 w' (bk (gI line 0) (gI line 1)) (by exact cq _ _)).mono λe w2 h2=>⟨h2.1,hw'.trans (h2.2.mono hw'.size)⟩) ?_)
 refine qv (Value.float .f64 (az (bk (gI line 0) (gI line 1)))) (λw' hw'=>bw rfl) (bT ?_)
 intro w3 hc4
 replace hc4:=am hc4 c0
 refine a8 (a8 (a7 rfl (ai 2 (ab (aC ?_)))))
 refine bF (σ:=Fb×Nat×aV) (λ⟨sum,i,gq⟩ f w=>bu w0 gq w/\f 0=line_v/\f 3=Value.float .f64 sum/\f 4=vi ↑i/\Sl gq (is 0) w line_v line/\(i:Int)<=((line.length:Int):Int)/\((sum=gp line (i-2)/\2<=i)/\i<=line.length)) (λ⟨sum,i,gq⟩=>line.length-i) (az (bk (gI line 0) (gI line 1)),2,c0) ?_ ?_
 replace bH:=bH.cn ch1
 · exact⟨bH.cn hc4,rfl,rfl,rfl,Rline.cn hc4,by omega,by exact⟨⟨rfl,by omega⟩,by omega⟩⟩
 clear Rline bH
 rintro⟨sum,i,g7⟩ f5 w6 ⟨bH,zs0,zs3,zs4,Rline,hle_i,hinv⟩ back3
 have hi2:=hinv.1.2
 have hsn:sum<=aJ:=by rw[hinv.1.1];exact jD _ _
 refine a8 (a8 (a7 rfl (mz zs4 (mz zs0 ?_))))
 have len8:=(Rline).small
 refine lx (bO cT rfl Rline) (lx (bc (m:=↑i) (n:=(line.length:Int)) rfl rfl) (ab ?_))
 by_cases p3:(i:Int)<(line.length:Int)
 ·
  refine ag rfl (dt p3) (au (a8 (aC (bq g7 rfl kn (by kernel_rfl) ?_))))
  intro w10 ch9
  refine qz zs3 (qz zs0 (qz zs4 (qx (λw' hw'=>cW (m:=↑i) (n:=1) rfl rfl (by omega)) ?_)))
  replace Rline:=Rline.cn ch9
  refine qx (λw' hw'=>af (v:=line_v) (i:=(i:Int)-1) cT rfl rfl (Rline.bel hw') rfl (by omega) (by omega)) (qv (vg [vi ((gI line ((i:Int)-1)).1),vi ((gI line ((i:Int)-1)).2)]) (λw' hw'=>aT (v:=line_v) (i:=(i:Int)-1) aj rfl (Rline.bel hw') (by omega) (by omega) rfl) (qz zs0 (qz zs4 (qx (λw' hw'=>af (v:=line_v) (i:=↑i) cT rfl rfl (Rline.bel hw') rfl (by omega) (by omega)) (qv (vg [vi ((gI line ↑i).1),vi ((gI line ↑i).2)]) (λw' hw'=>aT (v:=line_v) (i:=↑i) aj rfl (Rline.bel hw') (by omega) (by omega) rfl) ?_)))))
  refine cv (v:=Value.float .f64 (bk (gI line ((i:Int)-1)) (gI line ↑i))) rfl (λw' hw'=>aG (vals:=[vg [vi ((gI line ((i:Int)-1)).1),vi ((gI line ((i:Int)-1)).2)],vg [vi ((gI line ↑i).1),vi ((gI line ↑i).2)]]) Try.func47 dp dj rfl) (λw' hw'=>(cm w' (gI line ((i:Int)-1)) (gI line ↑i) (by exact hl2 _ (bl (by omega) (by omega))) (by exact hl2 _ (bl (by omega) (by omega)))).mono λe w2 h2=>⟨h2.1,hw'.trans (h2.2.mono hw'.size)⟩) ?_
  refine cv (v:=Value.float .f64 (az (bk (gI line ((i:Int)-1)) (gI line ↑i)))) rfl (λw' hw'=>aG (vals:=[Value.float .f64 (bk (gI line ((i:Int)-1)) (gI line ↑i))]) Try.func46 c9 c8 rfl) (λw' hw'=>(c7 w' (bk (gI line ((i:Int)-1)) (gI line ↑i)) (by exact cq _ _)).mono λe w2 h2=>⟨h2.1,hw'.trans (h2.2.mono hw'.size)⟩) (qv (Value.float .f64 (cE sum (az (bk (gI line ((i:Int)-1)) (gI line ↑i))))) (λw' hw'=>lz (a:=sum) (b:=(az (bk (gI line ((i:Int)-1)) (gI line ↑i)))) rfl rfl (eT ‹_› (by exact(gh (cq _ _)).2)).1) ?_)
  have nn11:cE sum (az (bk (gI line ((i:Int)-1)) (gI line ↑i)))<=aJ:=(eT (x:=sum) (y:=(az (bk (gI line ((i:Int)-1)) (gI line ↑i)))) ‹_› (by exact(gh (cq _ _)).2)).2
  refine qv (Value.float .f64 (cE sum (az (bk (gI line ((i:Int)-1)) (gI line ↑i))))) (λw' hw'=>bw rfl) (bT ?_)
  intro w12 hc13
  replace hc13:=am hc13 g7
  refine ap (a7 rfl (mz zs4 (lx (ba (m:=↑i) (n:=1) rfl rfl (by omega)) (ai ((i:Int)+1) (ab ?_)))))
  replace bH:=bH.cn ch9
  refine back3 (cE sum (az (bk (gI line ((i:Int)-1)) (gI line ↑i))),i+1,g7) _ _ ⟨bH.cn hc13,zs0,rfl,rfl,Rline.cn hc13,by omega,?_⟩ ?_
  · show((cE sum (az (bk (gI line ((i:Int)-1)) (gI line ↑i))))=gp line ((i+1)-2)/\2<=(i+1))/\(i+1)<=line.length
    exact⟨nl hinv.1,by omega⟩
  · show line.length-(i+1)<line.length-i
    omega
 refine ah rfl (df p3) (aQ rfl (a8 (a7 rfl (mz zs3 (ma (Value.float .f64 sum) (ab (aw (vs:=[Value.float .f64 sum]) Try.func36 (.tmp rfl .nil) ?_)))))))
 have e0:(sum:Nat)=(dZ line):=by
   exact qk hinv.1 ‹_› (by omega) (by omega)
 exact⟨(congrArg (a₁:=sum) (λ(z0:Nat)=>Ending.returned (Value.float .f64 z0)) e0),bH.below⟩
theorem ip(w0:World)(p:(List Pt)×(List (List Pt)))(p_v p_v1:Value)(hp_v:Ro w0 p_v p.1)(hp_v1:Ro w0 p_v1 p.2)(hok:∀e:Int,0<=e->e<p.2.length->fF (gI p.2 e)/\2<=((gI p.2 e).length:Int))(hn:(p.2.length:Int)<=1048576):
    Calls Try.prog 23 #[vg [p_v,p_v1]] w0 (λee w=>∃xx:aV×Value,ee= .returned ((λ⟨δ,rv0⟩=>rv0) xx)/\(λ(⟨δ,rv0⟩:aV×Value) (w:World)=>iX w0 δ w/\Ow δ (is 1) (is 1) w rv0 (aD p)) xx w):=by
 refine aK Try.func23 rfl nq ?_
 have bH:=bu.start w0
 have Rp:=hp_v.sl
 have r_p_v1:=hp_v1.sl
 refine a8 (a7 rfl (cN rfl (bC c0 (is 1) (1,0) rfl rfl ?_)))
 intro g4 w1 b3 ch2 bx5
 replace bx5:Bx g4 (is 1) w1 b3 [p_v,p_v1]:=bx5
 refine ma vn (ab (a8 (a7 rfl (ma vn (ab (a8 (a8 (a7 rfl (lx (a9 eQ rfl rfl rfl rfl) (lx (aa cP rfl bx5 rfl) ?_))))))))))
 replace r_p_v1:=r_p_v1.cn ch2
 have len6:=(r_p_v1).small
 refine lx (bO iL rfl r_p_v1) (mi 0 (ab (aC ?_)))
 clear bx5
 refine bF (σ:=Value×(List Nat)×Nat×aV) (λ⟨l_v,l,k,gq⟩ f w=>bu w0 gq w/\f 3=l_v/\f 7=p_v1/\f 8=vi (p.2.length:Int)/\f 9=vi ↑k/\Sl gq (is 0) w p_v p.1/\Sl gq (is 0) w p_v1 p.2/\Ow gq (is 3) (is 3) w l_v l/\(k:Int)<=((p.2.length:Int):Int)/\(l=(p.2.take k).map dZ)) (λ⟨l_v,l,k,gq⟩=>Int.toNat (((p.2.length:Int):Int)-(k:Int))) (vn,[],0,g4) ?_ ?_
 · exact⟨bH.cn ch2,rfl,rfl,rfl,rfl,Rp.cn ch2,r_p_v1,Ow.nil,by omega,by rfl⟩
 clear Rp r_p_v1 bH
 rintro⟨l_v,l,k,g9⟩ f7 w8 ⟨bH,zs3,zs7,zs8,zs9,Rp,r_p_v1,o_l,hle_k,hinv⟩ back3
 have hll:l.length<=k:=by rw[hinv,List.length_map,List.length_take];omega
 refine a8 (a7 rfl (lx (bc (m:=↑k) (n:=(p.2.length:Int)) zs9 zs8) (ab (a8 ?_))))
 by_cases p3:(k:Int)<(p.2.length:Int)
 ·
  refine ag rfl (dt p3) (au (a8 (aC (a8 (a7 rfl (lx (af (v:=p_v1) (i:=↑k) iL rfl zs7 r_p_v1 zs9 (by omega) (by omega)) ?_))))))
  obtain⟨v10,cel11,r12⟩:=dK (r:=(k:Int)) r_p_v1 (by omega) (by omega)
  refine lx (aZ bD rfl cel11) (ma v10 (ab (a7 rfl (mz zs3 (mv v10 (lo (aP (v:=Value.float .f64 (dZ (gI p.2 ↑k))) (aG (vals:=[v10]) Try.func36 qp pg rfl) (nf w8 (gI p.2 ↑k) v10 (r12).ro (by exact(hok _ (by omega) (by omega)).1) (by exact(hok _ (by omega) (by omega)).2)) ?_)))))))
  intro w13 hb14
  replace hb14:=am hb14 g9
  refine lo (aH (α:=Nat) g9 (is 2) (is 2) (2,0) rfl [dZ (gI p.2 ↑k)] pq aF (by decide) (by decide) (vs:=[(0,Value.float .f64 (dZ (gI p.2 ↑k)))]) rfl rfl (.cons rfl .nil) ?_)
  intro g15 w16 v17 ch18 o19
  refine lo ?_
  replace o_l:=(o_l.cn hb14).cn ch18
  refine bj (α:=Nat) (xs:=l) (ys:=([dZ (gI p.2 ↑k)])) g15 (J:=is 3) (S:=is 3) (3,0) rfl pq aF (by decide) rfl rfl rfl o_l o19.flat (by decide) (by(simp;omega)) ?_
  intro g20 w21 v22 ch23 o24
  clear o_l
  refine ma v22 (ab (ap ?_))
  clear r12 o19
  refine a7 rfl (lx (ba (m:=↑k) (n:=1) zs9 rfl (by omega)) (mi ((k:Int)+1) (ab ?_)))
  have C25:=cg [3] (hb14.n.seq (ch18.n.seq (ch23.l rfl)))
  refine back3 (v22,(l++[dZ (gI p.2 ↑k)]),k+1,g20) _ _ ⟨bH.ca C25,rfl,zs7,zs8,rfl,Rp.ca C25,r_p_v1.ca C25,o24,by omega,?_⟩ ?_
  · show(l++[dZ (gI p.2 ↑k)])=(p.2.take (k+1)).map dZ
    exact mW hinv (by omega)
  · show Int.toNat (((p.2.length:Int):Int)-((k+1):Int))<Int.toNat (((p.2.length:Int):Int)-(k:Int))
    omega
 refine ah rfl (df p3) (aQ rfl (a8 (a7 rfl (mz zs3 (ma l_v (ab (aw (vs:=[l_v]) Try.func23 (.tmp rfl .nil) ?_)))))))
 have e0:(l:List Nat)=(aD p):=by
   exact ow hinv (by omega)
 exact⟨(fin w0 g9 (λn=>if n=3 then 1 else 0),l_v),(congrArg (a₁:=l) (λ(z0:List Nat)=>Ending.returned (l_v)) e0),bH.fresh _,(e0▸(o_l.glue (γ:=c0) (ren:=(λn=>if n=3 then 1 else 0)) (k:=1) bH.col rfl rfl))⟩
theorem fv(w0:World)(g:(Int)×(List Pt))(g_v:Value)(hg_v:Ro w0 g_v g.2)(p:(List Pt)×(List (List Pt)))(p_v p_v1:Value)(hp_v:Ro w0 p_v p.1)(hp_v1:Ro w0 p_v1 p.2):
    Calls Try.prog 22 #[vg [vi g.1,g_v],vg [p_v,p_v1]] w0 (λee w=>ee= .returned (vi (aY g p))/\cG w0.heap.size w0 w):=by
 refine aK Try.func22 rfl nq ?_
 have bH:=bu.start w0
 have Rg:=hg_v.sl
 have Rp:=hp_v.sl
 have r_p_v1:=hp_v1.sl
 refine a8 (a7 rfl (cN rfl (bC c0 (is 1) (1,0) rfl rfl ?_)))
 intro g4 w1 b3 ch2 bx5
 replace bx5:Bx g4 (is 1) w1 b3 [vi g.1,g_v]:=bx5
 refine lo (bC g4 (is 2) (2,0) rfl rfl ?_)
 intro g9 w6 b8 ch7 bx10
 replace bx10:Bx g9 (is 2) w6 b8 [p_v,p_v1]:=bx10
 refine ai 0 (ab (a8 (a8 (a7 rfl ?_))))
 replace bx5:=bx5.cn ch7
 refine lx (ae (ds:=[vi g.1,g_v]) bS rfl bx5 rfl rfl) ?_
 replace Rg:=(Rg.cn ch2).cn ch7
 refine lo (aP (v:=vb (cK g)) (aG (vals:=[vg [vi g.1,g_v]]) Try.func35 mG lQ rfl) (oh w6 g g_v (Rg).ro) ?_)
 intro w11 hb12
 replace hb12:=am hb12 g9
 refine lx (dr (b:=(cK g)) rfl) (ab ?_)
 by_cases p1:(cK g)=true
 ·
  have hm:=of_decide_eq_true p1
  refine ah rfl (congrArg Bool.not p1) (au (a8 (a7 rfl ?_)))
  replace bx5:=bx5.cn hb12
  refine lx (ae (ds:=[vi g.1,g_v]) bS rfl bx5 rfl rfl) ?_
  replace bx10:=bx10.cn hb12
  refine lx (ae (ds:=[p_v,p_v1]) bP rfl bx10 rfl rfl) ?_
  replace Rg:=Rg.cn hb12
  have C13:=cg [] (ch2.n.seq (ch7.n.seq hb12.n))
  replace Rp:=Rp.ca C13
  replace r_p_v1:=r_p_v1.ca C13
  refine lo (aP (v:=vt [vg [vi (((ad g p).1).1),vi ((((ad g p).1).2).1),vi (((((ad g p).1).2).2).1),vb ((((((ad g p).1).2).2).2).1),vb ((((((ad g p).1).2).2).2).2)],vi ((ad g p).2)]) (aG (vals:=[vg [vi g.1,g_v],vg [p_v,p_v1]]) Try.func25 mF lC rfl) (kz w11 g g_v (Rg).ro p p_v p_v1 (Rp).ro (r_p_v1).ro) ?_)
  intro w14 hb15
  replace hb15:=am hb15 g9
  refine mv (vt [vg [vi (((ad g p).1).1),vi ((((ad g p).1).2).1),vi (((((ad g p).1).2).2).1),vb ((((((ad g p).1).2).2).2).1),vb ((((((ad g p).1).2).2).2).2)],vi ((ad g p).2)]) (lx (bg rfl rfl) (lx (bg rfl rfl) (lo (bo g9 (is 3) (3,0) rfl cz ?_))))
  intro g19 w16 b18 ch17 bx20
  replace bx20:Bx g19 (is 3) w16 b18 [vi 0,vi 0,vi 0,vb false,vb false]:=bx20
  refine lo (ao (cs':=[vi (((ad g p).1).1),vi ((((ad g p).1).2).1),vi (((((ad g p).1).2).2).1),vb ((((((ad g p).1).2).2).2).1),vb ((((((ad g p).1).2).2).2).2)]) cz rfl rfl bx20 rfl nq (AllOne.all (.cons rfl (.cons rfl (.cons rfl (.cons rfl (.cons rfl .nil)))))) rfl ?_)
  intro w21 ch22 bx23
  clear bx20
  refine ai ((ad g p).2) (ab (a8 ?_))
  clear bx5 bx10 bx23
  refine a7 rfl (mi ((ad g p).2) (ai ((ad g p).2) (ab (aw (vs:=[vi ((ad g p).2)]) Try.func22 (.tmp rfl .nil) ?_))))
  have e0:((ad g p).2:Int)=(aY g p):=by
    exact(lV hm).symm
  have C24:=cg [3] (ch2.n.seq (ch7.n.seq (hb12.n.seq (hb15.n.seq (ch17.n.seq (ch22.l rfl))))))
  replace bH:=bH.ca C24
  exact⟨ri e0,bH.below⟩
 have hm:¬dd g:=λh=>p1 (dt h)
 refine ag rfl (congrArg Bool.not (Bool.eq_false_iff.2 p1)) (a8 ?_)
 clear bx5 bx10
 refine a7 rfl (ai 1 (ab (aw (vs:=[vi 1]) Try.func22 (.tmp rfl .nil) ?_)))
 have e0:(1:Int)=(aY g p):=by
   exact(my hm).symm
 have C25:=cg [] (ch2.n.seq (ch7.n.seq hb12.n))
 replace bH:=bH.ca C25
 exact⟨ri e0,bH.below⟩
theorem ll(w0:World)(g:(Int)×(List Pt))(g_v:Value)(hg_v:Ro w0 g_v g.2)(p:(List Pt)×(List (List Pt)))(p_v p_v1:Value)(hp_v:Ro w0 p_v p.1)(hp_v1:Ro w0 p_v1 p.2):
    Calls Try.prog 21 #[vg [vi g.1,g_v],vg [p_v,p_v1]] w0 (λee w=>∃xx:aV×Value,ee= .returned ((λ⟨δ,rv0⟩=>vt [rv0,vi ((bE g p).2)]) xx)/\(λ(⟨δ,rv0⟩:aV×Value) (w:World)=>iX w0 δ w/\Ow δ (is 1) (is 1) w rv0 ((bE g p).1)) xx w):=by
 refine aK Try.func21 rfl nq ?_
 have bH:=bu.start w0
 have Rg:=hg_v.sl
 have Rp:=hp_v.sl
 have r_p_v1:=hp_v1.sl
 refine a8 (a7 rfl (cN rfl (bC c0 (is 1) (1,0) rfl rfl ?_)))
 intro g4 w1 b3 ch2 bx5
 replace bx5:Bx g4 (is 1) w1 b3 [vi g.1,g_v]:=bx5
 refine lo (bC g4 (is 2) (2,0) rfl rfl ?_)
 intro g9 w6 b8 ch7 bx10
 replace bx10:Bx g9 (is 2) w6 b8 [p_v,p_v1]:=bx10
 refine ma vn (ai 0 (ab (a8 (a8 (a7 rfl ?_)))))
 replace bx5:=bx5.cn ch7
 refine lx (ae (ds:=[vi g.1,g_v]) bS rfl bx5 rfl rfl) (lx (ae (ds:=[p_v,p_v1]) bP rfl bx10 rfl rfl) ?_)
 replace Rg:=(Rg.cn ch2).cn ch7
 replace Rp:=(Rp.cn ch2).cn ch7
 replace r_p_v1:=(r_p_v1.cn ch2).cn ch7
 refine lo (aP (v:=vi (aY g p)) (aG (vals:=[vg [vi g.1,g_v],vg [p_v,p_v1]]) Try.func22 i5 ic rfl) (fv w6 g g_v (Rg).ro p p_v p_v1 (Rp).ro (r_p_v1).ro) ?_)
 intro w11 hb12
 replace hb12:=am hb12 g9
 refine ai (aY g p) (ab (a8 ?_))
 clear bx5
 refine a7 rfl (mi (aY g p) (lx (fM (m:=aY g p) (n:=0) rfl rfl) (ab ?_)))
 by_cases p2:(aY g p)=0
 ·
  have hf0:aY g p=0:=p2
  obtain⟨hm,hs,hlp⟩:=eH hf0
  have hs2:=hs.m
  have hm0:=hm
  obtain⟨hm1,hm2,hm3,hm4⟩:=hm0
  refine ah rfl (congrArg Bool.not (dt p2)) (au (a8 (a7 rfl ?_)))
  replace bx10:=bx10.cn hb12
  refine lx (ae (ds:=[p_v,p_v1]) bP rfl bx10 rfl rfl) ?_
  replace Rp:=Rp.cn hb12
  replace r_p_v1:=r_p_v1.cn hb12
  refine lo (fw (aG (vals:=[vg [p_v,p_v1]]) Try.func23 lN lR rfl) (ip w11 p p_v p_v1 (Rp).ro (r_p_v1).ro (by exact λe h0 h1=>⟨(hs.ln e h0 h1).2,(hs.ln e h0 h1).1⟩) (by omega)) ?_)
  rintro⟨d14,v16⟩ w13 ⟨fr15,o17⟩
  obtain⟨g18,ch19,G18⟩:=sg g9 fr15 (λn=>if n=1 then 3 else 0)
  replace o17:=o17.gl G18 3
  refine ma v16 (ai 0 (ab (aw (vs:=[v16,vi 0]) Try.func21 (.tmp rfl (.tmp rfl .nil)) ?_)))
  have C20:=cg [] (ch2.n.seq (ch7.n.seq (hb12.n.seq ch19.n)))
  replace bH:=bH.ca C20
  have e0:(aD p:List Nat)=((bE g p).1):=by
    (unfold bE;rw[if_pos hf0];done)
  have e1:(0:Int)=((bE g p).2):=by
    (unfold bE;rw[if_pos hf0];done)
  exact⟨(fin w0 g18 (λn=>if n=3 then 1 else 0),v16),(bR (a:=aD p) (b:=0) (λ(z0:List Nat) (z1:Int)=>Ending.returned (vt [v16,vi z1])) e0 e1),bH.fresh _,(e0▸(o17.glue (γ:=c0) (ren:=(λn=>if n=3 then 1 else 0)) (k:=1) bH.col rfl rfl))⟩
 refine ag rfl (congrArg Bool.not (df p2)) (a8 ?_)
 clear bx10
 refine a7 rfl (mi (aY g p) (ma vn (ai (aY g p) (ab (aw (vs:=[vn,vi (aY g p)]) Try.func21 (.tmp rfl (.tmp rfl .nil)) ?_)))))
 have C21:=cg [] (ch2.n.seq (ch7.n.seq hb12.n))
 replace bH:=bH.ca C21
 have e0:([]:List Nat)=((bE g p).1):=by
   (unfold bE;rw[if_neg p2];done)
 have e1:(aY g p:Int)=((bE g p).2):=by
   (unfold bE;rw[if_neg p2];done)
 exact⟨(fin w0 g9 (λn=>0),vn),(bR (a:=[]) (b:=aY g p) (λ(z0:List Nat) (z1:Int)=>Ending.returned (vt [vn,vi z1])) e0 e1),bH.fresh _,(e0▸Ow.nil)⟩
end TL
