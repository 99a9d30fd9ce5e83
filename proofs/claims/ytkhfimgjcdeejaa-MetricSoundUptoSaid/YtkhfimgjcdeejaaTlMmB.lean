import Derived.Test.YtkhfimgjcdeejaaTlP3
import Derived.Test.YtkhfimgjcdeejaaTlGmA
import Derived.Test.YtkhfimgjcdeejaaTlGenA
import Derived.Test.YtkhfimgjcdeejaaTlGjC
import Derived.Test.YtkhfimgjcdeejaaTlMmA
import Derived.Test.YtkhfimgjcdeejaaProg
import Derived.Test.YtkhfimgjcdeejaaTlAli
set_option linter.all false
set_option maxRecDepth 20000
namespace TL
open Go Go.Proofs
theorem np:Try.prog.follows .mixedOrders=true:=by kernel_rfl
theorem aX:Tp Try.prog 30 false 1 8 (.float .f64 0):=Tp.of (by kernel_rfl)
theorem jU:Try.f22.body.isNone=false:=rfl
theorem jS:(Try.f22.name== "runtime.NumGoroutine")=false:=by decide+kernel
theorem pp:Try.f23.body.isNone=false:=rfl
theorem oS:(Try.f23.name== "runtime.NumGoroutine")=false:=by decide+kernel
theorem qi:Try.f25.body.isNone=false:=rfl
theorem q9:(Try.f25.name== "runtime.NumGoroutine")=false:=by decide+kernel
theorem un:Try.f36.body.isNone=false:=rfl
theorem tE:(Try.f36.name== "runtime.NumGoroutine")=false:=by decide+kernel
theorem cK:Try.f46.body.isNone=false:=rfl
theorem cJ:(Try.f46.name== "runtime.NumGoroutine")=false:=by decide+kernel
theorem ef:Try.f47.body.isNone=false:=rfl
theorem e8:(Try.f47.name== "runtime.NumGoroutine")=false:=by decide+kernel
theorem qN(w0:World)(line:List Pt)(line_v:Value)(hline_v:Ro w0 line_v line)(hok:dy line)(h2:2<=(line.length:Int)):
    Calls Try.prog 36 #[line_v] w0 (λee w=>ee= .returned (Value.float .f64 (el line))/\cW w0.heap.size w0 w):=by
 refine aI Try.func36 rfl nq ?_
 have bH:=bo.start w0
 have Rline:=hline_v.sl
 obtain⟨hl1,hl2⟩:=hok
 refine a6 (a5 rfl (ma (Value.float .f64 0) (a8 (a6 (bv c0 rfl np (by kernel_rfl) ?_)))))
 intro w2 ch1
 refine qm line_v ?_
 replace Rline:=Rline.cn ch1
 refine qx (λw' hw'=>ab (v:=line_v) (i:=0) bZ rfl rfl (Rline.bel hw') rfl (by omega) (by omega)) (qv (vg [vi ((gI line 0).1),vi ((gI line 0).2)]) (λw' hw'=>aM (v:=line_v) (i:=0) ah rfl (Rline.bel hw') (by omega) (by omega) rfl) (qm line_v (qx (λw' hw'=>ab (v:=line_v) (i:=1) bZ rfl rfl (Rline.bel hw') rfl (by omega) (by omega)) (qv (vg [vi ((gI line 1).1),vi ((gI line 1).2)]) (λw' hw'=>aM (v:=line_v) (i:=1) ah rfl (Rline.bel hw') (by omega) (by omega) rfl) ?_))))
 refine cb (v:=Value.float .f64 (bC (gI line 0) (gI line 1))) rfl (λw' hw'=>az (vals:=[vg [vi ((gI line 0).1),vi ((gI line 0).2)],vg [vi ((gI line 1).1),vi ((gI line 1).2)]]) Try.func47 ef e8 rfl) (λw' hw'=>(cZ w' (gI line 0) (gI line 1) (by exact hl2 _ (ba (by omega) (by omega))) (by exact hl2 _ (ba (by omega) (by omega)))).mono λe w2 h2=>⟨h2.1,hw'.trans (h2.2.mono hw'.size)⟩) (cb (v:=Value.float .f64 (aJ (bC (gI line 0) (gI line 1)))) rfl (λw' hw'=>az (vals:=[Value.float .f64 (bC (gI line 0) (gI line 1))]) Try.func46 cK cJ rfl) (λw' hw'=>(cI w' (bC (gI line 0) (gI line 1)) (by exact cY _ _)).mono λe w2 h2=>⟨h2.1,hw'.trans (h2.2.mono hw'.size)⟩) ?_)
 refine qv (Value.float .f64 (aJ (bC (gI line 0) (gI line 1)))) (λw' hw'=>bi rfl) (bM ?_)
 intro w3 hc4
 replace hc4:=aj hc4 c0
 refine a6 (a6 (a5 rfl (ai 2 (a8 (ao ?_)))))
 refine bf (σ:=Fb×Nat×aW) (λ⟨sum,i,gq⟩ f w=>bo w0 gq w/\f 0=line_v/\f 3=Value.float .f64 sum/\f 4=vi ↑i/\Sl gq (is 0) w line_v line/\(i:Int)<=((line.length:Int):Int)/\((sum=iD line (i-2)/\2<=i)/\i<=line.length)) (λ⟨sum,i,gq⟩=>line.length-i) (aJ (bC (gI line 0) (gI line 1)),2,c0) ?_ ?_
 replace bH:=bH.cn ch1
 · exact⟨bH.cn hc4,rfl,rfl,rfl,Rline.cn hc4,by omega,by exact⟨⟨rfl,by omega⟩,by omega⟩⟩
 clear Rline bH
 rintro⟨sum,i,g7⟩ f5 w6 ⟨bH,zs0,zs3,zs4,Rline,hle_i,hinv⟩ back3
 have hi2:=hinv.1.2
 have hsn:sum<=br:=by rw[hinv.1.1];exact m9 _ _
 refine a6 (a6 (a5 rfl (mz zs4 (mz zs0 ?_))))
 have len8:=(Rline).small
 refine lx (bE bZ rfl Rline) (lx (b6 (m:=↑i) (n:=(line.length:Int)) rfl rfl) (a8 ?_))
 by_cases p3:(i:Int)<(line.length:Int)
 ·
  refine ae rfl (dt p3) (am (a6 (ao (bv g7 rfl np (by kernel_rfl) ?_))))
  intro w10 ch9
  refine qz zs3 (qz zs0 (qz zs4 (qx (λw' hw'=>cX (m:=↑i) (n:=1) rfl rfl (by omega)) ?_)))
  replace Rline:=Rline.cn ch9
  refine qx (λw' hw'=>ab (v:=line_v) (i:=(i:Int)-1) bZ rfl rfl (Rline.bel hw') rfl (by omega) (by omega)) (qv (vg [vi ((gI line ((i:Int)-1)).1),vi ((gI line ((i:Int)-1)).2)]) (λw' hw'=>aM (v:=line_v) (i:=(i:Int)-1) ah rfl (Rline.bel hw') (by omega) (by omega) rfl) (qz zs0 (qz zs4 (qx (λw' hw'=>ab (v:=line_v) (i:=↑i) bZ rfl rfl (Rline.bel hw') rfl (by omega) (by omega)) (qv (vg [vi ((gI line ↑i).1),vi ((gI line ↑i).2)]) (λw' hw'=>aM (v:=line_v) (i:=↑i) ah rfl (Rline.bel hw') (by omega) (by omega) rfl) ?_)))))
  refine cb (v:=Value.float .f64 (bC (gI line ((i:Int)-1)) (gI line ↑i))) rfl (λw' hw'=>az (vals:=[vg [vi ((gI line ((i:Int)-1)).1),vi ((gI line ((i:Int)-1)).2)],vg [vi ((gI line ↑i).1),vi ((gI line ↑i).2)]]) Try.func47 ef e8 rfl) (λw' hw'=>(cZ w' (gI line ((i:Int)-1)) (gI line ↑i) (by exact hl2 _ (ba (by omega) (by omega))) (by exact hl2 _ (ba (by omega) (by omega)))).mono λe w2 h2=>⟨h2.1,hw'.trans (h2.2.mono hw'.size)⟩) ?_
  refine cb (v:=Value.float .f64 (aJ (bC (gI line ((i:Int)-1)) (gI line ↑i)))) rfl (λw' hw'=>az (vals:=[Value.float .f64 (bC (gI line ((i:Int)-1)) (gI line ↑i))]) Try.func46 cK cJ rfl) (λw' hw'=>(cI w' (bC (gI line ((i:Int)-1)) (gI line ↑i)) (by exact cY _ _)).mono λe w2 h2=>⟨h2.1,hw'.trans (h2.2.mono hw'.size)⟩) (qv (Value.float .f64 (dS sum (aJ (bC (gI line ((i:Int)-1)) (gI line ↑i))))) (λw' hw'=>oc (a:=sum) (b:=(aJ (bC (gI line ((i:Int)-1)) (gI line ↑i)))) rfl rfl (gC ‹_› (by exact(iQ (cY _ _)).2)).1) ?_)
  have nn11:dS sum (aJ (bC (gI line ((i:Int)-1)) (gI line ↑i)))<=br:=(gC (x:=sum) (y:=(aJ (bC (gI line ((i:Int)-1)) (gI line ↑i)))) ‹_› (by exact(iQ (cY _ _)).2)).2
  refine qv (Value.float .f64 (dS sum (aJ (bC (gI line ((i:Int)-1)) (gI line ↑i))))) (λw' hw'=>bi rfl) (bM ?_)
  intro w12 hc13
  replace hc13:=aj hc13 g7
  refine ak (a5 rfl (mz zs4 (lx (aQ (m:=↑i) (n:=1) rfl rfl (by omega)) (ai ((i:Int)+1) (a8 ?_)))))
  replace bH:=bH.cn ch9
  refine back3 (dS sum (aJ (bC (gI line ((i:Int)-1)) (gI line ↑i))),i+1,g7) _ _ ⟨bH.cn hc13,zs0,rfl,rfl,Rline.cn hc13,by omega,?_⟩ ?_
  · show((dS sum (aJ (bC (gI line ((i:Int)-1)) (gI line ↑i))))=iD line ((i+1)-2)/\2<=(i+1))/\(i+1)<=line.length
    exact⟨sd hinv.1,by omega⟩
  · show line.length-(i+1)<line.length-i
    omega
 refine af rfl (df p3) (aO rfl (a6 (a5 rfl (mz zs3 (ma (Value.float .f64 sum) (a8 (av (vs:=[Value.float .f64 sum]) Try.func36 (.tmp rfl .nil) ?_)))))))
 have e0:(sum:Nat)=(el line):=by
   exact ur hinv.1 ‹_› (by omega) (by omega)
 exact⟨(congrArg (a₁:=sum) (λ(z0:Nat)=>Ending.returned (Value.float .f64 z0)) e0),bH.below⟩
theorem kG(w0:World)(p:(List Pt)×(List (List Pt)))(p_v p_v1:Value)(hp_v:Ro w0 p_v p.1)(hp_v1:Ro w0 p_v1 p.2)(hok:∀e:Int,0<=e->e<p.2.length->dy (gI p.2 e)/\2<=((gI p.2 e).length:Int))(hn:(p.2.length:Int)<=1048576):
    Calls Try.prog 23 #[vg [p_v,p_v1]] w0 (λee w=>∃xx:aW×Value,ee= .returned ((λ⟨δ,rv0⟩=>rv0) xx)/\(λ(⟨δ,rv0⟩:aW×Value) (w:World)=>gw w0 δ w/\Ow δ (is 1) (is 1) w rv0 (aT p)) xx w):=by
 refine aI Try.func23 rfl nq ?_
 have bH:=bo.start w0
 have Rp:=hp_v.sl
 have r_p_v1:=hp_v1.sl
 refine a6 (a5 rfl (cj rfl (bA c0 (is 1) (1,0) rfl rfl ?_)))
 intro g4 w1 b3 ch2 bx5
 replace bx5:Bx g4 (is 1) w1 b3 [p_v,p_v1]:=bx5
 refine ma vn (a8 (a6 (a5 rfl (ma vn (a8 (a6 (a6 (a5 rfl (lx (a7 dn rfl rfl rfl rfl) (lx (a9 ci rfl bx5 rfl) ?_))))))))))
 replace r_p_v1:=r_p_v1.cn ch2
 have len6:=(r_p_v1).small
 refine lx (bE eP rfl r_p_v1) (mi 0 (a8 (ao ?_)))
 clear bx5
 refine bf (σ:=Value×(List Nat)×Nat×aW) (λ⟨l_v,l,k,gq⟩ f w=>bo w0 gq w/\f 3=l_v/\f 7=p_v1/\f 8=vi (p.2.length:Int)/\f 9=vi ↑k/\Sl gq (is 0) w p_v p.1/\Sl gq (is 0) w p_v1 p.2/\Ow gq (is 3) (is 3) w l_v l/\(k:Int)<=((p.2.length:Int):Int)/\(l=(p.2.take k).map el)) (λ⟨l_v,l,k,gq⟩=>Int.toNat (((p.2.length:Int):Int)-(k:Int))) (vn,[],0,g4) ?_ ?_
 · exact⟨bH.cn ch2,rfl,rfl,rfl,rfl,Rp.cn ch2,r_p_v1,Ow.nil,by omega,by rfl⟩
 clear Rp r_p_v1 bH
 rintro⟨l_v,l,k,g9⟩ f7 w8 ⟨bH,zs3,zs7,zs8,zs9,Rp,r_p_v1,o_l,hle_k,hinv⟩ back3
 have hll:l.length<=k:=by rw[hinv,List.length_map,List.length_take];omega
 refine a6 (a5 rfl (lx (b6 (m:=↑k) (n:=(p.2.length:Int)) zs9 zs8) (a8 (a6 ?_))))
 by_cases p3:(k:Int)<(p.2.length:Int)
 ·
  refine ae rfl (dt p3) (am (a6 (ao (a6 (a5 rfl (lx (ab (v:=p_v1) (i:=↑k) eP rfl zs7 r_p_v1 zs9 (by omega) (by omega)) ?_))))))
  obtain⟨v10,cel11,r12⟩:=cN (r:=(k:Int)) r_p_v1 (by omega) (by omega)
  refine lx (aZ bt rfl cel11) (ma v10 (a8 (a5 rfl (mz zs3 (mv v10 (lo (aN (v:=Value.float .f64 (el (gI p.2 ↑k))) (az (vals:=[v10]) Try.func36 un tE rfl) (qN w8 (gI p.2 ↑k) v10 (r12).ro (by exact(hok _ (by omega) (by omega)).1) (by exact(hok _ (by omega) (by omega)).2)) ?_)))))))
  intro w13 hb14
  replace hb14:=aj hb14 g9
  refine lo (aC (α:=Nat) g9 (is 2) (is 2) (2,0) rfl [el (gI p.2 ↑k)] tL aX (by decide) (by decide) (vs:=[(0,Value.float .f64 (el (gI p.2 ↑k)))]) rfl rfl (.cons rfl .nil) ?_)
  intro g15 w16 v17 ch18 o19
  refine lo ?_
  replace o_l:=(o_l.cn hb14).cn ch18
  refine b9 (α:=Nat) (xs:=l) (ys:=([el (gI p.2 ↑k)])) g15 (J:=is 3) (S:=is 3) (3,0) rfl tL aX (by decide) rfl rfl rfl o_l o19.flat (by decide) (by(simp;omega)) ?_
  intro g20 w21 v22 ch23 o24
  clear o_l
  refine ma v22 (a8 (ak ?_))
  clear r12 o19
  refine a5 rfl (lx (aQ (m:=↑k) (n:=1) zs9 rfl (by omega)) (mi ((k:Int)+1) (a8 ?_)))
  have C25:=cg [3] (hb14.n.seq (ch18.n.seq (ch23.l rfl)))
  refine back3 (v22,(l++[el (gI p.2 ↑k)]),k+1,g20) _ _ ⟨bH.ca C25,rfl,zs7,zs8,rfl,Rp.ca C25,r_p_v1.ca C25,o24,by omega,?_⟩ ?_
  · show(l++[el (gI p.2 ↑k)])=(p.2.take (k+1)).map el
    exact qT hinv (by omega)
  · show Int.toNat (((p.2.length:Int):Int)-((k+1):Int))<Int.toNat (((p.2.length:Int):Int)-(k:Int))
    omega
 refine af rfl (df p3) (aO rfl (a6 (a5 rfl (mz zs3 (ma l_v (a8 (av (vs:=[l_v]) Try.func23 (.tmp rfl .nil) ?_)))))))
 have e0:(l:List Nat)=(aT p):=by
   exact s9 hinv (by omega)
 exact⟨(kQ w0 g9 (λn=>if n=3 then 1 else 0),l_v),(congrArg (a₁:=l) (λ(z0:List Nat)=>Ending.returned (l_v)) e0),bH.fresh _,(e0▸(o_l.glue (γ:=c0) (ren:=(λn=>if n=3 then 1 else 0)) (k:=1) bH.col rfl rfl))⟩
theorem i5(w0:World)(g:(Int)×(List Pt))(g_v:Value)(hg_v:Ro w0 g_v g.2)(p:(List Pt)×(List (List Pt)))(p_v p_v1:Value)(hp_v:Ro w0 p_v p.1)(hp_v1:Ro w0 p_v1 p.2):
    Calls Try.prog 22 #[vg [vi g.1,g_v],vg [p_v,p_v1]] w0 (λee w=>ee= .returned (vi (bl g p))/\cW w0.heap.size w0 w):=by
 refine aI Try.func22 rfl nq ?_
 have bH:=bo.start w0
 have Rg:=hg_v.sl
 have Rp:=hp_v.sl
 have r_p_v1:=hp_v1.sl
 refine a6 (a5 rfl (cj rfl (bA c0 (is 1) (1,0) rfl rfl ?_)))
 intro g4 w1 b3 ch2 bx5
 replace bx5:Bx g4 (is 1) w1 b3 [vi g.1,g_v]:=bx5
 refine lo (bA g4 (is 2) (2,0) rfl rfl ?_)
 intro g9 w6 b8 ch7 bx10
 replace bx10:Bx g9 (is 2) w6 b8 [p_v,p_v1]:=bx10
 refine ai 0 (a8 (a6 (a6 (a5 rfl ?_))))
 replace bx5:=bx5.cn ch7
 refine lx (ad (ds:=[vi g.1,g_v]) bO rfl bx5 rfl rfl) ?_
 replace Rg:=(Rg.cn ch2).cn ch7
 refine lo (aN (v:=vb (dm g)) (az (vals:=[vg [vi g.1,g_v]]) Try.func35 pb pR rfl) (rz w6 g g_v (Rg).ro) ?_)
 intro w11 hb12
 replace hb12:=aj hb12 g9
 refine lx (cm (b:=(dm g)) rfl) (a8 ?_)
 by_cases p1:(dm g)=true
 ·
  have hm:=of_decide_eq_true p1
  refine af rfl (congrArg Bool.not p1) (am (a6 (a5 rfl ?_)))
  replace bx5:=bx5.cn hb12
  refine lx (ad (ds:=[vi g.1,g_v]) bO rfl bx5 rfl rfl) ?_
  replace bx10:=bx10.cn hb12
  refine lx (ad (ds:=[p_v,p_v1]) bJ rfl bx10 rfl rfl) ?_
  replace Rg:=Rg.cn hb12
  have C13:=cg [] (ch2.n.seq (ch7.n.seq hb12.n))
  replace Rp:=Rp.ca C13
  replace r_p_v1:=r_p_v1.ca C13
  refine lo (aN (v:=vt [vg [vi (((ag g p).1).1),vi ((((ag g p).1).2).1),vi (((((ag g p).1).2).2).1),vb ((((((ag g p).1).2).2).2).1),vb ((((((ag g p).1).2).2).2).2)],vi ((ag g p).2)]) (az (vals:=[vg [vi g.1,g_v],vg [p_v,p_v1]]) Try.func25 qi q9 rfl) (nu w11 g g_v (Rg).ro p p_v p_v1 (Rp).ro (r_p_v1).ro) ?_)
  intro w14 hb15
  replace hb15:=aj hb15 g9
  refine mv (vt [vg [vi (((ag g p).1).1),vi ((((ag g p).1).2).1),vi (((((ag g p).1).2).2).1),vb ((((((ag g p).1).2).2).2).1),vb ((((((ag g p).1).2).2).2).2)],vi ((ag g p).2)]) (lx (b5 rfl rfl) (lx (b5 rfl rfl) (lo (bB g9 (is 3) (3,0) rfl dd ?_))))
  intro g19 w16 b18 ch17 bx20
  replace bx20:Bx g19 (is 3) w16 b18 [vi 0,vi 0,vi 0,vb false,vb false]:=bx20
  refine lo (au (cs':=[vi (((ag g p).1).1),vi ((((ag g p).1).2).1),vi (((((ag g p).1).2).2).1),vb ((((((ag g p).1).2).2).2).1),vb ((((((ag g p).1).2).2).2).2)]) dd rfl rfl bx20 rfl nq (AllOne.all (.cons rfl (.cons rfl (.cons rfl (.cons rfl (.cons rfl .nil)))))) rfl ?_)
  intro w21 ch22 bx23
  clear bx20
  refine ai ((ag g p).2) (a8 (a6 ?_))
  clear bx5 bx10 bx23
  refine a5 rfl (mi ((ag g p).2) (ai ((ag g p).2) (a8 (av (vs:=[vi ((ag g p).2)]) Try.func22 (.tmp rfl .nil) ?_))))
  have e0:((ag g p).2:Int)=(bl g p):=by
    exact(lD hm).symm
  have C24:=cg [3] (ch2.n.seq (ch7.n.seq (hb12.n.seq (hb15.n.seq (ch17.n.seq (ch22.l rfl))))))
  replace bH:=bH.ca C24
  exact⟨ri e0,bH.below⟩
 have hm:¬dp g:=λh=>p1 (dt h)
 refine ae rfl (congrArg Bool.not (Bool.eq_false_iff.2 p1)) (a6 ?_)
 clear bx5 bx10
 refine a5 rfl (ai 1 (a8 (av (vs:=[vi 1]) Try.func22 (.tmp rfl .nil) ?_)))
 have e0:(1:Int)=(bl g p):=by
   exact(oJ hm).symm
 have C25:=cg [] (ch2.n.seq (ch7.n.seq hb12.n))
 replace bH:=bH.ca C25
 exact⟨ri e0,bH.below⟩
theorem nY(w0:World)(g:(Int)×(List Pt))(g_v:Value)(hg_v:Ro w0 g_v g.2)(p:(List Pt)×(List (List Pt)))(p_v p_v1:Value)(hp_v:Ro w0 p_v p.1)(hp_v1:Ro w0 p_v1 p.2):
    Calls Try.prog 21 #[vg [vi g.1,g_v],vg [p_v,p_v1]] w0 (λee w=>∃xx:aW×Value,ee= .returned ((λ⟨δ,rv0⟩=>vt [rv0,vi ((bP g p).2)]) xx)/\(λ(⟨δ,rv0⟩:aW×Value) (w:World)=>gw w0 δ w/\Ow δ (is 1) (is 1) w rv0 ((bP g p).1)) xx w):=by
 refine aI Try.func21 rfl nq ?_
 have bH:=bo.start w0
 have Rg:=hg_v.sl
 have Rp:=hp_v.sl
 have r_p_v1:=hp_v1.sl
 refine a6 (a5 rfl (cj rfl (bA c0 (is 1) (1,0) rfl rfl ?_)))
 intro g4 w1 b3 ch2 bx5
 replace bx5:Bx g4 (is 1) w1 b3 [vi g.1,g_v]:=bx5
 refine lo (bA g4 (is 2) (2,0) rfl rfl ?_)
 intro g9 w6 b8 ch7 bx10
 replace bx10:Bx g9 (is 2) w6 b8 [p_v,p_v1]:=bx10
 refine ma vn (ai 0 (a8 (a6 (a6 (a5 rfl ?_)))))
 replace bx5:=bx5.cn ch7
 refine lx (ad (ds:=[vi g.1,g_v]) bO rfl bx5 rfl rfl) (lx (ad (ds:=[p_v,p_v1]) bJ rfl bx10 rfl rfl) ?_)
 replace Rg:=(Rg.cn ch2).cn ch7
 replace Rp:=(Rp.cn ch2).cn ch7
 replace r_p_v1:=(r_p_v1.cn ch2).cn ch7
 refine lo (aN (v:=vi (bl g p)) (az (vals:=[vg [vi g.1,g_v],vg [p_v,p_v1]]) Try.func22 jU jS rfl) (i5 w6 g g_v (Rg).ro p p_v p_v1 (Rp).ro (r_p_v1).ro) ?_)
 intro w11 hb12
 replace hb12:=aj hb12 g9
 refine ai (bl g p) (a8 (a6 ?_))
 clear bx5
 refine a5 rfl (mi (bl g p) (lx (dz (m:=bl g p) (n:=0) rfl rfl) (a8 ?_)))
 by_cases p2:(bl g p)=0
 ·
  have hf0:bl g p=0:=p2
  obtain⟨hm,hs,hlp⟩:=ey hf0
  have hs2:=hs.m
  have hm0:=hm
  obtain⟨hm1,hm2,hm3,hm4⟩:=hm0
  refine af rfl (congrArg Bool.not (dt p2)) (am (a6 (a5 rfl ?_)))
  replace bx10:=bx10.cn hb12
  refine lx (ad (ds:=[p_v,p_v1]) bJ rfl bx10 rfl rfl) ?_
  replace Rp:=Rp.cn hb12
  replace r_p_v1:=r_p_v1.cn hb12
  refine lo (d5 (az (vals:=[vg [p_v,p_v1]]) Try.func23 pp oS rfl) (kG w11 p p_v p_v1 (Rp).ro (r_p_v1).ro (by exact λe h0 h1=>⟨(hs.ln e h0 h1).2,(hs.ln e h0 h1).1⟩) (by omega)) ?_)
  rintro⟨d14,v16⟩ w13 ⟨fr15,o17⟩
  obtain⟨g18,ch19,G18⟩:=ny g9 fr15 (λn=>if n=1 then 3 else 0)
  replace o17:=o17.gl G18 3
  refine ma v16 (ai 0 (a8 (av (vs:=[v16,vi 0]) Try.func21 (.tmp rfl (.tmp rfl .nil)) ?_)))
  have C20:=cg [] (ch2.n.seq (ch7.n.seq (hb12.n.seq ch19.n)))
  replace bH:=bH.ca C20
  have e0:(aT p:List Nat)=((bP g p).1):=by
    (unfold bP;rw[if_pos hf0];done)
  have e1:(0:Int)=((bP g p).2):=by
    (unfold bP;rw[if_pos hf0];done)
  exact⟨(kQ w0 g18 (λn=>if n=3 then 1 else 0),v16),(co (a:=aT p) (b:=0) (λ(z0:List Nat) (z1:Int)=>Ending.returned (vt [v16,vi z1])) e0 e1),bH.fresh _,(e0▸(o17.glue (γ:=c0) (ren:=(λn=>if n=3 then 1 else 0)) (k:=1) bH.col rfl rfl))⟩
 refine ae rfl (congrArg Bool.not (df p2)) (a6 ?_)
 clear bx10
 refine a5 rfl (mi (bl g p) (ma vn (ai (bl g p) (a8 (av (vs:=[vn,vi (bl g p)]) Try.func21 (.tmp rfl (.tmp rfl .nil)) ?_)))))
 have C21:=cg [] (ch2.n.seq (ch7.n.seq hb12.n))
 replace bH:=bH.ca C21
 have e0:([]:List Nat)=((bP g p).1):=by
   (unfold bP;rw[if_neg p2];done)
 have e1:(bl g p:Int)=((bP g p).2):=by
   (unfold bP;rw[if_neg p2];done)
 exact⟨(kQ w0 g9 (λn=>0),vn),(co (a:=[]) (b:=bl g p) (λ(z0:List Nat) (z1:Int)=>Ending.returned (vt [vn,vi z1])) e0 e1),bH.fresh _,(e0▸Ow.nil)⟩
end TL
