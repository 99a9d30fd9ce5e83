import Derived.Test.YtkhfimgjcdeejaaTlP2
import Derived.Test.YtkhfimgjcdeejaaTlGmA
import Derived.Test.YtkhfimgjcdeejaaTlGmM
import Derived.Test.YtkhfimgjcdeejaaTlGenA
import Derived.Test.YtkhfimgjcdeejaaTlGdA
import Derived.Test.YtkhfimgjcdeejaaTlGjC
import Derived.Test.YtkhfimgjcdeejaaTlMmA
import Derived.Test.YtkhfimgjcdeejaaTlMmB
import Derived.Test.YtkhfimgjcdeejaaTlMsB
import Derived.Test.YtkhfimgjcdeejaaProg
import Derived.Test.YtkhfimgjcdeejaaTlAli
set_option linter.all false
set_option maxRecDepth 20000
namespace TL
open Go Go.Proofs
theorem oW:Try.f28.body.isNone=false:=rfl
theorem qe:(Try.f28.name== "runtime.NumGoroutine")=false:=by decide+kernel
theorem jr(w0:World)(g:(Int)×(List Pt))(g_v:Value)(hg_v:Ro w0 g_v g.2)(p:(List Pt)×(List (List Pt)))(p_v p_v1:Value)(hp_v:Ro w0 p_v p.1)(hp_v1:Ro w0 p_v1 p.2):
    Calls Try.prog 13 #[vg [vi g.1,g_v],vg [p_v,p_v1]] w0 (λee w=>ee= .returned (vt [vi ((bZ g p).1),vi ((bZ g p).2)])/\cG w0.heap.size w0 w):=by
 refine aK Try.func13 rfl nq ?_
 have bH:=bu.start w0
 have Rg:=hg_v.sl
 have Rp:=hp_v.sl
 have r_p_v1:=hp_v1.sl
 refine a8 (a7 rfl (cN rfl (bC c0 (is 1) (1,0) rfl rfl ?_)))
 intro g4 w1 b3 ch2 bx5
 replace bx5:Bx g4 (is 1) w1 b3 [vi g.1,g_v]:=bx5
 refine lo (bC g4 (is 2) (2,0) rfl rfl ?_)
 intro g9 w6 b8 ch7 bx10
 replace bx10:Bx g9 (is 2) w6 b8 [p_v,p_v1]:=bx10
 refine ai 0 (ai 0 (ab (a8 (a8 (a7 rfl ?_)))))
 replace bx5:=bx5.cn ch7
 refine lx (ae (ds:=[vi g.1,g_v]) bS rfl bx5 rfl rfl) (lx (ae (ds:=[p_v,p_v1]) bP rfl bx10 rfl rfl) ?_)
 replace Rg:=(Rg.cn ch2).cn ch7
 replace Rp:=(Rp.cn ch2).cn ch7
 replace r_p_v1:=(r_p_v1.cn ch2).cn ch7
 refine lo (aP (v:=vi (aY g p)) (aG (vals:=[vg [vi g.1,g_v],vg [p_v,p_v1]]) Try.func22 i5 ic rfl) (fv w6 g g_v (Rg).ro p p_v p_v1 (Rp).ro (r_p_v1).ro) ?_)
 intro w11 hb12
 replace hb12:=am hb12 g9
 refine ai (aY g p) (ab (a8 (a7 rfl (mi (aY g p) (lx (fM (m:=aY g p) (n:=0) rfl rfl) (ab ?_))))))
 by_cases p2:(aY g p)=0
 ·
  have hf0:aY g p=0:=p2
  obtain⟨hm,hs,hlp⟩:=eH hf0
  have hs2:=hs.m
  have hm0:=hm
  obtain⟨hm1,hm2,hm3,hm4⟩:=hm0
  refine ah rfl (congrArg Bool.not (dt p2)) (au (a8 (a7 rfl (ai 0 (ab (a8 (a8 (a7 rfl (lx (a9 fO rfl rfl rfl rfl) ?_)))))))))
  replace bx5:=bx5.cn hb12
  refine lx (aa cO rfl bx5 rfl) ?_
  replace Rg:=Rg.cn hb12
  have len13:=(Rg).small
  refine lx (bO iJ rfl Rg) (mi 0 (ab (aC ?_)))
  refine bF (σ:=Int×Nat×aV) (λ⟨n,i,gq⟩ f w=>bu w0 gq w/\f 2=vp b3 0/\f 3=vp b8 0/\f 7=vi n/\f 18=vi (g.2.length:Int)/\f 19=vi ↑i/\Sl gq (is 0) w g_v g.2/\Sl gq (is 0) w p_v p.1/\Sl gq (is 0) w p_v1 p.2/\Bx gq (is 1) w b3 [vi g.1,g_v]/\Bx gq (is 2) w b8 [p_v,p_v1]/\(i:Int)<=((g.2.length:Int):Int)/\(n=jP g p g.2.length i)) (λ⟨n,i,gq⟩=>Int.toNat (((g.2.length:Int):Int)-(i:Int))) (0,0,g9) ?_ ?_
  have C14:=cg [] (ch2.n.seq (ch7.n.seq hb12.n))
  · exact⟨bH.ca C14,rfl,rfl,rfl,rfl,rfl,Rg,Rp.cn hb12,r_p_v1.cn hb12,bx5,bx10.cn hb12,by omega,by rfl⟩
  clear Rg Rp r_p_v1 bx5 bx10 bH
  rintro⟨n,i,g17⟩ f15 w16 ⟨bH,zs2,zs3,zs7,zs18,zs19,Rg,Rp,r_p_v1,bx5,bx10,hle_i,hn⟩ back6
  have hnb:=o7 (g:=g) (p:=p) (m:=g.2.length) (by omega) i
  refine a8 (a7 rfl (lx (bc (m:=↑i) (n:=(g.2.length:Int)) zs19 zs18) (ab (a8 ?_))))
  by_cases p6:(i:Int)<(g.2.length:Int)
  ·
   refine ag rfl (dt p6) (au (a8 (aC (a8 (a7 rfl (mz zs19 (ai (i:Int) (ab (a8 (a7 rfl (mi ↑i (lx (ba (m:=↑i) (n:=1) rfl rfl (by omega)) ?_))))))))))))
   refine ai ((i:Int)+1) (ab (aC ?_))
   refine bF (σ:=Int×Nat×aV) (λ⟨c,k,gq⟩ f w=>bu w0 gq w/\f 2=vp b3 0/\f 3=vp b8 0/\f 7=vi c/\f 8=vi ↑i/\f 9=vi ↑k/\f 18=vi (g.2.length:Int)/\f 19=vi ↑i/\Sl gq (is 0) w g_v g.2/\Sl gq (is 0) w p_v p.1/\Sl gq (is 0) w p_v1 p.2/\Bx gq (is 1) w b3 [vi g.1,g_v]/\Bx gq (is 2) w b8 [p_v,p_v1]/\(k:Int)<=((g.2.length:Int):Int)/\((c=jP g p g.2.length i+jW g p i k/\i<k)/\k<=g.2.length)) (λ⟨c,k,gq⟩=>g.2.length-k) (n,i+1,g17) ?_ ?_
   · exact⟨bH,zs2,zs3,zs7,rfl,rfl,zs18,zs19,Rg,Rp,r_p_v1,bx5,bx10,by omega,by exact⟨⟨by rw[hn,mo _ (by omega)];omega,by omega⟩,by omega⟩⟩
   clear Rg Rp r_p_v1 bx5 bx10 bH
   rintro⟨c,k,g20⟩ f18 w19 ⟨bH,zs2,zs3,zs7,zs8,zs9,zs18,zs19,Rg,Rp,r_p_v1,bx5,bx10,hle_k,hn2⟩ back9
   have hcb:=kQ (g:=g) (p:=p) (e:=i) k
   have hn1:=hn2.1.1
   have hnk:=hn2.1.2
   refine a8 (a8 (a7 rfl (mz zs9 (lx (a9 fO rfl rfl zs2 rfl) (lx (aa cO rfl bx5 rfl) (lx (bO iJ rfl Rg) (lx (bc (m:=↑k) (n:=(g.2.length:Int)) rfl rfl) (ab ?_))))))))
   by_cases p9:(k:Int)<(g.2.length:Int)
   ·
    refine ag rfl (dt p9) (au (a8 (aC (a8 (a7 rfl (lx (ae (ds:=[vi g.1,g_v]) bS zs2 bx5 rfl rfl) (lx (ae (ds:=[p_v,p_v1]) bP zs3 bx10 rfl rfl) (mz zs8 (mz zs9 (lo ?_))))))))))
    refine aP (v:=vb (decide (mX g p (i:Int) (k:Int)))) (aG (vals:=[vg [vi g.1,g_v],vg [p_v,p_v1],vi ↑i,vi ↑k]) Try.func28 oW qe rfl) (mP w19 g g_v (Rg).ro p p_v p_v1 (Rp).ro (r_p_v1).ro (i:Int) (k:Int) ‹_› ‹_› (by exact⟨by omega,by omega⟩) (by exact⟨by omega,by omega⟩)) ?_
    intro w21 hb22
    replace hb22:=am hb22 g20
    refine ab ?_
    by_cases p11:(decide (mX g p (i:Int) (k:Int)))=true
    ·
     refine ag rfl p11 (a7 rfl (mz zs7 (lx (ba (m:=c) (n:=1) rfl rfl (by omega)) (ai (c+1) (ab (ap (a7 rfl (mz zs9 (lx (ba (m:=↑k) (n:=1) rfl rfl (by omega)) ?_)))))))))
     refine ai ((k:Int)+1) (ab ?_)
     refine back9 (c+1,k+1,g20) _ _ ⟨bH.cn hb22,zs2,zs3,rfl,zs8,rfl,zs18,zs19,Rg.cn hb22,Rp.cn hb22,r_p_v1.cn hb22,bx5.cn hb22,bx10.cn hb22,by omega,?_⟩ ?_
     · show((c+1)=jP g p g.2.length i+jW g p i (k+1)/\i<(k+1))/\(k+1)<=g.2.length
       exact⟨tf hn2.1 ‹_›,by omega⟩
     · show g.2.length-(k+1)<g.2.length-k
       omega
    refine ah rfl (Bool.eq_false_iff.2 p11) (au (ap (a7 rfl (mz zs9 (lx (ba (m:=↑k) (n:=1) rfl rfl (by omega)) (ai ((k:Int)+1) (ab ?_)))))))
    refine back9 (c,k+1,g20) _ _ ⟨bH.cn hb22,zs2,zs3,zs7,zs8,rfl,zs18,zs19,Rg.cn hb22,Rp.cn hb22,r_p_v1.cn hb22,bx5.cn hb22,bx10.cn hb22,by omega,?_⟩ ?_
    · show(c=jP g p g.2.length i+jW g p i (k+1)/\i<(k+1))/\(k+1)<=g.2.length
      exact⟨td hn2.1 ‹_›,by omega⟩
    · show g.2.length-(k+1)<g.2.length-k
      omega
   refine ah rfl (df p9) (aQ rfl (ap (a7 rfl (lx (ba (m:=↑i) (n:=1) zs19 rfl (by omega)) (mi ((i:Int)+1) (ab ?_))))))
   refine back6 (c,i+1,g20) _ _ ⟨bH,zs2,zs3,zs7,zs18,rfl,Rg,Rp,r_p_v1,bx5,bx10,by omega,?_⟩ ?_
   · show c=jP g p g.2.length (i+1)
     (show _=jP g p g.2.length i+jW g p i g.2.length;rw[hn2.1.1,show k=g.2.length by omega])
   · show Int.toNat (((g.2.length:Int):Int)-((i+1):Int))<Int.toNat (((g.2.length:Int):Int)-(i:Int))
     omega
  refine ah rfl (df p6) (aQ rfl (a8 ?_))
  clear bx5 bx10
  refine a7 rfl (mz zs7 (ai n (ai 0 (ab (aw (vs:=[vi n,vi 0]) Try.func13 (.tmp rfl (.tmp rfl .nil)) ?_)))))
  have e0:(n:Int)=((bZ g p).1):=by
    (rw[kK hf0,hn];show jP _ _ _ _=jP _ _ _ _;congr 1;omega)
  have e1:(0:Int)=((bZ g p).2):=by
    rw[kK hf0]
  exact⟨(bR (a:=n) (b:=0) (λ(z0:Int) (z1:Int)=>Ending.returned (vt [vi z0,vi z1])) e0 e1),bH.below⟩
 refine ag rfl (congrArg Bool.not (df p2)) (a8 ?_)
 clear bx5 bx10
 refine a7 rfl (mi (aY g p) (ai 0 (ai (aY g p) (ab (aw (vs:=[vi 0,vi (aY g p)]) Try.func13 (.tmp rfl (.tmp rfl .nil)) ?_)))))
 have e0:(0:Int)=((bZ g p).1):=by
   rw[iP p2]
 have e1:(aY g p:Int)=((bZ g p).2):=by
   rw[iP p2]
 have C23:=cg [] (ch2.n.seq (ch7.n.seq hb12.n))
 replace bH:=bH.ca C23
 exact⟨(bR (a:=0) (b:=aY g p) (λ(z0:Int) (z1:Int)=>Ending.returned (vt [vi z0,vi z1])) e0 e1),bH.below⟩
end TL
