import Derived.Test.YtkhfimgjcdeejaaTlP3
import Derived.Test.YtkhfimgjcdeejaaTlGmA
import Derived.Test.YtkhfimgjcdeejaaTlGmM
import Derived.Test.YtkhfimgjcdeejaaTlGenA
import Derived.Test.YtkhfimgjcdeejaaTlGdA
import Derived.Test.YtkhfimgjcdeejaaTlGjC
import Derived.Test.YtkhfimgjcdeejaaTlMmA
import Derived.Test.YtkhfimgjcdeejaaTlMmB
import Derived.Test.YtkhfimgjcdeejaaTlMsB
import Derived.Test.YtkhfimgjcdeejaaProg
import Derived.Test.YtkhfimgjcdeejaaTlAli
set_option linter.all false
set_option maxRecDepth 20000
namespace TL
open Go Go.Proofs
theorem uK:Try.f28.body.isNone=false:=rfl
theorem u7:(Try.f28.name== "runtime.NumGoroutine")=false:=by decide+kernel
theorem eg(w0:World)(g:(Int)×(List Pt))(g_v:Value)(hg_v:Ro w0 g_v g.2)(p:(List Pt)×(List (List Pt)))(p_v p_v1:Value)(hp_v:Ro w0 p_v p.1)(hp_v1:Ro w0 p_v1 p.2):
    Calls Try.prog 13 #[vg [vi g.1,g_v],vg [p_v,p_v1]] w0 (λee w=>ee= .returned (vt [vi ((aS g p).1),vi ((aS g p).2)])/\cW w0.heap.size w0 w):=by
 refine aI Try.func13 rfl nq ?_
 have bH:=bo.start w0
 have Rg:=hg_v.sl
 have Rp:=hp_v.sl
 have r_p_v1:=hp_v1.sl
 refine a6 (a5 rfl (cj rfl (bA c0 (is 1) (1,0) rfl rfl ?_)))
 intro g4 w1 b3 ch2 bx5
 replace bx5:Bx g4 (is 1) w1 b3 [vi g.1,g_v]:=bx5
 refine lo (bA g4 (is 2) (2,0) rfl rfl ?_)
 intro g9 w6 b8 ch7 bx10
 replace bx10:Bx g9 (is 2) w6 b8 [p_v,p_v1]:=bx10
 refine ai 0 (ai 0 (a8 (a6 (a6 (a5 rfl ?_)))))
 replace bx5:=bx5.cn ch7
 refine lx (ad (ds:=[vi g.1,g_v]) bO rfl bx5 rfl rfl) (lx (ad (ds:=[p_v,p_v1]) bJ rfl bx10 rfl rfl) ?_)
 replace Rg:=(Rg.cn ch2).cn ch7
 replace Rp:=(Rp.cn ch2).cn ch7
 replace r_p_v1:=(r_p_v1.cn ch2).cn ch7
 refine lo (aN (v:=vi (bl g p)) (az (vals:=[vg [vi g.1,g_v],vg [p_v,p_v1]]) Try.func22 jU jS rfl) (i5 w6 g g_v (Rg).ro p p_v p_v1 (Rp).ro (r_p_v1).ro) ?_)
 intro w11 hb12
 replace hb12:=aj hb12 g9
 refine ai (bl g p) (a8 (a6 (a5 rfl (mi (bl g p) (lx (dz (m:=bl g p) (n:=0) rfl rfl) (a8 ?_))))))
 by_cases p2:(bl g p)=0
 ·
  have hf0:bl g p=0:=p2
  obtain⟨hm,hs,hlp⟩:=ey hf0
  have hs2:=hs.m
  have hm0:=hm
  obtain⟨hm1,hm2,hm3,hm4⟩:=hm0
  refine af rfl (congrArg Bool.not (dt p2)) (am (a6 (a5 rfl (ai 0 (a8 (a6 (a6 (a5 rfl (lx (a7 eR rfl rfl rfl rfl) ?_)))))))))
  replace bx5:=bx5.cn hb12
  refine lx (a9 ch rfl bx5 rfl) ?_
  replace Rg:=Rg.cn hb12
  have len13:=(Rg).small
  refine lx (bE gv rfl Rg) (mi 0 (a8 (ao ?_)))
  refine bf (σ:=Int×Nat×aW) (λ⟨n,i,gq⟩ f w=>bo w0 gq w/\f 2=vp b3 0/\f 3=vp b8 0/\f 7=vi n/\f 18=vi (g.2.length:Int)/\f 19=vi ↑i/\Sl gq (is 0) w g_v g.2/\Sl gq (is 0) w p_v p.1/\Sl gq (is 0) w p_v1 p.2/\Bx gq (is 1) w b3 [vi g.1,g_v]/\Bx gq (is 2) w b8 [p_v,p_v1]/\(i:Int)<=((g.2.length:Int):Int)/\(n=kD g p g.2.length i)) (λ⟨n,i,gq⟩=>Int.toNat (((g.2.length:Int):Int)-(i:Int))) (0,0,g9) ?_ ?_
  have C14:=cg [] (ch2.n.seq (ch7.n.seq hb12.n))
  · exact⟨bH.ca C14,rfl,rfl,rfl,rfl,rfl,Rg,Rp.cn hb12,r_p_v1.cn hb12,bx5,bx10.cn hb12,by omega,by rfl⟩
  clear Rg Rp r_p_v1 bx5 bx10 bH
  rintro⟨n,i,g17⟩ f15 w16 ⟨bH,zs2,zs3,zs7,zs18,zs19,Rg,Rp,r_p_v1,bx5,bx10,hle_i,hn⟩ back6
  have hnb:=sr (g:=g) (p:=p) (m:=g.2.length) (by omega) i
  refine a6 (a5 rfl (lx (b6 (m:=↑i) (n:=(g.2.length:Int)) zs19 zs18) (a8 (a6 ?_))))
  by_cases p6:(i:Int)<(g.2.length:Int)
  ·
   refine ae rfl (dt p6) (am (a6 (ao (a6 (a5 rfl (mz zs19 (ai (i:Int) (a8 (a6 (a5 rfl (mi ↑i (lx (aQ (m:=↑i) (n:=1) rfl rfl (by omega)) ?_))))))))))))
   refine ai ((i:Int)+1) (a8 (ao ?_))
   refine bf (σ:=Int×Nat×aW) (λ⟨c,k,gq⟩ f w=>bo w0 gq w/\f 2=vp b3 0/\f 3=vp b8 0/\f 7=vi c/\f 8=vi ↑i/\f 9=vi ↑k/\f 18=vi (g.2.length:Int)/\f 19=vi ↑i/\Sl gq (is 0) w g_v g.2/\Sl gq (is 0) w p_v p.1/\Sl gq (is 0) w p_v1 p.2/\Bx gq (is 1) w b3 [vi g.1,g_v]/\Bx gq (is 2) w b8 [p_v,p_v1]/\(k:Int)<=((g.2.length:Int):Int)/\((c=kD g p g.2.length i+kO g p i k/\i<k)/\k<=g.2.length)) (λ⟨c,k,gq⟩=>g.2.length-k) (n,i+1,g17) ?_ ?_
   · exact⟨bH,zs2,zs3,zs7,rfl,rfl,zs18,zs19,Rg,Rp,r_p_v1,bx5,bx10,by omega,by exact⟨⟨by rw[hn,pY _ (by omega)];omega,by omega⟩,by omega⟩⟩
   clear Rg Rp r_p_v1 bx5 bx10 bH
   rintro⟨c,k,g20⟩ f18 w19 ⟨bH,zs2,zs3,zs7,zs8,zs9,zs18,zs19,Rg,Rp,r_p_v1,bx5,bx10,hle_k,hn2⟩ back9
   have hcb:=ow (g:=g) (p:=p) (e:=i) k
   have hn1:=hn2.1.1
   have hnk:=hn2.1.2
   refine a6 (a6 (a5 rfl (mz zs9 (lx (a7 eR rfl rfl zs2 rfl) (lx (a9 ch rfl bx5 rfl) (lx (bE gv rfl Rg) (lx (b6 (m:=↑k) (n:=(g.2.length:Int)) rfl rfl) (a8 ?_))))))))
   by_cases p9:(k:Int)<(g.2.length:Int)
   ·
    refine ae rfl (dt p9) (am (a6 (ao (a6 (a5 rfl (lx (ad (ds:=[vi g.1,g_v]) bO zs2 bx5 rfl rfl) (lx (ad (ds:=[p_v,p_v1]) bJ zs3 bx10 rfl rfl) (mz zs8 (mz zs9 (lo ?_))))))))))
    refine aN (v:=vb (decide (kW g p (i:Int) (k:Int)))) (az (vals:=[vg [vi g.1,g_v],vg [p_v,p_v1],vi ↑i,vi ↑k]) Try.func28 uK u7 rfl) (qC w19 g g_v (Rg).ro p p_v p_v1 (Rp).ro (r_p_v1).ro (i:Int) (k:Int) ‹_› ‹_› (by exact⟨by omega,by omega⟩) (by exact⟨by omega,by omega⟩)) ?_
    intro w21 hb22
    replace hb22:=aj hb22 g20
    refine a8 ?_
    by_cases p11:(decide (kW g p (i:Int) (k:Int)))=true
    ·
     refine ae rfl p11 (a5 rfl (mz zs7 (lx (aQ (m:=c) (n:=1) rfl rfl (by omega)) (ai (c+1) (a8 (ak (a5 rfl (mz zs9 (lx (aQ (m:=↑k) (n:=1) rfl rfl (by omega)) ?_)))))))))
     refine ai ((k:Int)+1) (a8 ?_)
     refine back9 (c+1,k+1,g20) _ _ ⟨bH.cn hb22,zs2,zs3,rfl,zs8,rfl,zs18,zs19,Rg.cn hb22,Rp.cn hb22,r_p_v1.cn hb22,bx5.cn hb22,bx10.cn hb22,by omega,?_⟩ ?_
     · show((c+1)=kD g p g.2.length i+kO g p i (k+1)/\i<(k+1))/\(k+1)<=g.2.length
       exact⟨xB hn2.1 ‹_›,by omega⟩
     · show g.2.length-(k+1)<g.2.length-k
       omega
    refine af rfl (Bool.eq_false_iff.2 p11) (am (ak (a5 rfl (mz zs9 (lx (aQ (m:=↑k) (n:=1) rfl rfl (by omega)) (ai ((k:Int)+1) (a8 ?_)))))))
    refine back9 (c,k+1,g20) _ _ ⟨bH.cn hb22,zs2,zs3,zs7,zs8,rfl,zs18,zs19,Rg.cn hb22,Rp.cn hb22,r_p_v1.cn hb22,bx5.cn hb22,bx10.cn hb22,by omega,?_⟩ ?_
    · show(c=kD g p g.2.length i+kO g p i (k+1)/\i<(k+1))/\(k+1)<=g.2.length
      exact⟨xD hn2.1 ‹_›,by omega⟩
    · show g.2.length-(k+1)<g.2.length-k
      omega
   refine af rfl (df p9) (aO rfl (ak (a5 rfl (lx (aQ (m:=↑i) (n:=1) zs19 rfl (by omega)) (mi ((i:Int)+1) (a8 ?_))))))
   refine back6 (c,i+1,g20) _ _ ⟨bH,zs2,zs3,zs7,zs18,rfl,Rg,Rp,r_p_v1,bx5,bx10,by omega,?_⟩ ?_
   · show c=kD g p g.2.length (i+1)
     (show _=kD g p g.2.length i+kO g p i g.2.length;rw[hn2.1.1,show k=g.2.length by omega])
   · show Int.toNat (((g.2.length:Int):Int)-((i+1):Int))<Int.toNat (((g.2.length:Int):Int)-(i:Int))
     omega
  refine af rfl (df p6) (aO rfl (a6 ?_))
  clear bx5 bx10
  refine a5 rfl (mz zs7 (ai n (ai 0 (a8 (av (vs:=[vi n,vi 0]) Try.func13 (.tmp rfl (.tmp rfl .nil)) ?_)))))
  have e0:(n:Int)=((aS g p).1):=by
    (rw[iL hf0,hn];show kD _ _ _ _=kD _ _ _ _;congr 1;omega)
  have e1:(0:Int)=((aS g p).2):=by
    rw[iL hf0]
  exact⟨(co (a:=n) (b:=0) (λ(z0:Int) (z1:Int)=>Ending.returned (vt [vi z0,vi z1])) e0 e1),bH.below⟩
 refine ae rfl (congrArg Bool.not (df p2)) (a6 ?_)
 clear bx5 bx10
 refine a5 rfl (mi (bl g p) (ai 0 (ai (bl g p) (a8 (av (vs:=[vi 0,vi (bl g p)]) Try.func13 (.tmp rfl (.tmp rfl .nil)) ?_)))))
 have e0:(0:Int)=((aS g p).1):=by
   rw[lf p2]
 have e1:(bl g p:Int)=((aS g p).2):=by
   rw[lf p2]
 have C23:=cg [] (ch2.n.seq (ch7.n.seq hb12.n))
 replace bH:=bH.ca C23
 exact⟨(co (a:=0) (b:=bl g p) (λ(z0:Int) (z1:Int)=>Ending.returned (vt [vi z0,vi z1])) e0 e1),bH.below⟩
end TL
