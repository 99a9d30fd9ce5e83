import Derived.Test.YtgneelmmomohdaaSaTlP5
import Derived.Test.YtgneelmmomohdaaSaTlSpA
import Derived.Test.YtgneelmmomohdaaSaTlSpW
import Derived.Test.YtgneelmmomohdaaSaTlSpC
import Derived.Test.YtgneelmmomohdaaSaTlSpD
import Derived.Test.YtgneelmmomohdaaSaTlSpP
import Derived.Test.YtgneelmmomohdaaSaTlSpL
import Derived.Test.YtgneelmmomohdaaSaTlSpQ
import Derived.Test.YtgneelmmomohdaaSaTlBkC
import Derived.Test.YtgneelmmomohdaaSaTlSortB
import Derived.Test.YtgneelmmomohdaaSaTlGenA
import Derived.Test.YtgneelmmomohdaaProg
import Derived.Test.YtgneelmmomohdaaSaTlAli
set_option linter.all false
set_option maxRecDepth 20000
namespace TL
open Go Go.Proofs
theorem kU:Try.prog.follows .mixedOrders=true:=by kernel_rfl
theorem xl:Try.f33.body.isNone=false:=rfl
theorem wX:(Try.f33.name== "runtime.NumGoroutine")=false:=by decide+kernel
theorem ru:Try.f34.body.isNone=false:=rfl
theorem rH:(Try.f34.name== "runtime.NumGoroutine")=false:=by decide+kernel
theorem qS:Try.f35.body.isNone=false:=rfl
theorem sa:(Try.f35.name== "runtime.NumGoroutine")=false:=by decide+kernel
set_option maxHeartbeats 8000000 in
theorem nI(w0:World)(g:(Int)×(List Pt))(g_v:Value)(hg_v:Ro w0 g_v g.2):
    Calls Try.prog 12 #[vg [vi g.1,g_v]] w0 (λee w=>∃xx:aG×Value,ee= .returned ((λ⟨δ,rv0⟩=>vt [rv0,vi ((aW g).2)]) xx)/\(λ(⟨δ,rv0⟩:aG×Value) (w:World)=>eB w0 δ w/\Ow δ (is 1) (is 1) w rv0 ((aW g).1)) xx w):=by
 refine av Try.func12 rfl nq ?_
 have bH:=bn.start w0
 have Rg:=hg_v.sl
 refine aa (a8 rfl (cB rfl (cr c0 (is 1) (1,0) rfl rfl ?_)))
 intro g4 w1 b3 ch2 bx5
 replace bx5:Bx g4 (is 1) w1 b3 [vi g.1,g_v]:=bx5
 refine ma vn (ai 0 (ab (aa (a8 rfl (lx (aB (ds:=[vi g.1,g_v]) aK rfl bx5 rfl rfl) ?_)))))
 replace Rg:=Rg.cn ch2
 refine lo (bW (v:=vt [vb ((cC g).1),vi ((cC g).2)]) (aN (vals:=[vg [vi g.1,g_v]]) Try.func33 xl wX rfl) (wt w1 g g_v (Rg).ro) ?_)
 intro w6 hb7
 replace hb7:=aS hb7 g4
 refine mv (vt [vb ((cC g).1),vi ((cC g).2)]) (lx (aJ rfl rfl) (lx (aJ rfl rfl) (ma (vb ((cC g).1)) (ai ((cC g).2) (ab (aa (ao (aa (a8 rfl (mi ((cC g).2) (lx (cK (m:=(cC g).2) (n:=0) rfl rfl) ?_)))))))))))
 refine ma (vb (!(decide (((cC g).2)=0)))) (ab ?_)
 by_cases p2:((cC g).2)=0
 ·
  refine ag rfl (congrArg Bool.not (dt p2)) (aa (a8 rfl (mv (vb ((cC g).1)) (lx (dZ (b:=((cC g).1)) rfl) (ma (vb (!((cC g).1))) (ab ?_))))))
  by_cases p4:((cC g).1)=true
  ·
   refine ag rfl (congrArg Bool.not p4) (aq (am (aa ?_)))
   have hm:aX g:=qn ‹_›
   have hm0:=hm
   obtain⟨hm1,hm2,hm3,hm4⟩:=hm0
   obtain⟨hnn0,hnn1⟩:=CX hm
   have hpl:=nW (most:=g.1*g.1) hm
   have hkl:=vD hm
   refine a8 rfl (cB rfl (k6 (K:=Pt) g4 (is 2) (2,0) rfl ?_))
   intro g8 w9 v10 ch11 m12
   refine ma v10 (ab (aa (aa (a8 rfl (lx (af cW rfl rfl rfl rfl) ?_)))))
   replace bx5:=(bx5.cn hb7).cn ch11
   refine lx (ae aj rfl bx5 rfl) (lx (eu (m:=g.1) (n:=2) rfl rfl) (ab ?_))
   by_cases p7:2<g.1
   ·
    refine ah rfl (dt p7) (aa (a8 rfl (lx (aB (ds:=[vi g.1,g_v]) aK rfl bx5 rfl rfl) (lx (af cW rfl rfl rfl rfl) (lx (ae aj rfl bx5 rfl) (lx (af cW rfl rfl rfl rfl) (lx (ae aj rfl bx5 rfl) (lx (mc (m:=g.1) (n:=g.1) rfl rfl (by omega)) ?_))))))))
    replace Rg:=(Rg.cn hb7).cn ch11
    refine lo (bQ (aN (vals:=[vg [vi g.1,g_v],vi (g.1*g.1)]) Try.func31 nM nh rfl) (kV w9 g g_v (Rg).ro (g.1*g.1) (by exact hm)) ?_)
    rintro⟨d14,v16⟩ w13 ⟨fr15,o17⟩
    obtain⟨g18,ch19,G18⟩:=ia g8 fr15 (λn=>if n=1 then 3 else 0)
    replace o17:=o17.gl G18 3
    have len20:=(o17.flat).small
    refine lx (bq dc rfl o17.flat) (mi 0 (ab (ao ?_)))
    refine aY (σ:=Nat×((Pt->Int)×List Pt)×aG) (λ⟨i,mp,gq⟩ f w=>bn w0 gq w/\f 1=vp b3 0/\f 6=v10/\f 35=v16/\f 36=vi (List.length (cJ g (g.1*g.1)):Int)/\f 37=vi ↑i/\Sl gq (is 0) w g_v g.2/\Bx gq (is 1) w b3 [vi g.1,g_v]/\Md gq (is 2) w v10 mp.1 mp.2/\Ow gq (is 3) (is 3) w v16 (cJ g (g.1*g.1))/\(i:Int)<=((List.length (cJ g (g.1*g.1)):Int):Int)/\(rV g (cJ g (g.1*g.1)) [] i i mp)) (λ⟨i,mp,gq⟩=>Int.toNat (((List.length (cJ g (g.1*g.1)):Int):Int)-(i:Int))) (0,((λ_=>0,[]):(Pt->Int)×List Pt),g18) ?_ ?_
    have C21:=cg [] (ch2.n.seq (hb7.n.seq (ch11.n.seq ch19.n)))
    · exact⟨bH.ca C21,rfl,rfl,rfl,rfl,rfl,Rg.cn ch19,bx5.cn ch19,m12.cn ch19,o17,by omega,by exact⟨rfl,λq=>⟨Int.le_refl _,by show(0:Int)<=_;omega⟩⟩⟩
    clear Rg bx5 m12 o17 bH
    rintro⟨i,mp,g24⟩ f22 w23 ⟨bH,zs1,zs6,zs35,zs36,zs37,Rg,bx5,m12,o17,hle_i,hsn⟩ back9
    have hsnb:=hsn.bd
    refine aa (a8 rfl (lx (bm (m:=↑i) (n:=(List.length (cJ g (g.1*g.1)):Int)) zs37 zs36) (ab (aa ?_))))
    by_cases p9:(i:Int)<(List.length (cJ g (g.1*g.1)):Int)
    ·
     refine ah rfl (dt p9) ?_
     have hsb:=hsnb (gI (cJ g (g.1*g.1)) (i:Int))
     refine aq (aa (ao (aa (a8 rfl (lx (ad (v:=v16) (i:=↑i) dc rfl zs35 o17.flat zs37 (by omega) (by omega)) (lw (vg [vi ((gI (cJ g (g.1*g.1)) (i:Int)).1),vi ((gI (cJ g (g.1*g.1)) (i:Int)).2)]) (cL (v:=v16) (i:=↑i) b7 rfl o17.flat (by omega) (by omega) rfl) (lo (bP g24 (is 4) (4,0) rfl b7 ?_))))))))
     intro g28 w25 b27 ch26 bx29
     replace bx29:Bx g28 (is 4) w25 b27 [vi 0,vi 0]:=bx29
     refine lo (aT (cs':=[vi ((gI (cJ g (g.1*g.1)) (i:Int)).1),vi ((gI (cJ g (g.1*g.1)) (i:Int)).2)]) b7 rfl rfl bx29 rfl nq (AllOne.all (.cons rfl (.cons rfl .nil))) rfl ?_)
     intro w30 ch31 bx32
     clear bx29
     refine ab ?_
     refine dX (σ:=aG) (λgq f w=>bn w0 gq w/\f 1=vp b3 0/\f 6=v10/\f 35=v16/\f 36=vi (List.length (cJ g (g.1*g.1)):Int)/\f 37=vi ↑i/\Sl gq (is 0) w g_v g.2/\Bx gq (is 1) w b3 [vi g.1,g_v]/\Ow gq (is 3) (is 3) w v16 (cJ g (g.1*g.1))/\Md gq (is 2) w v10 ((λq=>if q=(gI (cJ g (g.1*g.1)) (i:Int)) then((mp.1 (gI (cJ g (g.1*g.1)) (i:Int)))+1) else mp.1 q),j7 mp.2 (gI (cJ g (g.1*g.1)) (i:Int))).1 ((λq=>if q=(gI (cJ g (g.1*g.1)) (i:Int)) then((mp.1 (gI (cJ g (g.1*g.1)) (i:Int)))+1) else mp.1 q),j7 mp.2 (gI (cJ g (g.1*g.1)) (i:Int))).2) g28 [0,1,3,5] kU ?_ ?_
     ·
      intro mid
      intro w34 ch33
      refine xp (v:=v10) 0 rfl (λw=>au zs6) ?_
      replace bx32:=bx32.cn ch33
      refine xv 1 [0] rfl (aB (ds:=[vi ((gI (cJ g (g.1*g.1)) (i:Int)).1),vi ((gI (cJ g (g.1*g.1)) (i:Int)).2)]) b7 rfl bx32 rfl rfl) ?_
      refine gc 2 4 rfl rfl (by kernel_rfl) rfl rfl ?_ ?_
      ·
       have C35:=cg [4] (ch26.n.seq ((ch31.l rfl).seq ch33.n))
       replace m12:=m12.ca C35
       refine aL (v:=vi (mp.1 (gI (cJ g (g.1*g.1)) (i:Int)))) (dN (gI (cJ g (g.1*g.1)) (i:Int)) lA (bX dI U3 aj) aj rfl m12.mp rfl rfl) (xp 3 rfl (λw=>aI (m:=mp.1 (gI (cJ g (g.1*g.1)) (i:Int))) (n:=1) rfl rfl (by omega)) (bB 4 rfl (by kernel_rfl) rfl (fv (gI (cJ g (g.1*g.1)) (i:Int)) lA (bX dI U3 aj) aj rfl m12 rfl rfl ?_)))
       intro w36 s39 ch37 m38
       clear m12
       refine xp 5 rfl (λw=>aJ rfl rfl) (bB 6 rfl (by kernel_rfl) rfl (eG rfl m38 rfl rfl ?_))
       intro w40 ch41 m42
       clear m38
       refine cA (by kernel_rfl) ?_
       have C43:=cg [2,4] (ch26.n.seq ((ch31.l rfl).seq (ch33.n.seq ((ch37.l rfl).seq (ch41.l rfl)))))
       exact mid (g28) _ _ ⟨bH.ca C43,zs1,zs6,zs35,zs36,zs37,Rg.ca C43,bx5.ca C43,o17.ca C43,m42⟩
      ·
       have C48:=cg [4] (ch26.n.seq ((ch31.l rfl).seq ch33.n))
       replace m12:=m12.ca C48
       refine fv (gI (cJ g (g.1*g.1)) (i:Int)) lA (bX dI U3 aj) aj rfl m12 rfl rfl ?_
       intro w44 s47 ch45 m46
       clear m12
       refine xp 5 rfl (λw=>aJ rfl rfl) (bB 2 rfl (by kernel_rfl) rfl (aL (v:=vi (mp.1 (gI (cJ g (g.1*g.1)) (i:Int)))) (dN (gI (cJ g (g.1*g.1)) (i:Int)) lA (bX dI U3 aj) aj rfl m46.md.mp rfl rfl) (xp 3 rfl (λw=>aI (m:=mp.1 (gI (cJ g (g.1*g.1)) (i:Int))) (n:=1) rfl rfl (by omega)) (bB 6 rfl (by kernel_rfl) rfl (eG rfl m46 rfl rfl ?_)))))
       intro w49 ch50 m51
       clear m46
       refine cA (by kernel_rfl) ?_
       have C52:=cg [2,4] (ch26.n.seq ((ch31.l rfl).seq (ch33.n.seq ((ch45.l rfl).seq (ch50.l rfl)))))
       exact mid (g28) _ _ ⟨bH.ca C52,zs1,zs6,zs35,zs36,zs37,Rg.ca C52,bx5.ca C52,o17.ca C52,m51⟩
     clear Rg bx5 m12 o17 bx32 bH
     rintro g55 f53 w54 ⟨bH,zs1,zs6,zs35,zs36,zs37,Rg,bx5,o17,m39⟩
     refine am (a8 rfl (lx (aI (m:=↑i) (n:=1) zs37 rfl (by omega)) (mi ((i:Int)+1) (ab ?_))))
     refine back9 (i+1,((λq=>if q=(gI (cJ g (g.1*g.1)) (i:Int)) then((mp.1 (gI (cJ g (g.1*g.1)) (i:Int)))+1) else mp.1 q),j7 mp.2 (gI (cJ g (g.1*g.1)) (i:Int))),g55) _ _ ⟨bH,zs1,zs6,zs35,zs36,rfl,Rg,bx5,m39,o17,by omega,?_⟩ ?_
     · show rV g (cJ g (g.1*g.1)) [] (i+1) (i+1) ((λq=>if q=(gI (cJ g (g.1*g.1)) (i:Int)) then((mp.1 (gI (cJ g (g.1*g.1)) (i:Int)))+1) else mp.1 q),j7 mp.2 (gI (cJ g (g.1*g.1)) (i:Int)))
       exact hsn.next ‹_› rfl rfl rfl
     · show Int.toNat (((List.length (cJ g (g.1*g.1)):Int):Int)-((i+1):Int))<Int.toNat (((List.length (cJ g (g.1*g.1)):Int):Int)-(i:Int))
       omega
    refine ag rfl (df p9) (aH rfl (aa (aa ?_)))
    clear o17
    refine a8 rfl (lx (af cW rfl rfl zs1 rfl) (lx (ae bG rfl bx5 rfl) ?_))
    have len56:=(Rg).small
    refine lx (bq dc rfl Rg) (mi 0 (ab (ao ?_)))
    refine aY (σ:=Nat×((Pt->Int)×List Pt)×aG) (λ⟨e,mq,gq⟩ f w=>bn w0 gq w/\f 1=vp b3 0/\f 6=v10/\f 49=g_v/\f 50=vi (g.2.length:Int)/\f 51=vi ↑e/\Sl gq (is 0) w g_v g.2/\Bx gq (is 1) w b3 [vi g.1,g_v]/\Md gq (is 2) w v10 mq.1 mq.2/\(e:Int)<=((g.2.length:Int):Int)/\(rV g (g.2.map fZ) (eT (dK g) [] (dK g).length) e (1048576+e) mq)) (λ⟨e,mq,gq⟩=>Int.toNat (((g.2.length:Int):Int)-(e:Int))) (0,mp,g24) ?_ ?_
    · exact⟨bH,zs1,zs6,rfl,rfl,rfl,Rg,bx5,m12,by omega,by exact hsn.base (by omega) ‹_› hm ‹_›⟩
    clear Rg bx5 m12 bH
    rintro⟨e,mq,g59⟩ f57 w58 ⟨bH,zs1,zs6,zs49,zs50,zs51,Rg,bx5,m12,hle_e,hsq⟩ back14
    have hsqb:=hsq.bd
    refine aa (a8 rfl (lx (bm (m:=↑e) (n:=(g.2.length:Int)) zs51 zs50) (ab (aa ?_))))
    by_cases p14:(e:Int)<(g.2.length:Int)
    ·
     refine ah rfl (dt p14) ?_
     have hsb:=hsqb (min (gI g.2 ↑e).1 (gI g.2 ↑e).2,max (gI g.2 ↑e).1 (gI g.2 ↑e).2)
     refine aq (aa (ao (aa (a8 rfl (lx (ad (v:=g_v) (i:=↑e) dc rfl zs49 Rg zs51 (by omega) (by omega)) (lw (vg [vi ((gI g.2 ↑e).1),vi ((gI g.2 ↑e).2)]) (cL (v:=g_v) (i:=↑e) b7 rfl Rg (by omega) (by omega) rfl) (lo (bP g59 (is 5) (5,0) rfl b7 ?_))))))))
     intro g63 w60 b62 ch61 bx64
     replace bx64:Bx g63 (is 5) w60 b62 [vi 0,vi 0]:=bx64
     refine lo (aT (cs':=[vi ((gI g.2 ↑e).1),vi ((gI g.2 ↑e).2)]) b7 rfl rfl bx64 rfl nq (AllOne.all (.cons rfl (.cons rfl .nil))) rfl ?_)
     intro w65 ch66 bx67
     clear bx64
     refine ab ?_
     refine dX (σ:=aG) (λgq f w=>bn w0 gq w/\f 1=vp b3 0/\f 6=v10/\f 49=g_v/\f 50=vi (g.2.length:Int)/\f 51=vi ↑e/\Sl gq (is 0) w g_v g.2/\Bx gq (is 1) w b3 [vi g.1,g_v]/\Md gq (is 2) w v10 ((λq=>if q=(min ((gI g.2 ↑e).1) ((gI g.2 ↑e).2),max ((gI g.2 ↑e).1) ((gI g.2 ↑e).2)) then((mq.1 (min ((gI g.2 ↑e).1) ((gI g.2 ↑e).2),max ((gI g.2 ↑e).1) ((gI g.2 ↑e).2)))+1) else mq.1 q),j7 mq.2 (min ((gI g.2 ↑e).1) ((gI g.2 ↑e).2),max ((gI g.2 ↑e).1) ((gI g.2 ↑e).2))).1 ((λq=>if q=(min ((gI g.2 ↑e).1) ((gI g.2 ↑e).2),max ((gI g.2 ↑e).1) ((gI g.2 ↑e).2)) then((mq.1 (min ((gI g.2 ↑e).1) ((gI g.2 ↑e).2),max ((gI g.2 ↑e).1) ((gI g.2 ↑e).2)))+1) else mq.1 q),j7 mq.2 (min ((gI g.2 ↑e).1) ((gI g.2 ↑e).2),max ((gI g.2 ↑e).1) ((gI g.2 ↑e).2))).2) g63 [0,1,2,3,4,5,6,7,8,9,10,11,13,15] kU ?_ ?_
     ·
      intro mid
      intro w69 ch68
      refine xp (v:=v10) 0 rfl (λw=>au zs6) (xv 1 [0,3,6,8,4,7,9,10] rfl (aM dI rfl rfl rfl (by decide) (by decide) rfl) ?_)
      replace bx67:=bx67.cn ch68
      refine xv 2 [1,0,3,6,8,4,7,9,10] rfl (ae aj rfl bx67 rfl) (xv 3 [2,1,0,6,8,7,9,10] rfl (aM dI rfl rfl rfl (by decide) (by decide) rfl) (xv 4 [3,2,1,0,6,8,7,9,10] rfl (ae aj rfl bx67 rfl) (xp (v:=vi (min ((gI g.2 ↑e).1) ((gI g.2 ↑e).2))) 5 rfl (λw=>nf rfl rfl) (xv 6 [5,4,3,2,1,0,8,9] rfl (aM dI rfl rfl rfl (by decide) (by decide) rfl) (xv 7 [6,5,4,3,2,1,0,8,9] rfl (ae aj rfl bx67 rfl) (xv 8 [7,6,5,4,3,2,1,0] rfl (aM dI rfl rfl rfl (by decide) (by decide) rfl) (xv 9 [8,7,6,5,4,3,2,1,0] rfl (ae aj rfl bx67 rfl) (xp (v:=vi (max ((gI g.2 ↑e).1) ((gI g.2 ↑e).2))) 10 rfl (λw=>rR rfl rfl) ?_))))))))
      refine xp (v:=vg [vi (min ((gI g.2 ↑e).1) ((gI g.2 ↑e).2)),vi (max ((gI g.2 ↑e).1) ((gI g.2 ↑e).2))]) 11 rfl (λw=>bS (vs:=[(0,vi (min ((gI g.2 ↑e).1) ((gI g.2 ↑e).2))),(1,vi (max ((gI g.2 ↑e).1) ((gI g.2 ↑e).2)))]) rfl (by kernel_rfl)) ?_
      refine gc 12 14 rfl rfl (by kernel_rfl) rfl rfl ?_ ?_
      ·
       have C70:=cg [5] (ch61.n.seq ((ch66.l rfl).seq ch68.n))
       replace m12:=m12.ca C70
       refine aL (v:=vi (mq.1 (min ((gI g.2 ↑e).1) ((gI g.2 ↑e).2),max ((gI g.2 ↑e).1) ((gI g.2 ↑e).2)))) (dN (min ((gI g.2 ↑e).1) ((gI g.2 ↑e).2),max ((gI g.2 ↑e).1) ((gI g.2 ↑e).2)) lA (bX dI U3 aj) aj rfl m12.mp rfl rfl) (xp 13 rfl (λw=>aI (m:=mq.1 (min ((gI g.2 ↑e).1) ((gI g.2 ↑e).2),max ((gI g.2 ↑e).1) ((gI g.2 ↑e).2))) (n:=1) rfl rfl (by omega)) (bB 14 rfl (by kernel_rfl) rfl (fv (min ((gI g.2 ↑e).1) ((gI g.2 ↑e).2),max ((gI g.2 ↑e).1) ((gI g.2 ↑e).2)) lA (bX dI U3 aj) aj rfl m12 rfl rfl ?_)))
       intro w71 s74 ch72 m73
       clear m12
       refine xp 15 rfl (λw=>aJ rfl rfl) (bB 16 rfl (by kernel_rfl) rfl (eG rfl m73 rfl rfl ?_))
       intro w75 ch76 m77
       clear m73
       refine cA (by kernel_rfl) ?_
       have C78:=cg [2,5] (ch61.n.seq ((ch66.l rfl).seq (ch68.n.seq ((ch72.l rfl).seq (ch76.l rfl)))))
       exact mid (g63) _ _ ⟨bH.ca C78,zs1,zs6,zs49,zs50,zs51,Rg.ca C78,bx5.ca C78,m77⟩
      ·
       have C83:=cg [5] (ch61.n.seq ((ch66.l rfl).seq ch68.n))
       replace m12:=m12.ca C83
       refine fv (min ((gI g.2 ↑e).1) ((gI g.2 ↑e).2),max ((gI g.2 ↑e).1) ((gI g.2 ↑e).2)) lA (bX dI U3 aj) aj rfl m12 rfl rfl ?_
       intro w79 s82 ch80 m81
       clear m12
       refine xp 15 rfl (λw=>aJ rfl rfl) (bB 12 rfl (by kernel_rfl) rfl (aL (v:=vi (mq.1 (min ((gI g.2 ↑e).1) ((gI g.2 ↑e).2),max ((gI g.2 ↑e).1) ((gI g.2 ↑e).2)))) (dN (min ((gI g.2 ↑e).1) ((gI g.2 ↑e).2),max ((gI g.2 ↑e).1) ((gI g.2 ↑e).2)) lA (bX dI U3 aj) aj rfl m81.md.mp rfl rfl) (xp 13 rfl (λw=>aI (m:=mq.1 (min ((gI g.2 ↑e).1) ((gI g.2 ↑e).2),max ((gI g.2 ↑e).1) ((gI g.2 ↑e).2))) (n:=1) rfl rfl (by omega)) (bB 16 rfl (by kernel_rfl) rfl (eG rfl m81 rfl rfl ?_)))))
       intro w84 ch85 m86
       clear m81
       refine cA (by kernel_rfl) ?_
       have C87:=cg [2,5] (ch61.n.seq ((ch66.l rfl).seq (ch68.n.seq ((ch80.l rfl).seq (ch85.l rfl)))))
       exact mid (g63) _ _ ⟨bH.ca C87,zs1,zs6,zs49,zs50,zs51,Rg.ca C87,bx5.ca C87,m86⟩
     clear Rg bx5 m12 bx67 bH
     rintro g90 f88 w89 ⟨bH,zs1,zs6,zs49,zs50,zs51,Rg,bx5,m74⟩
     refine am (a8 rfl (lx (aI (m:=↑e) (n:=1) zs51 rfl (by omega)) (mi ((e:Int)+1) (ab ?_))))
     refine back14 (e+1,((λq=>if q=(min ((gI g.2 ↑e).1) ((gI g.2 ↑e).2),max ((gI g.2 ↑e).1) ((gI g.2 ↑e).2)) then((mq.1 (min ((gI g.2 ↑e).1) ((gI g.2 ↑e).2),max ((gI g.2 ↑e).1) ((gI g.2 ↑e).2)))+1) else mq.1 q),j7 mq.2 (min ((gI g.2 ↑e).1) ((gI g.2 ↑e).2),max ((gI g.2 ↑e).1) ((gI g.2 ↑e).2))),g90) _ _ ⟨bH,zs1,zs6,zs49,zs50,rfl,Rg,bx5,m74,by omega,?_⟩ ?_
     · show rV g (g.2.map fZ) (eT (dK g) [] (dK g).length) (e+1) (1048576+(e+1)) ((λq=>if q=(min ((gI g.2 ↑e).1) ((gI g.2 ↑e).2),max ((gI g.2 ↑e).1) ((gI g.2 ↑e).2)) then((mq.1 (min ((gI g.2 ↑e).1) ((gI g.2 ↑e).2),max ((gI g.2 ↑e).1) ((gI g.2 ↑e).2)))+1) else mq.1 q),j7 mq.2 (min ((gI g.2 ↑e).1) ((gI g.2 ↑e).2),max ((gI g.2 ↑e).1) ((gI g.2 ↑e).2)))
       exact hsq.next (by rw[List.length_map];assumption) (by rw[pB fZ (by omega) (by omega)];rfl) rfl rfl
     · show Int.toNat (((g.2.length:Int):Int)-((e+1):Int))<Int.toNat (((g.2.length:Int):Int)-(e:Int))
       omega
    refine ag rfl (df p14) (aH rfl (aa (a8 rfl (ma vn (ab (aa (aa ?_)))))))
    have hD:mq.2=gP g:=hsq.done (by omega) ‹_›
    have hDl:(mq.2.length:Int)<=1051648:=by rw[hD];exact hkl
    refine a8 rfl (mz zs6 (lo (uk (J:=is 2) (2,0) rfl lA rfl m12 ?_)))
    intro g91 w92 v93 ch94 m95
    refine ab (ao ?_)
    refine aY (σ:=Value×(List Pt)×(List Pt)×aG) (λ⟨l_v,l,SS,gq⟩ f w=>bn w0 gq w/\f 1=vp b3 0/\f 11=l_v/\f 73=v93/\Sl gq (is 0) w g_v g.2/\Bx gq (is 1) w b3 [vi g.1,g_v]/\Mi gq (is 2) w v10 v93 mq.1 mq.2 SS/\Ow gq (is 8) (is 8) w l_v l/\(ou g mq.2 SS l)) (λ⟨l_v,l,SS,gq⟩=>(mq.2.length-SS.length)) (vn,[],([]:List Pt),g91) ?_ ?_
    · exact⟨bH.cn ch94,zs1,rfl,rfl,Rg.cn ch94,bx5.cn ch94,m95,Ow.nil,by exact ou.start⟩
    clear Rg bx5 m95 bH
    rintro⟨l_v,l,SS,g98⟩ f96 w97 ⟨bH,zs1,zs11,zs73,Rg,bx5,m95,o_l,hsi⟩ back20
    have hsil:=hsi.len
    refine aa (a8 rfl (cB rfl (zc zs73 m95 ?_)))
    intro w99 nv100 nb101 ky102 ch103 hn104 hy105 hz106 m107
    clear m95
    refine lw (vb nb101) (tD rfl hn104) (ab (aa ?_))
    by_cases p20:nb101=true
    ·
     refine ah rfl p20 (aq (ao (aa (a8 rfl (lw (vt [vg [vi ky102.1,vi ky102.2],vi (mq.1 ky102)]) (uN (by exact zs73) m107 p20) (lx (aJ rfl rfl) (lo (bP g98 (is 6) (6,0) rfl b7 ?_))))))))
     intro g111 w108 b110 ch109 bx112
     replace bx112:Bx g111 (is 6) w108 b110 [vi 0,vi 0]:=bx112
     refine lo (aT (cs':=[vi ky102.1,vi ky102.2]) b7 rfl rfl bx112 rfl nq (AllOne.all (.cons rfl (.cons rfl .nil))) rfl ?_)
     intro w113 ch114 bx115
     clear bx112
     refine ab (aa (a8 rfl ?_))
     have C116:=cg [2,6] ((ch103.l rfl).seq (ch109.n.seq (ch114.l rfl)))
     replace bx5:=bx5.ca C116
     refine lx (aB (ds:=[vi g.1,g_v]) aK zs1 bx5 rfl rfl) (lx (aM dI rfl rfl rfl (by decide) (by decide) rfl) (lx (ae aj rfl bx115 rfl) (lx (aM dI rfl rfl rfl (by decide) (by decide) rfl) (lx (ae aj rfl bx115 rfl) ?_))))
     replace Rg:=Rg.ca C116
     refine lo (bW (v:=vb (eD g ky102.1 ky102.2)) (aN (vals:=[vg [vi g.1,g_v],vi ky102.1,vi ky102.2]) Try.func34 ru rH rfl) (pc w113 g g_v (Rg).ro ky102.1 ky102.2 (by exact hm)) ?_)
     intro w117 hb118
     replace hb118:=aS hb118 g111
     refine ab ?_
     by_cases p22:(eD g ky102.1 ky102.2)=true
     ·
      refine ah rfl p22 ?_
      have hq:SS.length+1<=mq.2.length:=lK ‹_› ‹_›
      refine a8 rfl (mz zs11 ?_)
      replace bx115:=bx115.cn hb118
      refine lx (aB (ds:=[vi ky102.1,vi ky102.2]) b7 rfl bx115 rfl rfl) (lo (aC (α:=Pt) g111 (is 7) (is 7) (7,0) rfl ([ky102]:List Pt) dc b7 (by decide) (by decide) (vs:=[(0,vg [vi ky102.1,vi ky102.2])]) rfl rfl (.cons rfl .nil) ?_))
      intro g119 w120 v121 ch122 o123
      refine lo ?_
      have C124:=cg [2,6] ((ch103.l rfl).seq (ch109.n.seq ((ch114.l rfl).seq (hb118.n.seq ch122.n))))
      replace o_l:=o_l.ca C124
      refine bf (α:=Pt) (xs:=l) (ys:=([ky102]:List Pt)) g119 (J:=is 8) (S:=is 8) (8,0) rfl dc b7 (by decide) rfl rfl rfl o_l o123.flat (by decide) (by(simp;omega)) ?_
      intro g125 w126 v127 ch128 o129
      clear o_l
      refine ma v127 (ab (am ?_))
      have C130:=cg [2,6,8] ((ch103.l rfl).seq (ch109.n.seq ((ch114.l rfl).seq (hb118.n.seq (ch122.n.seq (ch128.l rfl))))))
      have C131:=cg [8] (hb118.n.seq (ch122.n.seq (ch128.l rfl)))
      have C132:=cg [6,8] (ch109.n.seq ((ch114.l rfl).seq (hb118.n.seq (ch122.n.seq (ch128.l rfl)))))
      refine back20 (v127,(l++([ky102]:List Pt)),(sc nb101 SS ky102),g125) _ _ ⟨bH.ca C130,zs1,rfl,zs73,Rg.ca C131,bx5.ca C131,m107.ca C132,o129,?_⟩ ?_
      · show ou g mq.2 (sc nb101 SS ky102) (l++([ky102]:List Pt))
        exact hsi.yes ‹_› ‹_› ‹_›
      · show(mq.2.length-(sc nb101 SS ky102).length)<(mq.2.length-SS.length)
        (rw[ni ‹_›,List.length_append];have hq:SS.length+1<=mq.2.length:=lK ‹_› ‹_›;simp only[List.length_cons,List.length_nil];omega)
     refine ag rfl (Bool.eq_false_iff.2 p22) (aq (am ?_))
     have C133:=cg [2,6] ((ch103.l rfl).seq (ch109.n.seq ((ch114.l rfl).seq hb118.n)))
     have C134:=cg [6] (ch109.n.seq ((ch114.l rfl).seq hb118.n))
     refine back20 (l_v,l,(sc nb101 SS ky102),g111) _ _ ⟨bH.ca C133,zs1,zs11,zs73,Rg.cn hb118,bx5.cn hb118,m107.ca C134,o_l.ca C133,?_⟩ ?_
     · show ou g mq.2 (sc nb101 SS ky102) l
       exact hsi.no ‹_› ‹_› ‹_›
     · show(mq.2.length-(sc nb101 SS ky102).length)<(mq.2.length-SS.length)
       (rw[ni ‹_›,List.length_append];have hq:SS.length+1<=mq.2.length:=lK ‹_› ‹_›;simp only[List.length_cons,List.length_nil];omega)
    refine ag rfl (Bool.eq_false_iff.2 p20) (aH rfl (aa ?_))
    clear bx5 m107
    have hsp:jL l=kB g:=hsi.done hD ‹_› ‹_›
    refine a8 rfl (mz zs11 (lo ?_))
    replace o_l:=o_l.ce ch103
    refine bQ (σ:=Unit) (V:=λ_=>Value.tuple #[]) (aN (vals:=[l_v,Value.func (.func 36) #[] #[]]) Try.func35 qS sa rfl) (rM o_l) ?_
    rintro⟨⟩ w135 ⟨ch136,o137⟩
    clear o_l
    refine ab (aa (a8 rfl (mz zs11 (ma l_v (ai 0 (ab (aD (vs:=[l_v,vi 0]) Try.func12 (.tmp rfl (.tmp rfl .nil)) ?_)))))))
    replace bH:=bH.ce ch103
    replace bH:=bH.ce ch136
    have e0:((jL l):List Pt)=((aW g).1):=by
      (rw[qb ‹_› ‹_›];exact hsp)
    have e1:(0:Int)=((aW g).2):=by
      rw[qb ‹_› ‹_›]
    exact⟨(fin w0 g98 (λn=>if n=8 then 1 else 0),l_v),(cT (a:=(jL l)) (b:=0) (λ(z0:List Pt) (z1:Int)=>Ending.returned (vt [l_v,vi z1])) e0 e1),bH.fresh _,(e0▸(o137.glue (γ:=c0) (ren:=(λn=>if n=8 then 1 else 0)) (k:=1) bH.col rfl rfl))⟩
   refine ag rfl (df p7) (aq (aa (aa (a8 rfl (lx (af cW rfl rfl rfl rfl) (lx (ae bG rfl bx5 rfl) ?_))))))
   replace Rg:=(Rg.cn hb7).cn ch11
   have len138:=(Rg).small
   refine lx (bq dc rfl Rg) (mi 0 (ab (ao ?_)))
   refine aY (σ:=Nat×((Pt->Int)×List Pt)×aG) (λ⟨e,mq,gq⟩ f w=>bn w0 gq w/\f 1=vp b3 0/\f 6=v10/\f 49=g_v/\f 50=vi (g.2.length:Int)/\f 51=vi ↑e/\Sl gq (is 0) w g_v g.2/\Bx gq (is 1) w b3 [vi g.1,g_v]/\Md gq (is 2) w v10 mq.1 mq.2/\(e:Int)<=((g.2.length:Int):Int)/\(rV g (g.2.map fZ) (eT (dK g) [] (dK g).length) e (1048576+e) mq)) (λ⟨e,mq,gq⟩=>Int.toNat (((g.2.length:Int):Int)-(e:Int))) (0,((λ_=>0,[]):(Pt->Int)×List Pt),g8) ?_ ?_
   have C139:=cg [] (ch2.n.seq (hb7.n.seq ch11.n))
   · exact⟨bH.ca C139,rfl,rfl,rfl,rfl,rfl,Rg,bx5,m12,by omega,by exact rV.none (by omega)⟩
   clear Rg bx5 m12 bH
   rintro⟨e,mq,g142⟩ f140 w141 ⟨bH,zs1,zs6,zs49,zs50,zs51,Rg,bx5,m12,hle_e,hsq⟩ back14
   have hsqb:=hsq.bd
   refine aa (a8 rfl (lx (bm (m:=↑e) (n:=(g.2.length:Int)) zs51 zs50) (ab (aa ?_))))
   by_cases p14:(e:Int)<(g.2.length:Int)
   ·
    refine ah rfl (dt p14) ?_
    have hsb:=hsqb (min (gI g.2 ↑e).1 (gI g.2 ↑e).2,max (gI g.2 ↑e).1 (gI g.2 ↑e).2)
    refine aq (aa (ao (aa (a8 rfl (lx (ad (v:=g_v) (i:=↑e) dc rfl zs49 Rg zs51 (by omega) (by omega)) (lw (vg [vi ((gI g.2 ↑e).1),vi ((gI g.2 ↑e).2)]) (cL (v:=g_v) (i:=↑e) b7 rfl Rg (by omega) (by omega) rfl) (lo (bP g142 (is 5) (5,0) rfl b7 ?_))))))))
    intro g146 w143 b145 ch144 bx147
    replace bx147:Bx g146 (is 5) w143 b145 [vi 0,vi 0]:=bx147
    refine lo (aT (cs':=[vi ((gI g.2 ↑e).1),vi ((gI g.2 ↑e).2)]) b7 rfl rfl bx147 rfl nq (AllOne.all (.cons rfl (.cons rfl .nil))) rfl ?_)
    intro w148 ch149 bx150
    clear bx147
    refine ab ?_
    refine dX (σ:=aG) (λgq f w=>bn w0 gq w/\f 1=vp b3 0/\f 6=v10/\f 49=g_v/\f 50=vi (g.2.length:Int)/\f 51=vi ↑e/\Sl gq (is 0) w g_v g.2/\Bx gq (is 1) w b3 [vi g.1,g_v]/\Md gq (is 2) w v10 ((λq=>if q=(min ((gI g.2 ↑e).1) ((gI g.2 ↑e).2),max ((gI g.2 ↑e).1) ((gI g.2 ↑e).2)) then((mq.1 (min ((gI g.2 ↑e).1) ((gI g.2 ↑e).2),max ((gI g.2 ↑e).1) ((gI g.2 ↑e).2)))+1) else mq.1 q),j7 mq.2 (min ((gI g.2 ↑e).1) ((gI g.2 ↑e).2),max ((gI g.2 ↑e).1) ((gI g.2 ↑e).2))).1 ((λq=>if q=(min ((gI g.2 ↑e).1) ((gI g.2 ↑e).2),max ((gI g.2 ↑e).1) ((gI g.2 ↑e).2)) then((mq.1 (min ((gI g.2 ↑e).1) ((gI g.2 ↑e).2),max ((gI g.2 ↑e).1) ((gI g.2 ↑e).2)))+1) else mq.1 q),j7 mq.2 (min ((gI g.2 ↑e).1) ((gI g.2 ↑e).2),max ((gI g.2 ↑e).1) ((gI g.2 ↑e).2))).2) g146 [0,1,2,3,4,5,6,7,8,9,10,11,13,15] kU ?_ ?_
    ·
     intro mid
     intro w152 ch151
     refine xp (v:=v10) 0 rfl (λw=>au zs6) (xv 1 [0,3,6,8,4,7,9,10] rfl (aM dI rfl rfl rfl (by decide) (by decide) rfl) ?_)
     replace bx150:=bx150.cn ch151
     refine xv 2 [1,0,3,6,8,4,7,9,10] rfl (ae aj rfl bx150 rfl) (xv 3 [2,1,0,6,8,7,9,10] rfl (aM dI rfl rfl rfl (by decide) (by decide) rfl) (xv 4 [3,2,1,0,6,8,7,9,10] rfl (ae aj rfl bx150 rfl) (xp (v:=vi (min ((gI g.2 ↑e).1) ((gI g.2 ↑e).2))) 5 rfl (λw=>nf rfl rfl) (xv 6 [5,4,3,2,1,0,8,9] rfl (aM dI rfl rfl rfl (by decide) (by decide) rfl) (xv 7 [6,5,4,3,2,1,0,8,9] rfl (ae aj rfl bx150 rfl) (xv 8 [7,6,5,4,3,2,1,0] rfl (aM dI rfl rfl rfl (by decide) (by decide) rfl) (xv 9 [8,7,6,5,4,3,2,1,0] rfl (ae aj rfl bx150 rfl) (xp (v:=vi (max ((gI g.2 ↑e).1) ((gI g.2 ↑e).2))) 10 rfl (λw=>rR rfl rfl) ?_))))))))
     refine xp (v:=vg [vi (min ((gI g.2 ↑e).1) ((gI g.2 ↑e).2)),vi (max ((gI g.2 ↑e).1) ((gI g.2 ↑e).2))]) 11 rfl (λw=>bS (vs:=[(0,vi (min ((gI g.2 ↑e).1) ((gI g.2 ↑e).2))),(1,vi (max ((gI g.2 ↑e).1) ((gI g.2 ↑e).2)))]) rfl (by kernel_rfl)) ?_
     refine gc 12 14 rfl rfl (by kernel_rfl) rfl rfl ?_ ?_
     ·
      have C153:=cg [5] (ch144.n.seq ((ch149.l rfl).seq ch151.n))
      replace m12:=m12.ca C153
      refine aL (v:=vi (mq.1 (min ((gI g.2 ↑e).1) ((gI g.2 ↑e).2),max ((gI g.2 ↑e).1) ((gI g.2 ↑e).2)))) (dN (min ((gI g.2 ↑e).1) ((gI g.2 ↑e).2),max ((gI g.2 ↑e).1) ((gI g.2 ↑e).2)) lA (bX dI U3 aj) aj rfl m12.mp rfl rfl) (xp 13 rfl (λw=>aI (m:=mq.1 (min ((gI g.2 ↑e).1) ((gI g.2 ↑e).2),max ((gI g.2 ↑e).1) ((gI g.2 ↑e).2))) (n:=1) rfl rfl (by omega)) (bB 14 rfl (by kernel_rfl) rfl (fv (min ((gI g.2 ↑e).1) ((gI g.2 ↑e).2),max ((gI g.2 ↑e).1) ((gI g.2 ↑e).2)) lA (bX dI U3 aj) aj rfl m12 rfl rfl ?_)))
      intro w154 s157 ch155 m156
      clear m12
      refine xp 15 rfl (λw=>aJ rfl rfl) (bB 16 rfl (by kernel_rfl) rfl (eG rfl m156 rfl rfl ?_))
      intro w158 ch159 m160
      clear m156
      refine cA (by kernel_rfl) ?_
      have C161:=cg [2,5] (ch144.n.seq ((ch149.l rfl).seq (ch151.n.seq ((ch155.l rfl).seq (ch159.l rfl)))))
      exact mid (g146) _ _ ⟨bH.ca C161,zs1,zs6,zs49,zs50,zs51,Rg.ca C161,bx5.ca C161,m160⟩
     ·
      have C166:=cg [5] (ch144.n.seq ((ch149.l rfl).seq ch151.n))
      replace m12:=m12.ca C166
      refine fv (min ((gI g.2 ↑e).1) ((gI g.2 ↑e).2),max ((gI g.2 ↑e).1) ((gI g.2 ↑e).2)) lA (bX dI U3 aj) aj rfl m12 rfl rfl ?_
      intro w162 s165 ch163 m164
      clear m12
      refine xp 15 rfl (λw=>aJ rfl rfl) (bB 12 rfl (by kernel_rfl) rfl (aL (v:=vi (mq.1 (min ((gI g.2 ↑e).1) ((gI g.2 ↑e).2),max ((gI g.2 ↑e).1) ((gI g.2 ↑e).2)))) (dN (min ((gI g.2 ↑e).1) ((gI g.2 ↑e).2),max ((gI g.2 ↑e).1) ((gI g.2 ↑e).2)) lA (bX dI U3 aj) aj rfl m164.md.mp rfl rfl) (xp 13 rfl (λw=>aI (m:=mq.1 (min ((gI g.2 ↑e).1) ((gI g.2 ↑e).2),max ((gI g.2 ↑e).1) ((gI g.2 ↑e).2))) (n:=1) rfl rfl (by omega)) (bB 16 rfl (by kernel_rfl) rfl (eG rfl m164 rfl rfl ?_)))))
      intro w167 ch168 m169
      clear m164
      refine cA (by kernel_rfl) ?_
      have C170:=cg [2,5] (ch144.n.seq ((ch149.l rfl).seq (ch151.n.seq ((ch163.l rfl).seq (ch168.l rfl)))))
      exact mid (g146) _ _ ⟨bH.ca C170,zs1,zs6,zs49,zs50,zs51,Rg.ca C170,bx5.ca C170,m169⟩
    clear Rg bx5 m12 bx150 bH
    rintro g173 f171 w172 ⟨bH,zs1,zs6,zs49,zs50,zs51,Rg,bx5,m157⟩
    refine am (a8 rfl (lx (aI (m:=↑e) (n:=1) zs51 rfl (by omega)) (mi ((e:Int)+1) (ab ?_))))
    refine back14 (e+1,((λq=>if q=(min ((gI g.2 ↑e).1) ((gI g.2 ↑e).2),max ((gI g.2 ↑e).1) ((gI g.2 ↑e).2)) then((mq.1 (min ((gI g.2 ↑e).1) ((gI g.2 ↑e).2),max ((gI g.2 ↑e).1) ((gI g.2 ↑e).2)))+1) else mq.1 q),j7 mq.2 (min ((gI g.2 ↑e).1) ((gI g.2 ↑e).2),max ((gI g.2 ↑e).1) ((gI g.2 ↑e).2))),g173) _ _ ⟨bH,zs1,zs6,zs49,zs50,rfl,Rg,bx5,m157,by omega,?_⟩ ?_
    · show rV g (g.2.map fZ) (eT (dK g) [] (dK g).length) (e+1) (1048576+(e+1)) ((λq=>if q=(min ((gI g.2 ↑e).1) ((gI g.2 ↑e).2),max ((gI g.2 ↑e).1) ((gI g.2 ↑e).2)) then((mq.1 (min ((gI g.2 ↑e).1) ((gI g.2 ↑e).2),max ((gI g.2 ↑e).1) ((gI g.2 ↑e).2)))+1) else mq.1 q),j7 mq.2 (min ((gI g.2 ↑e).1) ((gI g.2 ↑e).2),max ((gI g.2 ↑e).1) ((gI g.2 ↑e).2)))
      exact hsq.next (by rw[List.length_map];assumption) (by rw[pB fZ (by omega) (by omega)];rfl) rfl rfl
    · show Int.toNat (((g.2.length:Int):Int)-((e+1):Int))<Int.toNat (((g.2.length:Int):Int)-(e:Int))
      omega
   refine ag rfl (df p14) (aH rfl (aa (a8 rfl (ma vn (ab (aa (aa ?_)))))))
   have hD:mq.2=gP g:=hsq.done (by omega) ‹_›
   have hDl:(mq.2.length:Int)<=1051648:=by rw[hD];exact hkl
   refine a8 rfl (mz zs6 (lo (uk (J:=is 2) (2,0) rfl lA rfl m12 ?_)))
   intro g174 w175 v176 ch177 m178
   refine ab (ao ?_)
   refine aY (σ:=Value×(List Pt)×(List Pt)×aG) (λ⟨l_v,l,SS,gq⟩ f w=>bn w0 gq w/\f 1=vp b3 0/\f 11=l_v/\f 73=v176/\Sl gq (is 0) w g_v g.2/\Bx gq (is 1) w b3 [vi g.1,g_v]/\Mi gq (is 2) w v10 v176 mq.1 mq.2 SS/\Ow gq (is 8) (is 8) w l_v l/\(ou g mq.2 SS l)) (λ⟨l_v,l,SS,gq⟩=>(mq.2.length-SS.length)) (vn,[],([]:List Pt),g174) ?_ ?_
   · exact⟨bH.cn ch177,zs1,rfl,rfl,Rg.cn ch177,bx5.cn ch177,m178,Ow.nil,by exact ou.start⟩
   clear Rg bx5 m178 bH
   rintro⟨l_v,l,SS,g181⟩ f179 w180 ⟨bH,zs1,zs11,zs73,Rg,bx5,m178,o_l,hsi⟩ back20
   have hsil:=hsi.len
   refine aa (a8 rfl (cB rfl (zc zs73 m178 ?_)))
   intro w182 nv183 nb184 ky185 ch186 hn187 hy188 hz189 m190
   clear m178
   refine lw (vb nb184) (tD rfl hn187) (ab (aa ?_))
   by_cases p20:nb184=true
   ·
    refine ah rfl p20 (aq (ao (aa (a8 rfl (lw (vt [vg [vi ky185.1,vi ky185.2],vi (mq.1 ky185)]) (uN (by exact zs73) m190 p20) (lx (aJ rfl rfl) (lo (bP g181 (is 6) (6,0) rfl b7 ?_))))))))
    intro g194 w191 b193 ch192 bx195
    replace bx195:Bx g194 (is 6) w191 b193 [vi 0,vi 0]:=bx195
    refine lo (aT (cs':=[vi ky185.1,vi ky185.2]) b7 rfl rfl bx195 rfl nq (AllOne.all (.cons rfl (.cons rfl .nil))) rfl ?_)
    intro w196 ch197 bx198
    clear bx195
    refine ab (aa (a8 rfl ?_))
    have C199:=cg [2,6] ((ch186.l rfl).seq (ch192.n.seq (ch197.l rfl)))
    replace bx5:=bx5.ca C199
    refine lx (aB (ds:=[vi g.1,g_v]) aK zs1 bx5 rfl rfl) (lx (aM dI rfl rfl rfl (by decide) (by decide) rfl) (lx (ae aj rfl bx198 rfl) (lx (aM dI rfl rfl rfl (by decide) (by decide) rfl) (lx (ae aj rfl bx198 rfl) ?_))))
    replace Rg:=Rg.ca C199
    refine lo (bW (v:=vb (eD g ky185.1 ky185.2)) (aN (vals:=[vg [vi g.1,g_v],vi ky185.1,vi ky185.2]) Try.func34 ru rH rfl) (pc w196 g g_v (Rg).ro ky185.1 ky185.2 (by exact hm)) ?_)
    intro w200 hb201
    replace hb201:=aS hb201 g194
    refine ab ?_
    by_cases p22:(eD g ky185.1 ky185.2)=true
    ·
     refine ah rfl p22 ?_
     have hq:SS.length+1<=mq.2.length:=lK ‹_› ‹_›
     refine a8 rfl (mz zs11 ?_)
     replace bx198:=bx198.cn hb201
     refine lx (aB (ds:=[vi ky185.1,vi ky185.2]) b7 rfl bx198 rfl rfl) (lo (aC (α:=Pt) g194 (is 7) (is 7) (7,0) rfl ([ky185]:List Pt) dc b7 (by decide) (by decide) (vs:=[(0,vg [vi ky185.1,vi ky185.2])]) rfl rfl (.cons rfl .nil) ?_))
     intro g202 w203 v204 ch205 o206
     refine lo ?_
     have C207:=cg [2,6] ((ch186.l rfl).seq (ch192.n.seq ((ch197.l rfl).seq (hb201.n.seq ch205.n))))
     replace o_l:=o_l.ca C207
     refine bf (α:=Pt) (xs:=l) (ys:=([ky185]:List Pt)) g202 (J:=is 8) (S:=is 8) (8,0) rfl dc b7 (by decide) rfl rfl rfl o_l o206.flat (by decide) (by(simp;omega)) ?_
     intro g208 w209 v210 ch211 o212
     clear o_l
     refine ma v210 (ab (am ?_))
     have C213:=cg [2,6,8] ((ch186.l rfl).seq (ch192.n.seq ((ch197.l rfl).seq (hb201.n.seq (ch205.n.seq (ch211.l rfl))))))
     have C214:=cg [8] (hb201.n.seq (ch205.n.seq (ch211.l rfl)))
     have C215:=cg [6,8] (ch192.n.seq ((ch197.l rfl).seq (hb201.n.seq (ch205.n.seq (ch211.l rfl)))))
     refine back20 (v210,(l++([ky185]:List Pt)),(sc nb184 SS ky185),g208) _ _ ⟨bH.ca C213,zs1,rfl,zs73,Rg.ca C214,bx5.ca C214,m190.ca C215,o212,?_⟩ ?_
     · show ou g mq.2 (sc nb184 SS ky185) (l++([ky185]:List Pt))
       exact hsi.yes ‹_› ‹_› ‹_›
     · show(mq.2.length-(sc nb184 SS ky185).length)<(mq.2.length-SS.length)
       (rw[ni ‹_›,List.length_append];have hq:SS.length+1<=mq.2.length:=lK ‹_› ‹_›;simp only[List.length_cons,List.length_nil];omega)
    refine ag rfl (Bool.eq_false_iff.2 p22) (aq (am ?_))
    have C216:=cg [2,6] ((ch186.l rfl).seq (ch192.n.seq ((ch197.l rfl).seq hb201.n)))
    have C217:=cg [6] (ch192.n.seq ((ch197.l rfl).seq hb201.n))
    refine back20 (l_v,l,(sc nb184 SS ky185),g194) _ _ ⟨bH.ca C216,zs1,zs11,zs73,Rg.cn hb201,bx5.cn hb201,m190.ca C217,o_l.ca C216,?_⟩ ?_
    · show ou g mq.2 (sc nb184 SS ky185) l
      exact hsi.no ‹_› ‹_› ‹_›
    · show(mq.2.length-(sc nb184 SS ky185).length)<(mq.2.length-SS.length)
      (rw[ni ‹_›,List.length_append];have hq:SS.length+1<=mq.2.length:=lK ‹_› ‹_›;simp only[List.length_cons,List.length_nil];omega)
   refine ag rfl (Bool.eq_false_iff.2 p20) (aH rfl (aa ?_))
   clear bx5 m190
   have hsp:jL l=kB g:=hsi.done hD ‹_› ‹_›
   refine a8 rfl (mz zs11 (lo ?_))
   replace o_l:=o_l.ce ch186
   refine bQ (σ:=Unit) (V:=λ_=>Value.tuple #[]) (aN (vals:=[l_v,Value.func (.func 36) #[] #[]]) Try.func35 qS sa rfl) (rM o_l) ?_
   rintro⟨⟩ w218 ⟨ch219,o220⟩
   clear o_l
   refine ab (aa (a8 rfl (mz zs11 (ma l_v (ai 0 (ab (aD (vs:=[l_v,vi 0]) Try.func12 (.tmp rfl (.tmp rfl .nil)) ?_)))))))
   replace bH:=bH.ce ch186
   replace bH:=bH.ce ch219
   have e0:((jL l):List Pt)=((aW g).1):=by
     (rw[qb ‹_› ‹_›];exact hsp)
   have e1:(0:Int)=((aW g).2):=by
     rw[qb ‹_› ‹_›]
   exact⟨(fin w0 g181 (λn=>if n=8 then 1 else 0),l_v),(cT (a:=(jL l)) (b:=0) (λ(z0:List Pt) (z1:Int)=>Ending.returned (vt [l_v,vi z1])) e0 e1),bH.fresh _,(e0▸(o220.glue (γ:=c0) (ren:=(λn=>if n=8 then 1 else 0)) (k:=1) bH.col rfl rfl))⟩
  refine ah rfl (congrArg Bool.not (Bool.eq_false_iff.2 p4)) (aa ?_)
  clear bx5
  refine a8 rfl (ma vn (ai 7 (ab (aD (vs:=[vn,vi 7]) Try.func12 (.tmp rfl (.tmp rfl .nil)) ?_))))
  replace bH:=bH.cn ch2
  replace bH:=bH.cn hb7
  have e0:([]:List Pt)=((aW g).1):=by
    rw[Bd ‹_› ‹_›]
  have e1:(7:Int)=((aW g).2):=by
    rw[Bd ‹_› ‹_›]
  exact⟨(fin w0 g4 (λn=>0),vn),(cT (a:=[]) (b:=7) (λ(z0:List Pt) (z1:Int)=>Ending.returned (vt [vn,vi z1])) e0 e1),bH.fresh _,(e0▸Ow.nil)⟩
 refine ah rfl (congrArg Bool.not (df p2)) (aa ?_)
 clear bx5
 refine a8 rfl (mi ((cC g).2) (ma vn (ai ((cC g).2) (ab (aD (vs:=[vn,vi ((cC g).2)]) Try.func12 (.tmp rfl (.tmp rfl .nil)) ?_)))))
 replace bH:=bH.cn ch2
 replace bH:=bH.cn hb7
 have e0:([]:List Pt)=((aW g).1):=by
   rw[yo ‹_›]
 have e1:((cC g).2:Int)=((aW g).2):=by
   rw[yo ‹_›]
 exact⟨(fin w0 g4 (λn=>0),vn),(cT (a:=[]) (b:=(cC g).2) (λ(z0:List Pt) (z1:Int)=>Ending.returned (vt [vn,vi z1])) e0 e1),bH.fresh _,(e0▸Ow.nil)⟩
end TL
