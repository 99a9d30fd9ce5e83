import Derived.Test.YtbpphaeianpdpaaPnTlP2
import Derived.Test.YtbpphaeianpdpaaPnTlGmA
import Derived.Test.YtbpphaeianpdpaaPnTlGenA
import Derived.Test.YtbpphaeianpdpaaPnTlPwA
import Derived.Test.YtbpphaeianpdpaaPnTlPwF
import Derived.Test.YtbpphaeianpdpaaPnTlPwT
import Derived.Test.YtbpphaeianpdpaaPnTlPwS
import Derived.Test.YtbpphaeianpdpaaPnTlPwR
import Derived.Test.YtbpphaeianpdpaaPnTlPwB
import Derived.Test.YtbpphaeianpdpaaPnTlPwW
import Derived.Test.YtbpphaeianpdpaaProg
import Derived.Test.YtbpphaeianpdpaaPnTlAli
set_option linter.all false
set_option maxRecDepth 20000
namespace TL
open Go Go.Proofs
theorem fE:Try.prog.follows .mixedOrders=true:=by kernel_rfl
theorem oF:Try.f9.body.isNone=false:=rfl
theorem o4:(Try.f9.name== "runtime.NumGoroutine")=false:=by decide+kernel
theorem mS:Try.f10.body.isNone=false:=rfl
theorem mc:(Try.f10.name== "runtime.NumGoroutine")=false:=by decide+kernel
theorem mT:Try.f11.body.isNone=false:=rfl
theorem mP:(Try.f11.name== "runtime.NumGoroutine")=false:=by decide+kernel
theorem mr:Try.f18.body.isNone=false:=rfl
theorem nc:(Try.f18.name== "runtime.NumGoroutine")=false:=by decide+kernel
theorem fo:Try.f28.body.isNone=false:=rfl
theorem fk:(Try.f28.name== "runtime.NumGoroutine")=false:=by decide+kernel
set_option maxHeartbeats 8000000 in
theorem i6(w0:World)(g:(Int)×(List Pt))(g_v:Value)(hg_v:Ro w0 g_v g.2)(us:List Wd)(us_v:Value)(hus_v:Ro w0 us_v us)(s:Int):
    Calls Try.prog 5 #[vg [vi g.1,g_v],us_v,vi s] w0 (λee w=>ee= .returned (vb true)/\bR w0.heap.size w0 w):=by
 refine ap Try.func5 rfl nq ?_
 have bH:=aX.start w0
 have Rg:=hg_v.sl
 have Rus:=hus_v.sl
 refine a8 (a7 rfl (cS rfl (cM c0 (is 1) (1,0) rfl rfl ?_)))
 intro g4 w1 b3 ch2 bx5
 replace bx5:Bx g4 (is 1) w1 b3 [vi g.1,g_v]:=bx5
 refine ma (vb false) (aa (a8 (a8 (a7 rfl (cS rfl (bi (v:=vb true) (aC (vals:=[]) Try.func9 oF o4 rfl) (k7 w1) ?_))))))
 intro w6 hb7
 replace hb7:=az hb7 g4
 refine lx (cB (b:=true) rfl) (aa (af rfl rfl (ao (a8 (a8 (a7 rfl ?_))))))
 replace bx5:=bx5.cn hb7
 refine lx (aJ (ds:=[vi g.1,g_v]) bu rfl bx5 rfl rfl) ?_
 replace Rg:=(Rg.cn ch2).cn hb7
 refine lo (bi (v:=vb (decide (g.2.length<=300/\(g.1<=300\/¬bj g)))) (aC (vals:=[vg [vi g.1,g_v]]) Try.func10 mS mc rfl) (kR w6 g g_v (Rg).ro) ?_)
 intro w8 hb9
 replace hb9:=az hb9 g4
 refine lx (cB (b:=(decide (g.2.length<=300/\(g.1<=300\/¬bj g)))) rfl) (aa ?_)
 by_cases p3:(decide (g.2.length<=300/\(g.1<=300\/¬bj g)))=true
 ·
  refine af rfl (congrArg Bool.not p3) (ao (a8 (a7 rfl (mv us_v ?_))))
  have C10:=cg [] (ch2.n.seq (hb7.n.seq hb9.n))
  replace Rus:=Rus.ca C10
  refine lo (bo (aC (vals:=[us_v]) Try.func11 mT mP rfl) (pv w8 us us_v (Rus).ro) ?_)
  rintro⟨d12,v14⟩ w11 ⟨fr13,o15⟩
  obtain⟨g16,ch17,G16⟩:=lM g4 fr13 (λn=>if n=1 then 2 else 0)
  replace o15:=o15.gl G16 2
  refine ma v14 (aa (a8 (a7 rfl ?_)))
  replace bx5:=(bx5.cn hb9).cn ch17
  refine lx (aJ (ds:=[vi g.1,g_v]) bu rfl bx5 rfl rfl) (mv v14 (mi s ?_))
  replace Rg:=(Rg.cn hb9).cn ch17
  refine lo (bo (aC (vals:=[vg [vi g.1,g_v],v14,vi s]) Try.func12 jp jN rfl) (iu w11 g g_v (Rg).ro (au us) v14 (o15.flat).ro s) ?_)
  rintro⟨d19,v21,v23⟩ w18 ⟨fr20,o22,o24⟩
  obtain⟨g25,ch26,G25⟩:=lM g16 fr20 (λn=>if n=1 then 3 else if n=2 then 4 else 0)
  replace o22:=o22.gl G25 3
  replace o24:=o24.gl G25 4
  refine mv (vt [vg [v21,v23],vi ((aj g (au us) s).2)]) (lx (bI rfl rfl) (lx (bI rfl rfl) (lo (bU g25 (is 5) (5,0) rfl aZ ?_))))
  intro g30 w27 b29 ch28 bx31
  replace bx31:Bx g30 (is 5) w27 b29 [vn,vn]:=bx31
  refine lo ?_
  replace o24:=o24.cn ch28
  replace o22:=o22.cn ch28
  refine aT (cs':=[v21,v23]) aZ rfl rfl bx31 rfl nq (AllOne.all (.cons (bD o22.flat) (.cons (bD o24.flat) .nil))) rfl ?_
  intro w32 ch33 bx34
  clear bx31
  refine ai ((aj g (au us) s).2) (aa (a8 (a8 (a7 rfl (mi ((aj g (au us) s).2) (lx (ct (m:=(aj g (au us) s).2) (n:=0) rfl rfl) (aa ?_)))))))
  by_cases p7:((aj g (au us) s).2)=0
  ·
   obtain⟨hm,hwl,hwg,hsn,rk,hE⟩:=lQ p7
   have hm0:=hm
   obtain⟨hm1,hm2,hm3,hm4⟩:=hm0
   have hlf:=hE.lf
   have hlb:=hE.lb
   refine af rfl (congrArg Bool.not (dt p7)) (ao (a8 (a8 (a7 rfl (ai 0 (aa (ar ?_)))))))
   refine b7 (σ:=Nat×ay) (λ⟨h,gq⟩ f w=>aX w0 gq w/\f 2=vi s/\f 3=vp b3 0/\f 7=v14/\f 8=vp b29 0/\f 10=vi ↑h/\Sl gq (is 0) w g_v g.2/\Sl gq (is 0) w us_v us/\Bx gq (is 1) w b3 [vi g.1,g_v]/\Ow gq (is 2) (is 2) w v14 (au us)/\Ow gq (is 3) (is 3) w v21 (((aj g (au us) s).1).1)/\Ow gq (is 4) (is 4) w v23 (((aj g (au us) s).1).2)/\Bx gq (is 5) w b29 [v21,v23]/\(h:Int)<=(2*(g.2.length:Int):Int)/\(True)) (λ⟨h,gq⟩=>2*g.2.length-h) (0,g30) ?_ ?_
   have C36:=cg [5] (ch26.n.seq (ch28.n.seq (ch33.l rfl)))
   have C37:=ch17.n.seq C36
   have C35:=ch2.n.seq (hb7.n.seq (hb9.n.seq C37))
   · exact⟨bH.ca C35,rfl,rfl,rfl,rfl,rfl,Rg.ca C36,Rus.ca C37,bx5.ca C36,o15.ca C36,o22.ce ch33,o24.ce ch33,bx34,by omega,by trivial⟩
   clear Rg Rus bx5 o15 o22 o24 bx34 bH
   rintro⟨h,g40⟩ f38 w39 ⟨bH,zs2,zs3,zs7,zs8,zs10,Rg,Rus,bx5,o15,o22,o24,bx34,hle_h,hinv⟩ back10
   refine a8 (a8 (a7 rfl (mz zs10 (lx (ah db rfl rfl zs3 rfl) (lx (ag bv rfl bx5 rfl) ?_)))))
   have len41:=(Rg).small
   refine lx (bc fg rfl Rg) (lx (gu (m:=2) (n:=(g.2.length:Int)) rfl rfl (by omega)) (lx (b6 (m:=↑h) (n:=2*(g.2.length:Int)) rfl rfl) (aa ?_)))
   by_cases p10:(h:Int)<(2*(g.2.length:Int))
   ·
    refine ae rfl (dt p10) ?_
    have hfv:=bN hm (h:=(h:Int)) (by omega) (by omega)
    have htv:=fD hm (h:=(h:Int)) (by omega) (by omega)
    refine ao (a8 (ar (a8 (bG g40 rfl fE (by kernel_rfl) ?_))))
    intro w43 ch42
    replace bx5:=bx5.cn ch42
    refine qx (λw' hw'=>aJ (ds:=[vi g.1,g_v]) bu zs3 (bx5.bel hw') rfl rfl) (qz zs10 ?_)
    replace Rg:=Rg.cn ch42
    refine bY (v:=vi (aH g (h:Int))) rfl (λw' hw'=>aC (vals:=[vg [vi g.1,g_v],vi ↑h]) Try.func23 gV gW rfl) (λw' hw'=>(gF w' g g_v ((Rg.bel hw')).ro (h:Int) (by omega) (by omega)).mono λe w2 h2=>⟨h2.1,hw'.trans (h2.2.mono hw'.size)⟩) (qx (λw' hw'=>aJ (ds:=[vi g.1,g_v]) bu zs3 (bx5.bel hw') rfl rfl) (qz zs10 (bY (v:=vi (cz g (h:Int))) rfl (λw' hw'=>aC (vals:=[vg [vi g.1,g_v],vi ↑h]) Try.func24 gN i5 rfl) (λw' hw'=>(jc w' g g_v ((Rg.bel hw')).ro (h:Int) (by omega) (by omega)).mono λe w2 h2=>⟨h2.1,hw'.trans (h2.2.mono hw'.size)⟩) (qv (vi (aH g (h:Int))) (λw' hw'=>bn rfl) ?_))))
    refine qv (vi (cz g (h:Int))) (λw' hw'=>bn rfl) (cr ?_)
    intro w44 hc45
    replace hc45:=az hc45 g40
    refine a8 (a8 (a7 rfl (lx (ah fY rfl rfl zs8 rfl) ?_)))
    replace bx34:=(bx34.cn ch42).cn hc45
    refine lx (ag bS rfl bx34 rfl) (mi (aH g (h:Int)) ?_)
    replace o22:=(o22.cn ch42).cn hc45
    refine lx (ad (v:=v21) (i:=aH g (h:Int)) dw rfl rfl o22.flat rfl (by omega) (by omega)) (lx (ax (v:=v21) (i:=aH g (h:Int)) aM rfl o22.flat (by omega) (by omega) (by decide) rfl) (lo (bi (v:=vb (bL (gI (((aj g (au us) s).1).1) (aH g (h:Int))) 9218868437227405311)) (aC (vals:=[Value.float .f64 (gI (((aj g (au us) s).1).1) (aH g (h:Int))),vi 1]) Try.func25 fq fj rfl) (dc w44 (gI (((aj g (au us) s).1).1) (aH g (h:Int))) 1 (by rfl)) ?_)))
    intro w46 hb47
    replace hb47:=az hb47 g40
    refine mv (vb (bL (gI (((aj g (au us) s).1).1) (aH g (h:Int))) 9218868437227405311)) ?_
    by_cases q64:(bL (gI (((aj g (au us) s).1).1) (aH g (h:Int))) 9218868437227405311)=true
    ·
     refine ak (wn q64) (ak (wn q64) (ak (wn q64) (ak (wn q64) (ak (wn q64) (ak (wn q64) (lw (vb true) (aE rfl q64 rfl) (aa (ae rfl rfl (aI rfl (a7 rfl (mz zs10 (lx (bf (m:=↑h) (n:=1) rfl rfl (by omega)) (ai ((h:Int)+1) (aa ?_))))))))))))))
     have C48:=cg [] (ch42.n.seq (hc45.n.seq hb47.n))
     refine back10 (h+1,g40) _ _ ⟨bH.ca C48,zs2,zs3,zs7,zs8,rfl,(Rg.cn hc45).cn hb47,Rus.ca C48,(bx5.cn hc45).cn hb47,o15.ca C48,o22.cn hb47,o24.ca C48,bx34.cn hb47,by omega,?_⟩ ?_
     · show True
       trivial
     · show 2*g.2.length-(h+1)<2*g.2.length-h
       omega
    refine lv (v14) (wy (Bool.eq_false_iff.2 q64)) (al zs7) (lv (vi ↑h) (wy (Bool.eq_false_iff.2 q64)) (al zs10) (lv (vi ((h:Int)/2)) (wy (Bool.eq_false_iff.2 q64)) (dD (m:=↑h) (n:=2) rfl rfl (by omega) (by omega) (by omega)) ?_))
    have C49:=cg [] (ch42.n.seq (hc45.n.seq hb47.n))
    replace o15:=o15.ca C49
    refine lv (Value.pointer (some (aG v14 1 (Int.toNat ((h:Int)/2))))) (wy (Bool.eq_false_iff.2 q64)) (ad (α:=Nat) (xs:=au us) (v:=v14) (i:=(h:Int)/2) dw rfl rfl o15.flat rfl (by omega) (by omega)) (lv (Value.float .f64 (gI (au us) ((h:Int)/2))) (wy (Bool.eq_false_iff.2 q64)) (ax (α:=Nat) (xs:=au us) (v:=v14) (i:=(h:Int)/2) aM rfl o15.flat (by omega) (by omega) (by decide) rfl) (cS (wy (Bool.eq_false_iff.2 q64)) (bi (v:=vb (bL (gI (au us) ((h:Int)/2)) 9218868437227405311)) (aC (vals:=[Value.float .f64 (gI (au us) ((h:Int)/2)),vi 1]) Try.func25 fq fj rfl) (dc w46 (gI (au us) ((h:Int)/2)) 1 (by rfl)) ?_)))
    intro w50 hb51
    replace hb51:=az hb51 g40
    refine lw (vb (bL (gI (au us) ((h:Int)/2)) 9218868437227405311)) (aA rfl (Bool.eq_false_iff.2 q64) rfl) (aa ?_)
    by_cases p13:(bL (gI (au us) ((h:Int)/2)) 9218868437227405311)=true
    ·
     refine ae rfl p13 (aI rfl (a7 rfl (mz zs10 (lx (bf (m:=↑h) (n:=1) rfl rfl (by omega)) (ai ((h:Int)+1) (aa ?_))))))
     have C53:=cg [] (hc45.n.seq (hb47.n.seq hb51.n))
     have C52:=ch42.n.seq C53
     refine back10 (h+1,g40) _ _ ⟨bH.ca C52,zs2,zs3,zs7,zs8,rfl,Rg.ca C53,Rus.ca C52,bx5.ca C53,o15.cn hb51,(o22.cn hb47).cn hb51,o24.ca C52,(bx34.cn hb47).cn hb51,by omega,?_⟩ ?_
     · show True
       trivial
     · show 2*g.2.length-(h+1)<2*g.2.length-h
       omega
    refine af rfl (Bool.eq_false_iff.2 p13) (ao (a8 (bG g40 rfl fE (by kernel_rfl) ?_)))
    intro w55 ch54
    refine qx (λw' hw'=>ah fY rfl rfl zs8 rfl) ?_
    have C56:=cg [] (hb47.n.seq (hb51.n.seq ch54.n))
    replace bx34:=bx34.ca C56
    refine qx (λw' hw'=>ag bS rfl (bx34.bel hw') rfl) (qm (vi (aH g (h:Int))) ?_)
    replace o22:=o22.ca C56
    refine qx (λw' hw'=>ad (v:=v21) (i:=aH g (h:Int)) dw rfl rfl (o22.flat.bel hw') rfl (by omega) (by omega)) (qx (λw' hw'=>ax (v:=v21) (i:=aH g (h:Int)) aM rfl (o22.flat.bel hw') (by omega) (by omega) (by decide) rfl) (qz zs7 (qz zs10 (qx (λw' hw'=>dD (m:=↑h) (n:=2) rfl rfl (by omega) (by omega) (by omega)) ?_))))
    replace o15:=(o15.cn hb51).cn ch54
    refine qx (λw' hw'=>ad (v:=v14) (i:=(h:Int)/2) dw rfl rfl (o15.flat.bel hw') rfl (by omega) (by omega)) (qx (λw' hw'=>ax (v:=v14) (i:=(h:Int)/2) aM rfl (o15.flat.bel hw') (by omega) (by omega) (by decide) rfl) (bY (v:=Value.float .f64 (aK (gI (((aj g (au us) s).1).1) (aH g (h:Int))) (zf (gI (au us) ((h:Int)/2))))) rfl (λw' hw'=>aC (vals:=[Value.float .f64 (gI (((aj g (au us) s).1).1) (aH g (h:Int))),Value.float .f64 (gI (au us) ((h:Int)/2))]) Try.func27 hF ia rfl) (λw' hw'=>(fp w' (gI (((aj g (au us) s).1).1) (aH g (h:Int))) (gI (au us) ((h:Int)/2)) (by exact hE.nn _ hfv) (by exact fN hwg hwl (by omega) (by omega))).mono λe w2 h2=>⟨h2.1,hw'.trans (h2.2.mono hw'.size)⟩) ?_))
    refine qx (λw' hw'=>ah fY rfl rfl zs8 rfl) (qx (λw' hw'=>ag bS rfl (bx34.bel hw') rfl) (qm (vi (cz g (h:Int))) (qx (λw' hw'=>ad (v:=v21) (i:=cz g (h:Int)) dw rfl rfl (o22.flat.bel hw') rfl (by omega) (by omega)) (qx (λw' hw'=>ax (v:=v21) (i:=cz g (h:Int)) aM rfl (o22.flat.bel hw') (by omega) (by omega) (by decide) rfl) ?_))))
    refine bY (v:=vb (decide (zf (aK (gI (((aj g (au us) s).1).1) (aH g (h:Int))) (zf (gI (au us) ((h:Int)/2))))<zf (gI (((aj g (au us) s).1).1) (cz g (h:Int)))))) rfl (λw' hw'=>aC (vals:=[Value.float .f64 (aK (gI (((aj g (au us) s).1).1) (aH g (h:Int))) (zf (gI (au us) ((h:Int)/2)))),Value.float .f64 (gI (((aj g (au us) s).1).1) (cz g (h:Int)))]) Try.func26 h8 gR rfl) (λw' hw'=>(eJ w' (aK (gI (((aj g (au us) s).1).1) (aH g (h:Int))) (zf (gI (au us) ((h:Int)/2)))) (gI (((aj g (au us) s).1).1) (cz g (h:Int))) (by exact jO (er (hE.nn _ hfv) (fN hwg hwl (by omega) (by omega))).2) (by exact jO (hE.nn _ htv))).mono λe w2 h2=>⟨h2.1,hw'.trans (h2.2.mono hw'.size)⟩) (cr ?_)
    intro w57 hc58
    replace hc58:=az hc58 g40
    have p14:¬((decide (zf (aK (gI (((aj g (au us) s).1).1) (aH g (h:Int))) (zf (gI (au us) ((h:Int)/2))))<zf (gI (((aj g (au us) s).1).1) (cz g (h:Int)))))=true):=by exact lW hm hwg hwl hE (by omega) (by omega) ‹_› ‹_›
    refine af rfl (Bool.eq_false_iff.2 p14) (ao (aw (a7 rfl (mz zs10 (lx (bf (m:=↑h) (n:=1) rfl rfl (by omega)) (ai ((h:Int)+1) (aa ?_)))))))
    have C60:=cg [] (hc45.n.seq (hb47.n.seq (hb51.n.seq (ch54.n.seq hc58.n))))
    have C59:=ch42.n.seq C60
    refine back10 (h+1,g40) _ _ ⟨bH.ca C59,zs2,zs3,zs7,zs8,rfl,Rg.ca C60,Rus.ca C59,bx5.ca C60,o15.cn hc58,o22.cn hc58,o24.ca C59,bx34.cn hc58,by omega,?_⟩ ?_
    · show True
      trivial
    · show 2*g.2.length-(h+1)<2*g.2.length-h
      omega
   refine af rfl (df p10) (aI rfl (a8 (a8 (a7 rfl (ai 0 (aa (ar ?_)))))))
   refine b7 (σ:=Nat×ay) (λ⟨t,gq⟩ f w=>aX w0 gq w/\f 2=vi s/\f 3=vp b3 0/\f 7=v14/\f 8=vp b29 0/\f 13=vi ↑t/\Sl gq (is 0) w g_v g.2/\Sl gq (is 0) w us_v us/\Bx gq (is 1) w b3 [vi g.1,g_v]/\Ow gq (is 2) (is 2) w v14 (au us)/\Ow gq (is 3) (is 3) w v21 (((aj g (au us) s).1).1)/\Ow gq (is 4) (is 4) w v23 (((aj g (au us) s).1).2)/\Bx gq (is 5) w b29 [v21,v23]/\(t:Int)<=(40:Int)/\(True)) (λ⟨t,gq⟩=>g.1.toNat-t) (0,g40) ?_ ?_
   · exact⟨bH,zs2,zs3,zs7,zs8,rfl,Rg,Rus,bx5,o15,o22,o24,bx34,by omega,by trivial⟩
   clear Rg Rus bx5 o15 o22 o24 bx34 bH
   rintro⟨t,g63⟩ f61 w62 ⟨bH,zs2,zs3,zs7,zs8,zs13,Rg,Rus,bx5,o15,o22,o24,bx34,hle_t,hinv1⟩ back17
   refine a8 (a8 (a7 rfl (mz zs13 (lx (ah db rfl rfl zs3 rfl) (lx (ag aB rfl bx5 rfl) (lx (b6 (m:=↑t) (n:=g.1) rfl rfl) (mv (vb (decide ((t:Int)<g.1))) ?_)))))))
   by_cases q93:(t:Int)<g.1
   ·
    refine lv (vi ↑t) (wy (dt q93)) (al zs13) (lv (vb (decide ((t:Int)<40))) (wy (dt q93)) (b6 (m:=↑t) (n:=40) rfl rfl) (lw (vb (decide ((t:Int)<40))) (aE rfl (dt q93) rfl) (aa ?_)))
    by_cases p17:(t:Int)<40
    ·
     refine ae rfl (dt p17) (ao (a8 (ar (a8 (a7 rfl (lx (aJ (ds:=[v21,v23]) aZ zs8 bx34 rfl rfl) (lx (aJ (ds:=[vi g.1,g_v]) bu zs3 bx5 rfl rfl) (mz zs13 (lo (bo (aC (vals:=[vg [v21,v23],vg [vi g.1,g_v],vi ↑t]) Try.func20 jt jV rfl) (l5 w62 ((aj g (au us) s).1) v21 v23 (o22.flat).ro (o24.flat).ro g g_v (Rg).ro (t:Int) (by exact hE.byin hm)) ?_))))))))))
     rintro⟨d65,v67⟩ w64 ⟨fr66,o68⟩
     obtain⟨g69,ch70,G69⟩:=lM g63 fr66 (λn=>if n=1 then 6 else 0)
     replace o68:=o68.gl G69 6
     refine mv (vt [v67,vi ((aW ((aj g (au us) s).1) g (t:Int)).2)]) (lx (bI rfl rfl) (lx (bI rfl rfl) (ma v67 (ai ((aW ((aj g (au us) s).1) g (t:Int)).2) (aa (a8 (a8 (a7 rfl (lx (ah fY rfl rfl zs8 rfl) ?_)))))))))
     replace bx34:=bx34.cn ch70
     refine lx (ag bS rfl bx34 rfl) (mz zs13 ?_)
     replace o22:=o22.cn ch70
     refine lx (ad (v:=v21) (i:=↑t) dw rfl rfl o22.flat rfl (by omega) (by omega)) (lx (ax (v:=v21) (i:=↑t) aM rfl o22.flat (by omega) (by omega) (by decide) rfl) (lo (bi (v:=vb (bL (gI (((aj g (au us) s).1).1) (t:Int)) 9218868437227405311)) (aC (vals:=[Value.float .f64 (gI (((aj g (au us) s).1).1) (t:Int)),vi 1]) Try.func25 fq fj rfl) (dc w64 (gI (((aj g (au us) s).1).1) (t:Int)) 1 (by rfl)) ?_)))
     intro w71 hb72
     replace hb72:=az hb72 g69
     refine aa ?_
     by_cases p20:(bL (gI (((aj g (au us) s).1).1) (t:Int)) 9218868437227405311)=true
     ·
      refine ae rfl p20 (a8 (a8 ?_))
      clear o68
      refine a7 rfl (mi ((aW ((aj g (au us) s).1) g (t:Int)).2) (lx (ct (m:=(aW ((aj g (au us) s).1) g (t:Int)).2) (n:=14) rfl rfl) (aa ?_)))
      have p21:((aW ((aj g (au us) s).1) g (t:Int)).2)=14:=by exact m7 hm hE (by omega) (by omega) ‹_›
      refine af rfl (congrArg Bool.not (dt p21)) (ao (aI rfl (a7 rfl (mz zs13 (lx (bf (m:=↑t) (n:=1) rfl rfl (by omega)) (ai ((t:Int)+1) (aa ?_)))))))
      replace bH:=bH.cn ch70
      refine back17 (t+1,g69) _ _ ⟨bH.cn hb72,zs2,zs3,zs7,zs8,rfl,(Rg.cn ch70).cn hb72,(Rus.cn ch70).cn hb72,(bx5.cn ch70).cn hb72,(o15.cn ch70).cn hb72,o22.cn hb72,(o24.cn ch70).cn hb72,bx34.cn hb72,by omega,?_⟩ ?_
      · show True
        trivial
      · show g.1.toNat-(t+1)<g.1.toNat-t
        omega
     obtain⟨hP1,hP2,hP3⟩:=mX hm hE (by omega) (by omega) p20
     refine af rfl (Bool.eq_false_iff.2 p20) (ao (a8 (a7 rfl (ma (Value.float .f64 0) (aa (a8 (a8 (a7 rfl (ai 0 (aa (ar ?_)))))))))))
     refine b7 (σ:=Fb×Nat×ay) (λ⟨fr,k,gq⟩ f w=>aX w0 gq w/\f 2=vi s/\f 3=vp b3 0/\f 7=v14/\f 8=vp b29 0/\f 13=vi ↑t/\f 14=v67/\f 15=vi ((aW ((aj g (au us) s).1) g (t:Int)).2)/\f 16=Value.float .f64 fr/\f 17=vi ↑k/\Sl gq (is 0) w g_v g.2/\Sl gq (is 0) w us_v us/\Bx gq (is 1) w b3 [vi g.1,g_v]/\Ow gq (is 2) (is 2) w v14 (au us)/\Ow gq (is 3) (is 3) w v21 (((aj g (au us) s).1).1)/\Ow gq (is 4) (is 4) w v23 (((aj g (au us) s).1).2)/\Bx gq (is 5) w b29 [v21,v23]/\Ow gq (is 6) (is 6) w v67 ((aW ((aj g (au us) s).1) g (t:Int)).1)/\(k:Int)<=((List.length ((aW ((aj g (au us) s).1) g (t:Int)).1):Int):Int)/\(fr=eL (au us) (List.take k ((aW ((aj g (au us) s).1) g (t:Int)).1))/\fr<=aD)) (λ⟨fr,k,gq⟩=>Int.toNat (((List.length ((aW ((aj g (au us) s).1) g (t:Int)).1):Int):Int)-(k:Int))) (0,0,g69) ?_ ?_
     replace bH:=bH.cn ch70
     · exact⟨bH.cn hb72,zs2,zs3,zs7,zs8,zs13,rfl,rfl,rfl,rfl,(Rg.cn ch70).cn hb72,(Rus.cn ch70).cn hb72,(bx5.cn ch70).cn hb72,(o15.cn ch70).cn hb72,o22.cn hb72,(o24.cn ch70).cn hb72,bx34.cn hb72,o68.cn hb72,by omega,by exact⟨rfl,by decide⟩⟩
     clear Rg Rus bx5 o15 o22 o24 bx34 o68 bH
     rintro⟨fr,k,g75⟩ f73 w74 ⟨bH,zs2,zs3,zs7,zs8,zs13,zs14,zs15,zs16,zs17,Rg,Rus,bx5,o15,o22,o24,bx34,o68,hle_k,hinv2⟩ back25
     refine a8 (a8 (a7 rfl (mz zs17 (mz zs14 ?_))))
     have len76:=(o68.flat).small
     refine lx (bc cm rfl o68.flat) (lx (b6 (m:=↑k) (n:=(List.length ((aW ((aj g (au us) s).1) g (t:Int)).1):Int)) rfl rfl) (aa ?_))
     by_cases p25:(k:Int)<(List.length ((aW ((aj g (au us) s).1) g (t:Int)).1):Int)
     ·
      refine ae rfl (dt p25) ?_
      obtain⟨hk0,hk1⟩:=fJ hP2 (i:=↑k) (by omega) ‹_›
      refine ao (a8 (ar (a7 rfl (mz zs16 (mz zs7 (mz zs14 (mz zs17 (lx (ad (v:=v67) (i:=↑k) cm rfl rfl o68.flat rfl (by omega) (by omega)) (lx (ax (v:=v67) (i:=↑k) aB rfl o68.flat (by omega) (by omega) (by decide) rfl) ?_)))))))))
      refine lx (dD (m:=(gI ((aW ((aj g (au us) s).1) g (t:Int)).1) (k:Int))) (n:=2) rfl rfl (by omega) (by omega) (by omega)) (lx (ad (v:=v14) (i:=(gI ((aW ((aj g (au us) s).1) g (t:Int)).1) (k:Int))/2) dw rfl rfl o15.flat rfl (by omega) (by omega)) (lx (ax (v:=v14) (i:=(gI ((aW ((aj g (au us) s).1) g (t:Int)).1) (k:Int))/2) aM rfl o15.flat (by omega) (by omega) (by decide) rfl) (lo ?_)))
      refine bi (v:=Value.float .f64 (aK fr (zf (gI (au us) ((gI ((aW ((aj g (au us) s).1) g (t:Int)).1) (k:Int))/2))))) (aC (vals:=[Value.float .f64 fr,Value.float .f64 (gI (au us) ((gI ((aW ((aj g (au us) s).1) g (t:Int)).1) (k:Int))/2))]) Try.func27 hF ia rfl) (fp w74 fr (gI (au us) ((gI ((aW ((aj g (au us) s).1) g (t:Int)).1) (k:Int))/2)) (by exact hinv2.2) (by exact fN hwg hwl (by omega) (by omega))) ?_
      intro w77 hb78
      replace hb78:=az hb78 g75
      refine ma (Value.float .f64 (aK fr (zf (gI (au us) ((gI ((aW ((aj g (au us) s).1) g (t:Int)).1) (k:Int))/2))))) (aa (aw (a7 rfl (mz zs17 (lx (bf (m:=↑k) (n:=1) rfl rfl (by omega)) (ai ((k:Int)+1) (aa ?_)))))))
      refine back25 (aK fr (zf (gI (au us) ((gI ((aW ((aj g (au us) s).1) g (t:Int)).1) (k:Int))/2))),k+1,g75) _ _ ⟨bH.cn hb78,zs2,zs3,zs7,zs8,zs13,zs14,zs15,rfl,rfl,Rg.cn hb78,Rus.cn hb78,bx5.cn hb78,o15.cn hb78,o22.cn hb78,o24.cn hb78,bx34.cn hb78,o68.cn hb78,by omega,?_⟩ ?_
      · show(aK fr (zf (gI (au us) ((gI ((aW ((aj g (au us) s).1) g (t:Int)).1) (k:Int))/2))))=eL (au us) (List.take (k+1) ((aW ((aj g (au us) s).1) g (t:Int)).1))/\(aK fr (zf (gI (au us) ((gI ((aW ((aj g (au us) s).1) g (t:Int)).1) (k:Int))/2))))<=aD
        exact⟨kr hinv2.1 ‹_›,(er hinv2.2 (fN hwg hwl (by omega) (by omega))).2⟩
      · show Int.toNat (((List.length ((aW ((aj g (au us) s).1) g (t:Int)).1):Int):Int)-((k+1):Int))<Int.toNat (((List.length ((aW ((aj g (au us) s).1) g (t:Int)).1):Int):Int)-(k:Int))
        omega
     refine af rfl (df p25) (aI rfl (a8 ?_))
     have hfr:=kv hinv2.1 ‹_›
     refine bG g75 rfl fE (by kernel_rfl) ?_
     intro w80 ch79
     refine qz zs15 (qx (λw' hw'=>ct (m:=(aW ((aj g (au us) s).1) g (t:Int)).2) (n:=0) rfl rfl) (qm (vb (!(decide (((aW ((aj g (au us) s).1) g (t:Int)).2)=0)))) ?_))
     have q132:((aW ((aj g (au us) s).1) g (t:Int)).2)=0:=by exact hP1
     refine av (v:=Value.float .f64 fr) (wy (congrArg Bool.not (dt q132))) (λw' hw'=>al zs16) (av (v:=vp b29 0) (wy (congrArg Bool.not (dt q132))) (λw' hw'=>ah fY rfl rfl zs8 rfl) ?_)
     replace bx34:=bx34.cn ch79
     refine av (v:=v21) (wy (congrArg Bool.not (dt q132))) (λw' hw'=>ag bS rfl (bx34.bel hw') rfl) (av (v:=vi ↑t) (wy (congrArg Bool.not (dt q132))) (λw' hw'=>al zs13) ?_)
     replace o22:=o22.cn ch79
     refine av (v:=Value.pointer (some (aG v21 1 (Int.toNat ↑t)))) (wy (congrArg Bool.not (dt q132))) (λw' hw'=>ad (α:=Nat) (xs:=((aj g (au us) s).1).1) (v:=v21) (i:=↑t) dw rfl rfl (o22.flat.bel hw') rfl (by omega) (by omega)) (av (v:=Value.float .f64 (gI (((aj g (au us) s).1).1) (t:Int))) (wy (congrArg Bool.not (dt q132))) (λw' hw'=>ax (α:=Nat) (xs:=((aj g (au us) s).1).1) (v:=v21) (i:=↑t) aM rfl (o22.flat.bel hw') (by omega) (by omega) (by decide) rfl) ?_)
     refine bY (v:=vb (decide (fr=(gI (((aj g (au us) s).1).1) (t:Int))))) (wy (congrArg Bool.not (dt q132))) (λw' hw'=>aC (vals:=[Value.float .f64 fr,Value.float .f64 (gI (((aj g (au us) s).1).1) (t:Int))]) Try.func18 mr nc rfl) (λw' hw'=>(lO w' fr (gI (((aj g (au us) s).1).1) (t:Int))).mono λe w2 h2=>⟨h2.1,hw'.trans (h2.2.mono hw'.size)⟩) (av (v:=vb (!(decide (fr=(gI (((aj g (au us) s).1).1) (t:Int)))))) (wy (congrArg Bool.not (dt q132))) (λw' hw'=>cB (b:=(decide (fr=(gI (((aj g (au us) s).1).1) (t:Int))))) rfl) (qv (vb (!(decide (fr=(gI (((aj g (au us) s).1).1) (t:Int)))))) (λw' hw'=>aA rfl (congrArg Bool.not (dt q132)) rfl) ?_))
     refine qm (vb (!(decide (fr=(gI (((aj g (au us) s).1).1) (t:Int)))))) ?_
     have q142:(decide (fr=(gI (((aj g (au us) s).1).1) (t:Int))))=true:=by exact dt (hfr.trans hP3)
     refine av (v:=v67) (wy (congrArg Bool.not q142)) (λw' hw'=>al zs14) ?_
     replace o68:=o68.cn ch79
     refine av (v:=vi (List.length ((aW ((aj g (au us) s).1) g (t:Int)).1):Int)) (wy (congrArg Bool.not q142)) (λw' hw'=>bc cm rfl (o68.flat.bel hw')) (av (v:=vb (decide (0<(List.length ((aW ((aj g (au us) s).1) g (t:Int)).1):Int)))) (wy (congrArg Bool.not q142)) (λw' hw'=>dI (m:=(List.length ((aW ((aj g (au us) s).1) g (t:Int)).1):Int)) (n:=0) rfl rfl) (av (v:=vb (decide (0<(List.length ((aW ((aj g (au us) s).1) g (t:Int)).1):Int)))) (wy (congrArg Bool.not q142)) (λw' hw'=>al rfl) ?_))
     by_cases q146:0<(List.length ((aW ((aj g (au us) s).1) g (t:Int)).1):Int)
     ·
      obtain⟨hA0,hA1⟩:=fJ hP2 (i:=0) (by omega) ‹_›
      obtain⟨hB0,hB1⟩:=fJ hP2 (i:=(((aW ((aj g (au us) s).1) g (t:Int)).1).length:Int)-1) (by omega) (by omega)
      replace bx5:=bx5.cn ch79
      refine av (v:=vg [vi g.1,g_v]) (wy (dt q146)) (λw' hw'=>aJ (ds:=[vi g.1,g_v]) bu zs3 (bx5.bel hw') rfl rfl) (av (v:=v67) (wy (dt q146)) (λw' hw'=>al zs14) (av (v:=Value.pointer (some (aG v67 1 (Int.toNat 0)))) (wy (dt q146)) (λw' hw'=>ad (α:=Int) (xs:=(aW ((aj g (au us) s).1) g (t:Int)).1) (v:=v67) (i:=0) cm rfl rfl (o68.flat.bel hw') rfl (by omega) (by omega)) ?_))
      refine av (v:=vi (gI ((aW ((aj g (au us) s).1) g (t:Int)).1) 0)) (wy (dt q146)) (λw' hw'=>ax (α:=Int) (xs:=(aW ((aj g (au us) s).1) g (t:Int)).1) (v:=v67) (i:=0) aB rfl (o68.flat.bel hw') (by omega) (by omega) (by decide) rfl) ?_
      replace Rg:=Rg.cn ch79
      refine bY (v:=vi (aH g (gI ((aW ((aj g (au us) s).1) g (t:Int)).1) 0))) (wy (dt q146)) (λw' hw'=>aC (vals:=[vg [vi g.1,g_v],vi (gI ((aW ((aj g (au us) s).1) g (t:Int)).1) 0)]) Try.func23 gV gW rfl) (λw' hw'=>(gF w' g g_v ((Rg.bel hw')).ro (gI ((aW ((aj g (au us) s).1) g (t:Int)).1) 0) (by omega) (by omega)).mono λe w2 h2=>⟨h2.1,hw'.trans (h2.2.mono hw'.size)⟩) (av (v:=vi s) (wy (dt q146)) (λw' hw'=>al zs2) (av (v:=vb (!(decide ((aH g (gI ((aW ((aj g (au us) s).1) g (t:Int)).1) 0))=s)))) (wy (dt q146)) (λw' hw'=>ct (m:=aH g (gI ((aW ((aj g (au us) s).1) g (t:Int)).1) 0)) (n:=s) rfl rfl) ?_))
      refine av (v:=vb (!(decide ((aH g (gI ((aW ((aj g (au us) s).1) g (t:Int)).1) 0))=s)))) (wy (dt q146)) (λw' hw'=>al rfl) ?_
      have q154:(aH g (gI ((aW ((aj g (au us) s).1) g (t:Int)).1) 0))=s:=by exact hP2.first' ‹_›
      refine av (v:=vg [vi g.1,g_v]) (wy (congrArg Bool.not (dt q154))) (λw' hw'=>aJ (ds:=[vi g.1,g_v]) bu zs3 (bx5.bel hw') rfl rfl) (av (v:=v67) (wy (congrArg Bool.not (dt q154))) (λw' hw'=>al zs14) (av (v:=v67) (wy (congrArg Bool.not (dt q154))) (λw' hw'=>al zs14) (av (v:=vi (List.length ((aW ((aj g (au us) s).1) g (t:Int)).1):Int)) (wy (congrArg Bool.not (dt q154))) (λw' hw'=>bc cm rfl (o68.flat.bel hw')) ?_)))
      refine av (v:=vi ((List.length ((aW ((aj g (au us) s).1) g (t:Int)).1):Int)-1)) (wy (congrArg Bool.not (dt q154))) (λw' hw'=>dH (m:=(List.length ((aW ((aj g (au us) s).1) g (t:Int)).1):Int)) (n:=1) rfl rfl (by omega)) (av (v:=Value.pointer (some (aG v67 1 (Int.toNat ((List.length ((aW ((aj g (au us) s).1) g (t:Int)).1):Int)-1))))) (wy (congrArg Bool.not (dt q154))) (λw' hw'=>ad (α:=Int) (xs:=(aW ((aj g (au us) s).1) g (t:Int)).1) (v:=v67) (i:=(List.length ((aW ((aj g (au us) s).1) g (t:Int)).1):Int)-1) cm rfl rfl (o68.flat.bel hw') rfl (by omega) (by omega)) ?_)
      refine av (v:=vi (gI ((aW ((aj g (au us) s).1) g (t:Int)).1) ((List.length ((aW ((aj g (au us) s).1) g (t:Int)).1):Int)-1))) (wy (congrArg Bool.not (dt q154))) (λw' hw'=>ax (α:=Int) (xs:=(aW ((aj g (au us) s).1) g (t:Int)).1) (v:=v67) (i:=(List.length ((aW ((aj g (au us) s).1) g (t:Int)).1):Int)-1) aB rfl (o68.flat.bel hw') (by omega) (by omega) (by decide) rfl) ?_
      refine bY (v:=vi (cz g (gI ((aW ((aj g (au us) s).1) g (t:Int)).1) ((List.length ((aW ((aj g (au us) s).1) g (t:Int)).1):Int)-1)))) (wy (congrArg Bool.not (dt q154))) (λw' hw'=>aC (vals:=[vg [vi g.1,g_v],vi (gI ((aW ((aj g (au us) s).1) g (t:Int)).1) ((List.length ((aW ((aj g (au us) s).1) g (t:Int)).1):Int)-1))]) Try.func24 gN i5 rfl) (λw' hw'=>(jc w' g g_v ((Rg.bel hw')).ro (gI ((aW ((aj g (au us) s).1) g (t:Int)).1) ((List.length ((aW ((aj g (au us) s).1) g (t:Int)).1):Int)-1)) (by omega) (by omega)).mono λe w2 h2=>⟨h2.1,hw'.trans (h2.2.mono hw'.size)⟩) (av (v:=vi ↑t) (wy (congrArg Bool.not (dt q154))) (λw' hw'=>al zs13) ?_)
      refine av (v:=vb (!(decide ((cz g (gI ((aW ((aj g (au us) s).1) g (t:Int)).1) ((List.length ((aW ((aj g (au us) s).1) g (t:Int)).1):Int)-1)))=(t:Int))))) (wy (congrArg Bool.not (dt q154))) (λw' hw'=>ct (m:=cz g (gI ((aW ((aj g (au us) s).1) g (t:Int)).1) ((List.length ((aW ((aj g (au us) s).1) g (t:Int)).1):Int)-1))) (n:=↑t) rfl rfl) (av (v:=vb (!(decide ((cz g (gI ((aW ((aj g (au us) s).1) g (t:Int)).1) ((List.length ((aW ((aj g (au us) s).1) g (t:Int)).1):Int)-1)))=(t:Int))))) (wy (dt q146)) (λw' hw'=>aA rfl (congrArg Bool.not (dt q154)) rfl) ?_)
      refine av (v:=vb (!(decide ((cz g (gI ((aW ((aj g (au us) s).1) g (t:Int)).1) ((List.length ((aW ((aj g (au us) s).1) g (t:Int)).1):Int)-1)))=(t:Int))))) (wy (congrArg Bool.not q142)) (λw' hw'=>aE rfl (dt q146) rfl) (qv (vb (!(decide ((cz g (gI ((aW ((aj g (au us) s).1) g (t:Int)).1) ((List.length ((aW ((aj g (au us) s).1) g (t:Int)).1):Int)-1)))=(t:Int))))) (λw' hw'=>aA rfl (congrArg Bool.not q142) rfl) (qm (vb (!(decide ((cz g (gI ((aW ((aj g (au us) s).1) g (t:Int)).1) ((List.length ((aW ((aj g (au us) s).1) g (t:Int)).1):Int)-1)))=(t:Int))))) ?_))
      have q168:(cz g (gI ((aW ((aj g (au us) s).1) g (t:Int)).1) ((List.length ((aW ((aj g (au us) s).1) g (t:Int)).1):Int)-1)))=(t:Int):=by exact hP2.last' ‹_›
      refine av (v:=v67) (wy (congrArg Bool.not (dt q168))) (λw' hw'=>al zs14) (av (v:=vi (List.length ((aW ((aj g (au us) s).1) g (t:Int)).1):Int)) (wy (congrArg Bool.not (dt q168))) (λw' hw'=>bc cm rfl (o68.flat.bel hw')) (av (v:=vb (decide ((List.length ((aW ((aj g (au us) s).1) g (t:Int)).1):Int)=0))) (wy (congrArg Bool.not (dt q168))) (λw' hw'=>cI (m:=(List.length ((aW ((aj g (au us) s).1) g (t:Int)).1):Int)) (n:=0) rfl rfl) (av (v:=vb (decide ((List.length ((aW ((aj g (au us) s).1) g (t:Int)).1):Int)=0))) (wy (congrArg Bool.not (dt q168))) (λw' hw'=>al rfl) ?_)))
      by_cases q172:(List.length ((aW ((aj g (au us) s).1) g (t:Int)).1):Int)=0
      ·
       refine av (v:=vi ↑t) (wy (dt q172)) (λw' hw'=>al zs13) (av (v:=vi s) (wy (dt q172)) (λw' hw'=>al zs2) (av (v:=vb (!(decide ((t:Int)=s)))) (wy (dt q172)) (λw' hw'=>ct (m:=↑t) (n:=s) rfl rfl) (av (v:=vb (!(decide ((t:Int)=s)))) (wy (congrArg Bool.not (dt q168))) (λw' hw'=>aE rfl (dt q172) rfl) (qv (vb (!(decide ((t:Int)=s)))) (λw' hw'=>aA rfl (congrArg Bool.not (dt q168)) rfl) (qm (vb (!(decide ((t:Int)=s)))) ?_)))))
       have q178:(t:Int)=s:=by exact(hP2.empty ‹_›)
       refine av (v:=vg [vi g.1,g_v]) (wy (congrArg Bool.not (dt q178))) (λw' hw'=>aJ (ds:=[vi g.1,g_v]) bu zs3 (bx5.bel hw') rfl rfl) (av (v:=v67) (wy (congrArg Bool.not (dt q178))) (λw' hw'=>al zs14) (bY (v:=vb true) (wy (congrArg Bool.not (dt q178))) (λw' hw'=>aC (vals:=[vg [vi g.1,g_v],v67,vb false]) Try.func28 fo fk rfl) (λw' hw'=>(eu w' g g_v ((Rg.bel hw')).ro ((aW ((aj g (au us) s).1) g (t:Int)).1) v67 ((o68.flat.bel hw')).ro false (by exact hm) (by rfl) (by exact hP2.chain)).mono λe w2 h2=>⟨h2.1,hw'.trans (h2.2.mono hw'.size)⟩) ?_))
       refine av (v:=vb false) (wy (congrArg Bool.not (dt q178))) (λw' hw'=>cB (b:=true) rfl) (qv (vb false) (λw' hw'=>aA rfl (congrArg Bool.not (dt q178)) rfl) (cr ?_))
       intro w81 hc82
       replace hc82:=az hc82 g75
       refine af rfl rfl (ao (aw ?_))
       clear o68
       refine a7 rfl (mz zs13 (lx (bf (m:=↑t) (n:=1) rfl rfl (by omega)) (ai ((t:Int)+1) (aa ?_))))
       replace bH:=bH.cn ch79
       refine back17 (t+1,g75) _ _ ⟨bH.cn hc82,zs2,zs3,zs7,zs8,rfl,Rg.cn hc82,(Rus.cn ch79).cn hc82,bx5.cn hc82,(o15.cn ch79).cn hc82,o22.cn hc82,(o24.cn ch79).cn hc82,bx34.cn hc82,by omega,?_⟩ ?_
       · show True
         trivial
       · show g.1.toNat-(t+1)<g.1.toNat-t
         omega
      refine aO (wn (df q172)) (aO (wn (df q172)) (aO (wn (df q172)) (av (v:=vb false) (wy (congrArg Bool.not (dt q168))) (λw' hw'=>aA rfl (df q172) rfl) (qv (vb false) (λw' hw'=>aA rfl (congrArg Bool.not (dt q168)) rfl) (qm (vb false) (av (v:=vg [vi g.1,g_v]) (wy rfl) (λw' hw'=>aJ (ds:=[vi g.1,g_v]) bu zs3 (bx5.bel hw') rfl rfl) (av (v:=v67) (wy rfl) (λw' hw'=>al zs14) ?_)))))))
      refine bY (v:=vb true) (wy rfl) (λw' hw'=>aC (vals:=[vg [vi g.1,g_v],v67,vb false]) Try.func28 fo fk rfl) (λw' hw'=>(eu w' g g_v ((Rg.bel hw')).ro ((aW ((aj g (au us) s).1) g (t:Int)).1) v67 ((o68.flat.bel hw')).ro false (by exact hm) (by rfl) (by exact hP2.chain)).mono λe w2 h2=>⟨h2.1,hw'.trans (h2.2.mono hw'.size)⟩) (av (v:=vb false) (wy rfl) (λw' hw'=>cB (b:=true) rfl) (qv (vb false) (λw' hw'=>aA rfl rfl rfl) (cr ?_)))
      intro w83 hc84
      replace hc84:=az hc84 g75
      refine af rfl rfl (ao (aw ?_))
      clear o68
      refine a7 rfl (mz zs13 (lx (bf (m:=↑t) (n:=1) rfl rfl (by omega)) (ai ((t:Int)+1) (aa ?_))))
      replace bH:=bH.cn ch79
      refine back17 (t+1,g75) _ _ ⟨bH.cn hc84,zs2,zs3,zs7,zs8,rfl,Rg.cn hc84,(Rus.cn ch79).cn hc84,bx5.cn hc84,(o15.cn ch79).cn hc84,o22.cn hc84,(o24.cn ch79).cn hc84,bx34.cn hc84,by omega,?_⟩ ?_
      · show True
        trivial
      · show g.1.toNat-(t+1)<g.1.toNat-t
        omega
     refine aO (wn (df q146)) (aO (wn (df q146)) (aO (wn (df q146)) (aO (wn (df q146)) (aO (wn (df q146)) (aO (wn (df q146)) (aO (wn (df q146)) (aO (wn (df q146)) (aO (cw rfl rfl rfl) (aO (cw rfl rfl rfl) ?_)))))))))
     refine aO (cw rfl rfl rfl) (aO (cw rfl rfl rfl) (aO (cw rfl rfl rfl) (aO (cw rfl rfl rfl) (aO (cw rfl rfl rfl) (aO (cw rfl rfl rfl) (aO (cw rfl rfl rfl) (aO (cw rfl rfl rfl) (aO (wn (df q146)) (av (v:=vb false) (wy (congrArg Bool.not q142)) (λw' hw'=>aA rfl (df q146) rfl) ?_)))))))))
     refine qv (vb false) (λw' hw'=>aA rfl (congrArg Bool.not q142) rfl) (qm (vb false) (av (v:=v67) (wy rfl) (λw' hw'=>al zs14) (av (v:=vi (List.length ((aW ((aj g (au us) s).1) g (t:Int)).1):Int)) (wy rfl) (λw' hw'=>bc cm rfl (o68.flat.bel hw')) (av (v:=vb (decide ((List.length ((aW ((aj g (au us) s).1) g (t:Int)).1):Int)=0))) (wy rfl) (λw' hw'=>cI (m:=(List.length ((aW ((aj g (au us) s).1) g (t:Int)).1):Int)) (n:=0) rfl rfl) (av (v:=vb (decide ((List.length ((aW ((aj g (au us) s).1) g (t:Int)).1):Int)=0))) (wy rfl) (λw' hw'=>al rfl) ?_)))))
     by_cases q172:(List.length ((aW ((aj g (au us) s).1) g (t:Int)).1):Int)=0
     ·
      refine av (v:=vi ↑t) (wy (dt q172)) (λw' hw'=>al zs13) (av (v:=vi s) (wy (dt q172)) (λw' hw'=>al zs2) (av (v:=vb (!(decide ((t:Int)=s)))) (wy (dt q172)) (λw' hw'=>ct (m:=↑t) (n:=s) rfl rfl) (av (v:=vb (!(decide ((t:Int)=s)))) (wy rfl) (λw' hw'=>aE rfl (dt q172) rfl) (qv (vb (!(decide ((t:Int)=s)))) (λw' hw'=>aA rfl rfl rfl) (qm (vb (!(decide ((t:Int)=s)))) ?_)))))
      have q178_85:(t:Int)=s:=by exact(hP2.empty ‹_›)
      replace bx5:=bx5.cn ch79
      refine av (v:=vg [vi g.1,g_v]) (wy (congrArg Bool.not (dt q178_85))) (λw' hw'=>aJ (ds:=[vi g.1,g_v]) bu zs3 (bx5.bel hw') rfl rfl) (av (v:=v67) (wy (congrArg Bool.not (dt q178_85))) (λw' hw'=>al zs14) ?_)
      replace Rg:=Rg.cn ch79
      refine bY (v:=vb true) (wy (congrArg Bool.not (dt q178_85))) (λw' hw'=>aC (vals:=[vg [vi g.1,g_v],v67,vb false]) Try.func28 fo fk rfl) (λw' hw'=>(eu w' g g_v ((Rg.bel hw')).ro ((aW ((aj g (au us) s).1) g (t:Int)).1) v67 ((o68.flat.bel hw')).ro false (by exact hm) (by rfl) (by exact hP2.chain)).mono λe w2 h2=>⟨h2.1,hw'.trans (h2.2.mono hw'.size)⟩) (av (v:=vb false) (wy (congrArg Bool.not (dt q178_85))) (λw' hw'=>cB (b:=true) rfl) (qv (vb false) (λw' hw'=>aA rfl (congrArg Bool.not (dt q178_85)) rfl) (cr ?_)))
      intro w86 hc87
      replace hc87:=az hc87 g75
      refine af rfl rfl (ao (aw ?_))
      clear o68
      refine a7 rfl (mz zs13 (lx (bf (m:=↑t) (n:=1) rfl rfl (by omega)) (ai ((t:Int)+1) (aa ?_))))
      replace bH:=bH.cn ch79
      refine back17 (t+1,g75) _ _ ⟨bH.cn hc87,zs2,zs3,zs7,zs8,rfl,Rg.cn hc87,(Rus.cn ch79).cn hc87,bx5.cn hc87,(o15.cn ch79).cn hc87,o22.cn hc87,(o24.cn ch79).cn hc87,bx34.cn hc87,by omega,?_⟩ ?_
      · show True
        trivial
      · show g.1.toNat-(t+1)<g.1.toNat-t
        omega
     refine aO (wn (df q172)) (aO (wn (df q172)) (aO (wn (df q172)) (av (v:=vb false) (wy rfl) (λw' hw'=>aA rfl (df q172) rfl) (qv (vb false) (λw' hw'=>aA rfl rfl rfl) (qm (vb false) ?_)))))
     replace bx5:=bx5.cn ch79
     refine av (v:=vg [vi g.1,g_v]) (wy rfl) (λw' hw'=>aJ (ds:=[vi g.1,g_v]) bu zs3 (bx5.bel hw') rfl rfl) (av (v:=v67) (wy rfl) (λw' hw'=>al zs14) ?_)
     replace Rg:=Rg.cn ch79
     refine bY (v:=vb true) (wy rfl) (λw' hw'=>aC (vals:=[vg [vi g.1,g_v],v67,vb false]) Try.func28 fo fk rfl) (λw' hw'=>(eu w' g g_v ((Rg.bel hw')).ro ((aW ((aj g (au us) s).1) g (t:Int)).1) v67 ((o68.flat.bel hw')).ro false (by exact hm) (by rfl) (by exact hP2.chain)).mono λe w2 h2=>⟨h2.1,hw'.trans (h2.2.mono hw'.size)⟩) (av (v:=vb false) (wy rfl) (λw' hw'=>cB (b:=true) rfl) (qv (vb false) (λw' hw'=>aA rfl rfl rfl) (cr ?_)))
     intro w88 hc89
     replace hc89:=az hc89 g75
     refine af rfl rfl (ao (aw ?_))
     clear o68
     refine a7 rfl (mz zs13 (lx (bf (m:=↑t) (n:=1) rfl rfl (by omega)) (ai ((t:Int)+1) (aa ?_))))
     replace bH:=bH.cn ch79
     refine back17 (t+1,g75) _ _ ⟨bH.cn hc89,zs2,zs3,zs7,zs8,rfl,Rg.cn hc89,(Rus.cn ch79).cn hc89,bx5.cn hc89,(o15.cn ch79).cn hc89,o22.cn hc89,(o24.cn ch79).cn hc89,bx34.cn hc89,by omega,?_⟩ ?_
     · show True
       trivial
     · show g.1.toNat-(t+1)<g.1.toNat-t
       omega
    refine af rfl (df p17) (aI rfl (a8 ?_))
    clear bx5 o15 o22 o24 bx34
    refine a7 rfl (ma (vb true) (aa (aq (vs:=[vb true]) Try.func5 (.tmp rfl .nil) ?_)))
    have e0:(true:Bool)=(true):=by
      rfl
    exact⟨rb e0,bH.below⟩
   refine ak (wn (df q93)) (ak (wn (df q93)) (lw (vb false) (aA rfl (df q93) rfl) (aa (af rfl rfl (aI rfl (a8 ?_))))))
   clear bx5 o15 o22 o24 bx34
   refine a7 rfl (ma (vb true) (aa (aq (vs:=[vb true]) Try.func5 (.tmp rfl .nil) ?_)))
   have e0:(true:Bool)=(true):=by
     rfl
   exact⟨rb e0,bH.below⟩
  obtain⟨hn1,hn2⟩:=kI p7
  refine ae rfl (congrArg Bool.not (df p7)) (a8 ?_)
  clear bx5 o15
  refine a7 rfl (lx (ah fY rfl rfl rfl rfl) (lx (ag bS rfl bx34 rfl) ?_))
  replace o22:=o22.ce ch33
  have len90:=(o22.flat).small
  refine lx (bc dw rfl o22.flat) (lx (cI (m:=(List.length (((aj g (au us) s).1).1):Int)) (n:=0) rfl rfl) (mv (vb (decide ((List.length (((aj g (au us) s).1).1):Int)=0))) ?_))
  have q38:(List.length (((aj g (au us) s).1).1):Int)=0:=by(rw[hn1];rfl)
  refine lv (vp b29 1) (wy (dt q38)) (ah fY rfl rfl rfl rfl) (lv (v23) (wy (dt q38)) (ag cd rfl bx34 rfl) ?_)
  replace o24:=o24.ce ch33
  have len91:=(o24.flat).small
  refine lv (vi (List.length (((aj g (au us) s).1).2):Int)) (wy (dt q38)) (bc cm rfl o24.flat) (lv (vb (decide ((List.length (((aj g (au us) s).1).2):Int)=0))) (wy (dt q38)) (cI (m:=(List.length (((aj g (au us) s).1).2):Int)) (n:=0) rfl rfl) (lw (vb (decide ((List.length (((aj g (au us) s).1).2):Int)=0))) (aE rfl (dt q38) rfl) (ma (vb (decide ((List.length (((aj g (au us) s).1).2):Int)=0))) (aa (aq (vs:=[vb (decide ((List.length (((aj g (au us) s).1).2):Int)=0))]) Try.func5 (.tmp rfl .nil) ?_)))))
  have e0:(decide ((List.length (((aj g (au us) s).1).2):Int)=0):Bool)=(true):=by
    exact dt (by rw[hn2];rfl)
  have C92:=cg [5] (ch2.n.seq (hb7.n.seq (hb9.n.seq (ch17.n.seq (ch26.n.seq (ch28.n.seq (ch33.l rfl)))))))
  replace bH:=bH.ca C92
  exact⟨(congrArg (a₁:=decide ((List.length (((aj g (au us) s).1).2):Int)=0)) (λ(z0:Bool)=>Ending.returned (vb z0)) e0),bH.below⟩
 refine ae rfl (congrArg Bool.not (Bool.eq_false_iff.2 p3)) (a8 ?_)
 clear bx5
 refine a7 rfl (ma (vb true) (aa (aq (vs:=[vb true]) Try.func5 (.tmp rfl .nil) ?_)))
 have e0:(true:Bool)=(true):=by
   rfl
 have C93:=cg [] (ch2.n.seq (hb7.n.seq hb9.n))
 replace bH:=bH.ca C93
 exact⟨rb e0,bH.below⟩
end TL
