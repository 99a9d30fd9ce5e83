import Derived.Test.YtbpphaeianpdpaaPqTlP2
import Derived.Test.YtbpphaeianpdpaaPqTlGmA
import Derived.Test.YtbpphaeianpdpaaPqTlGenA
import Derived.Test.YtbpphaeianpdpaaPqTlPwA
import Derived.Test.YtbpphaeianpdpaaPqTlPwF
import Derived.Test.YtbpphaeianpdpaaPqTlPwR
import Derived.Test.YtbpphaeianpdpaaPqTlPwB
import Derived.Test.YtbpphaeianpdpaaProg
import Derived.Test.YtbpphaeianpdpaaPqTlAli
set_option linter.all false
set_option maxRecDepth 20000
namespace TL
open Go Go.Proofs
theorem iq:Try.prog.follows .mixedOrders=true:=by kernel_rfl
theorem oI:Tp Try.prog 5 false 1 1 (.int .u8 0):=Tp.of (by kernel_rfl)
theorem od:Try.f9.body.isNone=false:=rfl
theorem nH:(Try.f9.name== "runtime.NumGoroutine")=false:=by decide+kernel
set_option maxHeartbeats 8000000 in
theorem f8(w0:World)(g:(Int)×(List Pt))(g_v:Value)(hg_v:Ro w0 g_v g.2)(ws:List Bt)(ws_v:Value)(hws_v:Ro w0 ws_v ws)(s:Int)(v:Int):
    Calls Try.prog 7 #[vg [vi g.1,g_v],ws_v,vi s,vi v] w0 (λee w=>ee= .returned (vb true)/\bZ w0.heap.size w0 w):=by
 refine am Try.func7 rfl nq ?_
 have bH:=aX.start w0
 have Rg:=hg_v.sl
 have Rws:=hws_v.sl
 refine a8 (a7 rfl (dW rfl (dz c0 (is 1) (1,0) rfl rfl ?_)))
 intro g4 w1 b3 ch2 bx5
 replace bx5:Bx g4 (is 1) w1 b3 [vi g.1,g_v]:=bx5
 refine ma (vb false) (ab (a8 (a8 (a7 rfl (dW rfl (bk (v:=vb true) (aF (vals:=[]) Try.func9 od nH rfl) (jY w1) ?_))))))
 intro w6 hb7
 replace hb7:=ay hb7 g4
 refine lx (dX (b:=true) rfl) (ab (aj rfl rfl (ao (a8 (a8 (a7 rfl ?_))))))
 replace bx5:=bx5.cn hb7
 refine lx (ba (ds:=[vi g.1,g_v]) cD rfl bx5 rfl rfl) ?_
 replace Rg:=(Rg.cn ch2).cn hb7
 refine lo (bk (v:=vb (bW g)) (aF (vals:=[vg [vi g.1,g_v]]) Try.func29 ou nY rfl) (mB w6 g g_v (Rg).ro) ?_)
 intro w8 hb9
 replace hb9:=ay hb9 g4
 refine lx (dX (b:=(bW g)) rfl) (mv (vb (!(bW g))) ?_)
 by_cases q21:(bW g)=true
 ·
  refine lv (vp b3 0) (wy (congrArg Bool.not q21)) (ah dl rfl rfl rfl rfl) ?_
  replace bx5:=bx5.cn hb9
  refine lv (vi g.1) (wy (congrArg Bool.not q21)) (ag aB rfl bx5 rfl) (lv (vb (decide (60<g.1))) (wy (congrArg Bool.not q21)) (dh (m:=g.1) (n:=60) rfl rfl) (lw (vb (decide (60<g.1))) (aL rfl (congrArg Bool.not q21) rfl) (mv (vb (decide (60<g.1))) ?_)))
  by_cases q26:60<g.1
  ·
   refine af (wn (dt q26)) (af (wn (dt q26)) (af (wn (dt q26)) (af (wn (dt q26)) (af (wn (dt q26)) (af (wn (dt q26)) (lw (vb true) (az rfl (dt q26) rfl) (mv (vb true) (af (wn rfl) (af (wn rfl) (af (wn rfl) (lw (vb true) (az rfl rfl rfl) ?_)))))))))))
   refine ab (ae rfl rfl (a8 ?_))
   clear bx5
   refine a7 rfl (ma (vb true) (ab (ap (vs:=[vb true]) Try.func7 (.tmp rfl .nil) ?_)))
   have e0:(true:Bool)=(true):=by
     rfl
   have C10:=cg [] (ch2.n.seq (hb7.n.seq hb9.n))
   replace bH:=bH.ca C10
   exact⟨rb e0,bH.below⟩
  refine lv (ws_v) (wy (df q26)) (al rfl) ?_
  have C11:=cg [] (ch2.n.seq (hb7.n.seq hb9.n))
  replace Rws:=Rws.ca C11
  have len12:=(Rws).small
  refine lv (vi (ws.length:Int)) (wy (df q26)) (bn pq rfl Rws) (lv (vp b3 1) (wy (df q26)) (ah dl rfl rfl rfl rfl) (lv (g_v) (wy (df q26)) (ag bL rfl bx5 rfl) ?_))
  replace Rg:=Rg.cn hb9
  have len13:=(Rg).small
  refine lv (vi (g.2.length:Int)) (wy (df q26)) (bn gg rfl Rg) (lv (vb (!(decide ((ws.length:Int)=(g.2.length:Int))))) (wy (df q26)) (d4 (m:=(ws.length:Int)) (n:=(g.2.length:Int)) rfl rfl) (lw (vb (!(decide ((ws.length:Int)=(g.2.length:Int))))) (aL rfl (df q26) rfl) (mv (vb (!(decide ((ws.length:Int)=(g.2.length:Int))))) ?_)))
  by_cases q34:(ws.length:Int)=(g.2.length:Int)
  ·
   refine lv (ws_v) (wy (congrArg Bool.not (dt q34))) (al rfl) (lv (vi (ws.length:Int)) (wy (congrArg Bool.not (dt q34))) (bn pq rfl Rws) (lv (vb (decide (200<(ws.length:Int)))) (wy (congrArg Bool.not (dt q34))) (dh (m:=(ws.length:Int)) (n:=200) rfl rfl) (lw (vb (decide (200<(ws.length:Int)))) (aL rfl (congrArg Bool.not (dt q34)) rfl) (ab ?_))))
   by_cases p3:200<(ws.length:Int)
   ·
    refine ae rfl (dt p3) (a8 ?_)
    clear bx5
    refine a7 rfl (ma (vb true) (ab (ap (vs:=[vb true]) Try.func7 (.tmp rfl .nil) ?_)))
    have e0:(true:Bool)=(true):=by
      rfl
    replace bH:=bH.ca C11
    exact⟨rb e0,bH.below⟩
   refine aj rfl (df p3) (ao (a8 (a7 rfl (ma vn (ab (a8 (a8 (a7 rfl (ai 0 (ab (aq ?_)))))))))))
   refine b9 (σ:=Value×(List Nat)×Nat×ar) (λ⟨w9_v,w9,k,gq⟩ f w=>aX w0 gq w/\f 1=ws_v/\f 2=vi s/\f 3=vi v/\f 4=vp b3 0/\f 9=w9_v/\f 10=vi ↑k/\Sl gq (is 0) w g_v g.2/\Sl gq (is 0) w ws_v ws/\Bx gq (is 1) w b3 [vi g.1,g_v]/\Ow gq (is 3) (is 3) w w9_v w9/\(k:Int)<=((ws.length:Int):Int)/\(w9=km (ws.take k))) (λ⟨w9_v,w9,k,gq⟩=>Int.toNat (((ws.length:Int):Int)-(k:Int))) (vn,[],0,g4) ?_ ?_
   · exact⟨bH.ca C11,rfl,rfl,rfl,rfl,rfl,rfl,Rg,Rws,bx5,Ow.nil,by omega,by rfl⟩
   clear Rg Rws bx5 bH
   rintro⟨w9_v,w9,k,g16⟩ f14 w15 ⟨bH,zs1,zs2,zs3,zs4,zs9,zs10,Rg,Rws,bx5,o_w9,hle_k,hinv⟩ back7
   have hll:w9.length<=k:=by rw[hinv,ov,List.length_take];omega
   refine a8 (a8 (a7 rfl (mz zs10 (mz zs1 (lx (bn pq rfl Rws) (lx (b7 (m:=↑k) (n:=(ws.length:Int)) rfl rfl) (ab ?_)))))))
   by_cases p7:(k:Int)<(ws.length:Int)
   ·
    refine ae rfl (dt p7) (ao (a8 (aq (a7 rfl (mz zs9 (mz zs1 (mz zs10 (lx (ad (v:=ws_v) (i:=↑k) pq rfl rfl Rws rfl (by omega) (by omega)) (lx (aA (v:=ws_v) (i:=↑k) oI rfl Rws (by omega) (by omega) (by decide) rfl) ?_)))))))))
    refine lw (Value.float .f64 (er ((((gI ws ↑k)).n:Nat):Int))) (nW (m:=((((gI ws ↑k)).n:Nat):Int)) U5 pT rfl) ?_
    have nn17:er ((((gI ws ↑k)).n:Nat):Int)<=aw:=mZ (by omega)
    refine lo (bc (α:=Nat) g16 (is 2) (is 2) (2,0) rfl ([er ((((gI ws ↑k)).n:Nat):Int)]:List Nat) dJ aI (by decide) (by decide) (vs:=[(0,Value.float .f64 (er ((((gI ws ↑k)).n:Nat):Int)))]) rfl rfl (.cons rfl .nil) ?_)
    intro g18 w19 v20 ch21 o22
    refine lo ?_
    replace o_w9:=o_w9.cn ch21
    refine cZ (α:=Nat) (xs:=w9) (ys:=([er ((((gI ws ↑k)).n:Nat):Int)]:List Nat)) g18 (J:=is 3) (S:=is 3) (3,0) rfl dJ aI (by decide) rfl rfl rfl o_w9 o22.flat (by decide) (by(simp;omega)) ?_
    intro g23 w24 v25 ch26 o27
    clear o_w9
    refine ma v25 (ab (av ?_))
    clear o22
    refine a7 rfl (mz zs10 (lx (bw (m:=↑k) (n:=1) rfl rfl (by omega)) (ai ((k:Int)+1) (ab ?_))))
    replace bH:=bH.cn ch21
    refine back7 (v25,(w9++([er ((((gI ws ↑k)).n:Nat):Int)]:List Nat)),k+1,g23) _ _ ⟨bH.ce ch26,zs1,zs2,zs3,zs4,rfl,rfl,(Rg.cn ch21).ce ch26,(Rws.cn ch21).ce ch26,(bx5.cn ch21).ce ch26,o27,by omega,?_⟩ ?_
    · show(w9++([er ((((gI ws ↑k)).n:Nat):Int)]:List Nat))=km (ws.take (k+1))
      exact lK hinv ‹_›
    · show Int.toNat (((ws.length:Int):Int)-((k+1):Int))<Int.toNat (((ws.length:Int):Int)-(k:Int))
      omega
   refine aj rfl (df p7) (aJ rfl (a8 ?_))
   have hww:=mE hinv ‹_›
   have hwt:=pi (g:=g) hww (by omega)
   refine a7 rfl (lx (ba (ds:=[vi g.1,g_v]) cD zs4 bx5 rfl rfl) (mz zs9 (mz zs2 (lo (bg (aF (vals:=[vg [vi g.1,g_v],w9_v,vi s]) Try.func12 gK gP rfl) (fE w15 g g_v (Rg).ro w9 w9_v (o_w9.flat).ro s) ?_)))))
   rintro⟨d29,v31,v33⟩ w28 ⟨fr30,o32,o34⟩
   obtain⟨g35,ch36,G35⟩:=mF g16 fr30 (λn=>if n=1 then 4 else if n=2 then 5 else 0)
   replace o32:=o32.gl G35 4
   replace o34:=o34.gl G35 5
   refine mv (vt [vg [v31,v33],vi ((au g w9 s).2)]) (lx (bz rfl rfl) (lx (bz rfl rfl) (lo (bI g35 (is 6) (6,0) rfl aR ?_))))
   intro g40 w37 b39 ch38 bx41
   replace bx41:Bx g40 (is 6) w37 b39 [vn,vn]:=bx41
   refine lo ?_
   replace o34:=o34.cn ch38
   replace o32:=o32.cn ch38
   refine aK (cs':=[v31,v33]) aR rfl rfl bx41 rfl nq (AllOne.all (.cons (bl o32.flat) (.cons (bl o34.flat) .nil))) rfl ?_
   intro w42 ch43 bx44
   clear bx41
   refine ai ((au g w9 s).2) (ab (a8 (a7 rfl ?_)))
   have C45:=cg [6] (ch36.n.seq (ch38.n.seq (ch43.l rfl)))
   replace bx5:=bx5.ca C45
   refine lx (ba (ds:=[vi g.1,g_v]) cD zs4 bx5 rfl rfl) (mz zs9 (mz zs3 ?_))
   replace Rg:=Rg.ca C45
   replace o_w9:=o_w9.ca C45
   refine lo (bg (aF (vals:=[vg [vi g.1,g_v],w9_v,vi v]) Try.func12 gK gP rfl) (fE w42 g g_v (Rg).ro w9 w9_v (o_w9.flat).ro v) ?_)
   rintro⟨d47,v49,v51⟩ w46 ⟨fr48,o50,o52⟩
   obtain⟨g53,ch54,G53⟩:=mF g40 fr48 (λn=>if n=1 then 7 else if n=2 then 8 else 0)
   replace o50:=o50.gl G53 7
   replace o52:=o52.gl G53 8
   refine mv (vt [vg [v49,v51],vi ((au g w9 v).2)]) (lx (bz rfl rfl) (lx (bz rfl rfl) (lo (bI g53 (is 9) (9,0) rfl aR ?_))))
   intro g58 w55 b57 ch56 bx59
   replace bx59:Bx g58 (is 9) w55 b57 [vn,vn]:=bx59
   refine lo ?_
   replace o52:=o52.cn ch56
   replace o50:=o50.cn ch56
   refine aK (cs':=[v49,v51]) aR rfl rfl bx59 rfl nq (AllOne.all (.cons (bl o50.flat) (.cons (bl o52.flat) .nil))) rfl ?_
   intro w60 ch61 bx62
   clear bx59
   refine ai ((au g w9 v).2) (ab (a8 (a8 ?_)))
   clear o_w9
   refine a7 rfl (mi ((au g w9 s).2) (lx (d4 (m:=(au g w9 s).2) (n:=0) rfl rfl) (mv (vb (!(decide (((au g w9 s).2)=0)))) ?_)))
   by_cases q69:((au g w9 s).2)=0
   ·
    refine lv (vi ((au g w9 v).2)) (wy (congrArg Bool.not (dt q69))) (al rfl) (lv (vb (!(decide (((au g w9 v).2)=0)))) (wy (congrArg Bool.not (dt q69))) (d4 (m:=(au g w9 v).2) (n:=0) rfl rfl) (lw (vb (!(decide (((au g w9 v).2)=0)))) (aL rfl (congrArg Bool.not (dt q69)) rfl) (ab ?_)))
    by_cases p12:((au g w9 v).2)=0
    ·
     obtain⟨hm,hwl,hwg,hsn,ra,hEa⟩:=jw q69
     obtain⟨_,_,_,hvn,rb,hEb⟩:=jw p12
     have hm0:=hm
     obtain⟨hm1,hm2,hm3,hm4⟩:=hm0
     have hla:=hEa.lf
     have hlb:=hEb.lf
     have hsn0:=hsn
     obtain⟨hs0,hs1⟩:=hsn0
     have hvn0:=hvn
     obtain⟨hv0,hv1⟩:=hvn0
     refine aj rfl (congrArg Bool.not (dt p12)) (ao (a8 (a8 (a7 rfl (ai 0 (ab (aq ?_)))))))
     refine b9 (σ:=Nat×ar) (λ⟨t,gq⟩ f w=>aX w0 gq w/\f 2=vi s/\f 3=vi v/\f 4=vp b3 0/\f 11=vp b39 0/\f 13=vp b57 0/\f 15=vi ↑t/\Sl gq (is 0) w g_v g.2/\Sl gq (is 0) w ws_v ws/\Bx gq (is 1) w b3 [vi g.1,g_v]/\Ow gq (is 4) (is 4) w v31 (((au g w9 s).1).1)/\Ow gq (is 5) (is 5) w v33 (((au g w9 s).1).2)/\Bx gq (is 6) w b39 [v31,v33]/\Ow gq (is 7) (is 7) w v49 (((au g w9 v).1).1)/\Ow gq (is 8) (is 8) w v51 (((au g w9 v).1).2)/\Bx gq (is 9) w b57 [v49,v51]/\(t:Int)<=(g.1:Int)/\(True)) (λ⟨t,gq⟩=>Int.toNat ((g.1:Int)-(t:Int))) (0,g58) ?_ ?_
     have C65:=cg [6,9] ((ch43.l rfl).seq (ch54.n.seq (ch56.n.seq (ch61.l rfl))))
     have C63:=ch36.n.seq (ch38.n.seq C65)
     have C64:=cg [9] (ch54.n.seq (ch56.n.seq (ch61.l rfl)))
     · exact⟨bH.ca C63,zs2,zs3,zs4,rfl,rfl,rfl,Rg.ca C64,Rws.ca C63,bx5.ca C64,o32.ca C65,o34.ca C65,bx44.ca C64,o50.ce ch61,o52.ce ch61,bx62,by omega,by trivial⟩
     clear Rg Rws bx5 o32 o34 bx44 o50 o52 bx62 bH
     rintro⟨t,g68⟩ f66 w67 ⟨bH,zs2,zs3,zs4,zs11,zs13,zs15,Rg,Rws,bx5,o32,o34,bx44,o50,o52,bx62,hle_t,hinv1⟩ back15
     refine a8 (a8 (a7 rfl (mz zs15 (lx (ah dl rfl rfl zs4 rfl) (lx (ag aB rfl bx5 rfl) (lx (b7 (m:=↑t) (n:=g.1) rfl rfl) (ab ?_)))))))
     by_cases p15:(t:Int)<g.1
     ·
      refine ae rfl (dt p15) ?_
      have n1:=hEa.nn (t:Int) ⟨by omega,by assumption⟩
      have n2:=hEb.nn (t:Int) ⟨by omega,by assumption⟩
      have n3:=hEa.nn v hvn
      refine ao (a8 (aq (a8 (bT g68 rfl iq (by kernel_rfl) ?_))))
      intro w70 ch69
      refine qx (λw' hw'=>ah i4 rfl rfl zs11 rfl) ?_
      replace bx44:=bx44.cn ch69
      refine qx (λw' hw'=>ag c6 rfl (bx44.bel hw') rfl) (qz zs15 ?_)
      replace o32:=o32.cn ch69
      refine qx (λw' hw'=>ad (v:=v31) (i:=↑t) dJ rfl rfl (o32.flat.bel hw') rfl (by omega) (by omega)) (qx (λw' hw'=>aA (v:=v31) (i:=↑t) aI rfl (o32.flat.bel hw') (by omega) (by omega) (by decide) rfl) (qx (λw' hw'=>ah i4 rfl rfl zs11 rfl) (qx (λw' hw'=>ag c6 rfl (bx44.bel hw') rfl) (qz zs3 (qx (λw' hw'=>ad (v:=v31) (i:=v) dJ rfl rfl (o32.flat.bel hw') rfl (by omega) (by omega)) (qx (λw' hw'=>aA (v:=v31) (i:=v) aI rfl (o32.flat.bel hw') (by omega) (by omega) (by decide) rfl) (qx (λw' hw'=>ah i4 rfl rfl zs13 rfl) ?_)))))))
      replace bx62:=bx62.cn ch69
      refine qx (λw' hw'=>ag c6 rfl (bx62.bel hw') rfl) (qz zs15 ?_)
      replace o50:=o50.cn ch69
      refine qx (λw' hw'=>ad (v:=v49) (i:=↑t) dJ rfl rfl (o50.flat.bel hw') rfl (by omega) (by omega)) (qx (λw' hw'=>aA (v:=v49) (i:=↑t) aI rfl (o50.flat.bel hw') (by omega) (by omega) (by decide) rfl) (qv (Value.float .f64 (aD (gI (((au g w9 s).1).1) v) (gI (((au g w9 v).1).1) (t:Int)))) (λw' hw'=>kJ (a:=(gI (((au g w9 s).1).1) v)) (b:=(gI (((au g w9 v).1).1) (t:Int))) rfl rfl (i5 ‹_› ‹_›).1) ?_))
      have nn71:aD (gI (((au g w9 s).1).1) v) (gI (((au g w9 v).1).1) (t:Int))<=aw:=(i5 (x:=(gI (((au g w9 s).1).1) v)) (y:=(gI (((au g w9 v).1).1) (t:Int))) ‹_› ‹_›).2
      refine qv (vb (decide ((aD (gI (((au g w9 s).1).1) v) (gI (((au g w9 v).1).1) (t:Int)))<(gI (((au g w9 s).1).1) (t:Int))))) (λw' hw'=>nV (a:=(gI (((au g w9 s).1).1) (t:Int))) (b:=(aD (gI (((au g w9 s).1).1) v) (gI (((au g w9 v).1).1) (t:Int)))) rfl rfl ‹_› ‹_›) (dg ?_)
      intro w72 hc73
      replace hc73:=ay hc73 g68
      have p17:¬((aD (gI (((au g w9 s).1).1) v) (gI (((au g w9 v).1).1) (t:Int)))<(gI (((au g w9 s).1).1) (t:Int))):=by exact Nat.not_lt.2 (nI hm hEa hEb hwt (by decide) hvn ⟨by omega,by assumption⟩)
      refine aj rfl (df p17) (ao (av (a7 rfl (mz zs15 (lx (bw (m:=↑t) (n:=1) rfl rfl (by omega)) (ai ((t:Int)+1) (ab ?_)))))))
      replace bH:=bH.cn ch69
      refine back15 (t+1,g68) _ _ ⟨bH.cn hc73,zs2,zs3,zs4,zs11,zs13,rfl,(Rg.cn ch69).cn hc73,(Rws.cn ch69).cn hc73,(bx5.cn ch69).cn hc73,o32.cn hc73,(o34.cn ch69).cn hc73,bx44.cn hc73,o50.cn hc73,(o52.cn ch69).cn hc73,bx62.cn hc73,by omega,?_⟩ ?_
      · show True
        trivial
      · show Int.toNat ((g.1:Int)-((t+1):Int))<Int.toNat ((g.1:Int)-(t:Int))
        omega
     refine aj rfl (df p15) (aJ rfl (a8 ?_))
     clear bx5
     have n3:=hEa.nn v hvn
     have n4:=hEb.nn s hsn
     refine bT g68 rfl iq (by kernel_rfl) ?_
     intro w75 ch74
     refine qx (λw' hw'=>ah i4 rfl rfl zs11 rfl) ?_
     replace bx44:=bx44.cn ch74
     refine qx (λw' hw'=>ag c6 rfl (bx44.bel hw') rfl) (qz zs3 ?_)
     replace o32:=o32.cn ch74
     refine qx (λw' hw'=>ad (v:=v31) (i:=v) dJ rfl rfl (o32.flat.bel hw') rfl (by omega) (by omega)) (qx (λw' hw'=>aA (v:=v31) (i:=v) aI rfl (o32.flat.bel hw') (by omega) (by omega) (by decide) rfl) (qx (λw' hw'=>ah i4 rfl rfl zs13 rfl) ?_))
     replace bx62:=bx62.cn ch74
     refine qx (λw' hw'=>ag c6 rfl (bx62.bel hw') rfl) (qz zs2 ?_)
     replace o50:=o50.cn ch74
     refine qx (λw' hw'=>ad (v:=v49) (i:=s) dJ rfl rfl (o50.flat.bel hw') rfl (by omega) (by omega)) (qx (λw' hw'=>aA (v:=v49) (i:=s) aI rfl (o50.flat.bel hw') (by omega) (by omega) (by decide) rfl) (qv (vb (decide ((gI (((au g w9 s).1).1) v)=(gI (((au g w9 v).1).1) s)))) (λw' hw'=>gA (a:=(gI (((au g w9 s).1).1) v)) (b:=(gI (((au g w9 v).1).1) s)) rfl rfl ‹_› ‹_›) (qv (vb (decide ((gI (((au g w9 s).1).1) v)=(gI (((au g w9 v).1).1) s)))) (λw' hw'=>bf rfl) (dg ?_))))
     intro w76 hc77
     replace hc77:=ay hc77 g68
     refine ap (vs:=[vb (decide ((gI (((au g w9 s).1).1) v)=(gI (((au g w9 v).1).1) s)))]) Try.func7 (.tmp rfl .nil) ?_
     have e0:(decide ((gI (((au g w9 s).1).1) v)=(gI (((au g w9 v).1).1) s)):Bool)=(true):=by
       exact dt (o8 hm hEa hEb hwt (by decide) hsn hvn)
     replace bH:=bH.cn ch74
     replace bH:=bH.cn hc77
     exact⟨(congrArg (a₁:=decide ((gI (((au g w9 s).1).1) v)=(gI (((au g w9 v).1).1) s))) (λ(z0:Bool)=>Ending.returned (vb z0)) e0),bH.below⟩
    refine ae rfl (congrArg Bool.not (df p12)) (a8 ?_)
    clear bx5 o32 o34 bx44 o50 o52 bx62
    refine a7 rfl (ma (vb true) (ab (ap (vs:=[vb true]) Try.func7 (.tmp rfl .nil) ?_)))
    have e0:(true:Bool)=(true):=by
      rfl
    have C78:=cg [6,9] (ch36.n.seq (ch38.n.seq ((ch43.l rfl).seq (ch54.n.seq (ch56.n.seq (ch61.l rfl))))))
    replace bH:=bH.ca C78
    exact⟨rb e0,bH.below⟩
   refine af (wn (congrArg Bool.not (df q69))) (af (wn (congrArg Bool.not (df q69))) (lw (vb true) (az rfl (congrArg Bool.not (df q69)) rfl) (ab (ae rfl rfl (a8 ?_)))))
   clear bx5 o32 o34 bx44 o50 o52 bx62
   refine a7 rfl (ma (vb true) (ab (ap (vs:=[vb true]) Try.func7 (.tmp rfl .nil) ?_)))
   have e0:(true:Bool)=(true):=by
     rfl
   have C79:=cg [6,9] (ch36.n.seq (ch38.n.seq ((ch43.l rfl).seq (ch54.n.seq (ch56.n.seq (ch61.l rfl))))))
   replace bH:=bH.ca C79
   exact⟨rb e0,bH.below⟩
  refine af (wn (congrArg Bool.not (df q34))) (af (wn (congrArg Bool.not (df q34))) (af (wn (congrArg Bool.not (df q34))) (lw (vb true) (az rfl (congrArg Bool.not (df q34)) rfl) (ab (ae rfl rfl (a8 ?_))))))
  clear bx5
  refine a7 rfl (ma (vb true) (ab (ap (vs:=[vb true]) Try.func7 (.tmp rfl .nil) ?_)))
  have e0:(true:Bool)=(true):=by
    rfl
  replace bH:=bH.ca C11
  exact⟨rb e0,bH.below⟩
 refine af (wn (congrArg Bool.not (Bool.eq_false_iff.2 q21))) (af (wn (congrArg Bool.not (Bool.eq_false_iff.2 q21))) (af (wn (congrArg Bool.not (Bool.eq_false_iff.2 q21))) (lw (vb true) (az rfl (congrArg Bool.not (Bool.eq_false_iff.2 q21)) rfl) (mv (vb true) (af (wn rfl) (af (wn rfl) (af (wn rfl) (af (wn rfl) (af (wn rfl) (af (wn rfl) (lw (vb true) (az rfl rfl rfl) (mv (vb true) (af (wn rfl) (af (wn rfl) (af (wn rfl) (lw (vb true) (az rfl rfl rfl) ?_))))))))))))))))
 refine ab (ae rfl rfl (a8 ?_))
 clear bx5
 refine a7 rfl (ma (vb true) (ab (ap (vs:=[vb true]) Try.func7 (.tmp rfl .nil) ?_)))
 have e0:(true:Bool)=(true):=by
   rfl
 have C80:=cg [] (ch2.n.seq (hb7.n.seq hb9.n))
 replace bH:=bH.ca C80
 exact⟨rb e0,bH.below⟩
end TL
