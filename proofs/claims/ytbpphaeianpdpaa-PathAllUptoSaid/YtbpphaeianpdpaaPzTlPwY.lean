import Derived.Test.YtbpphaeianpdpaaPzTlP2
import Derived.Test.YtbpphaeianpdpaaPzTlGmA
import Derived.Test.YtbpphaeianpdpaaPzTlGenA
import Derived.Test.YtbpphaeianpdpaaPzTlPwA
import Derived.Test.YtbpphaeianpdpaaPzTlPwX
import Derived.Test.YtbpphaeianpdpaaProg
import Derived.Test.YtbpphaeianpdpaaPzTlAli
set_option linter.all false
set_option maxRecDepth 20000
namespace TL
open Go Go.Proofs
theorem jI:Try.prog.follows .mixedOrders=true:=by kernel_rfl
theorem pg:Try.f51.body.isNone=false:=rfl
theorem oP:(Try.f51.name== "runtime.NumGoroutine")=false:=by decide+kernel
set_option maxHeartbeats 8000000 in
theorem ke(w0:World)(g:(Int)×(List Pt))(g_v:Value)(hg_v:Ro w0 g_v g.2)(ws:List Nat)(ws_v:Value)(hws_v:Ro w0 ws_v ws):
    Calls Try.prog 15 #[vg [vi g.1,g_v],ws_v] w0 (λee w=>∃xx:aA×Value,ee= .returned ((λ⟨δ,rv0⟩=>vt [rv0,Value.float .f64 ((ax g ws).2.1),vi ((ax g ws).2.2)]) xx)/\(λ(⟨δ,rv0⟩:aA×Value) (w:World)=>eh w0 δ w/\Ow δ (is 1) (is 1) w rv0 ((ax g ws).1)) xx w):=by
 refine ar Try.func15 rfl nq ?_
 have bH:=aU.start w0
 have Rg:=hg_v.sl
 have Rws:=hws_v.sl
 refine a7 (a6 rfl (cu rfl (cN c0 (is 1) (1,0) rfl rfl ?_)))
 intro g4 w1 b3 ch2 bx5
 replace bx5:Bx g4 (is 1) w1 b3 [vi g.1,g_v]:=bx5
 refine ma vn (ma (Value.float .f64 0) (ai 0 (a8 (a7 (a6 rfl (lx (aR (ds:=[vi g.1,g_v]) bP rfl bx5 rfl rfl) (mv ws_v ?_)))))))
 replace Rg:=Rg.cn ch2
 replace Rws:=Rws.cn ch2
 refine lo (aZ (v:=vi (ci g ws)) (aE (vals:=[vg [vi g.1,g_v],ws_v]) Try.func43 l4 lH rfl) (jA w1 g g_v (Rg).ro ws ws_v (Rws).ro) ?_)
 intro w6 hb7
 replace hb7:=av hb7 g4
 refine ai (ci g ws) (a8 (a7 (a7 (a6 rfl (mi (ci g ws) (lx (ch (m:=ci g ws) (n:=0) rfl rfl) (a8 ?_)))))))
 by_cases p2:(ci g ws)=0
 ·
  obtain⟨hm,hwl,hwg⟩:=mb p2
  have hm0:=hm
  obtain⟨hm1,hm2,hm3,hm4⟩:=hm0
  have hol:=eS ws
  refine ag rfl (congrArg Bool.not (dt p2)) (ak (a7 (a6 rfl (lx (ad cT rfl rfl rfl rfl) ?_))))
  replace bx5:=bx5.cn hb7
  refine lx (ae ay rfl bx5 rfl) (lo (bK (α:=Int) (l:=g.1) (cp:=g.1) g4 (is 2) (is 2) (2,0) rfl (0:Int) bM ay rfl rfl rfl (by omega) (by omega) (by omega) (by omega) ?_))
  intro g8 w9 v10 ch11 o12 _
  refine ma v10 (a8 (a7 (a7 (a6 rfl (ai 0 (a8 (al ?_)))))))
  refine aP (σ:=Nat×(List Int)×aA) (λ⟨v,c,gq⟩ f w=>aU w0 gq w/\f 1=ws_v/\f 2=vp b3 0/\f 8=v10/\f 9=vi ↑v/\Sl gq (is 0) w g_v g.2/\Sl gq (is 0) w ws_v ws/\Bx gq (is 1) w b3 [vi g.1,g_v]/\Ow gq (is 2) (is 2) w v10 c/\(v:Int)<=(g.1:Int)/\(c=bz v++List.replicate (Int.toNat g.1-v) 0)) (λ⟨v,c,gq⟩=>Int.toNat ((g.1:Int)-(v:Int))) (0,(List.replicate (Int.toNat g.1) (0:Int)),g8) ?_ ?_
  have C13:=cg [] (ch2.n.seq (hb7.n.seq ch11.n))
  · exact⟨bH.ca C13,rfl,rfl,rfl,rfl,(Rg.cn hb7).cn ch11,(Rws.cn hb7).cn ch11,bx5.cn ch11,o12,by omega,by simp[bz]⟩
  clear Rg Rws bx5 o12 bH
  rintro⟨v,c,g16⟩ f14 w15 ⟨bH,zs1,zs2,zs8,zs9,Rg,Rws,bx5,o12,hle_v,hc⟩ back6
  have hfl:=j5 hc (by omega)
  refine a7 (a7 (a6 rfl (mz zs9 (lx (ad cT rfl rfl zs2 rfl) (lx (ae ay rfl bx5 rfl) (lx (aW (m:=↑v) (n:=g.1) rfl rfl) (a8 ?_)))))))
  by_cases p6:(v:Int)<g.1
  ·
   refine af rfl (dt p6) (ak (a7 (al (a6 rfl (mz zs8 (mz zs9 (mz zs9 (lx (aa (v:=v10) (i:=↑v) bM rfl rfl o12.flat rfl (by omega) (by omega)) (lo ?_)))))))))
   refine aK (i:=↑v) (v:Int) ay rfl rfl o12 (by omega) (by omega) rfl ?_
   intro w17 ch18 bx19
   clear o12
   refine a8 (aq (a6 rfl (mz zs9 (lx (aY (m:=↑v) (n:=1) rfl rfl (by omega)) (ai ((v:Int)+1) (a8 ?_))))))
   refine back6 (v+1,(List.set c (Int.toNat ↑v) (v:Int)),g16) _ _ ⟨bH.ce ch18,zs1,zs2,zs8,rfl,Rg.ce ch18,Rws.ce ch18,bx5.ce ch18,bx19,by omega,?_⟩ ?_
   · show(List.set c (Int.toNat ↑v) (v:Int))=bz (v+1)++List.replicate (Int.toNat g.1-(v+1)) 0
     exact gU hc (by omega)
   · show Int.toNat ((g.1:Int)-((v+1):Int))<Int.toNat ((g.1:Int)-(v:Int))
     omega
  refine ag rfl (df p6) (aD rfl (a7 (a6 rfl (lx (ad cT rfl rfl zs2 rfl) (lx (ae bJ rfl bx5 rfl) ?_)))))
  have len20:=(Rg).small
  refine lx (aV fu rfl Rg) (lo (bK (α:=Bool) (l:=(g.2.length:Int)) (cp:=(g.2.length:Int)) g16 (is 3) (is 3) (3,0) rfl false ml dZ rfl rfl rfl (by omega) (by omega) (by omega) (by omega) ?_))
  intro g21 w22 v23 ch24 o25 _
  refine ma v23 (a8 (a7 (a6 rfl (lx (ad cT rfl rfl zs2 rfl) ?_))))
  replace bx5:=bx5.cn ch24
  refine lx (ae bJ rfl bx5 rfl) ?_
  replace Rg:=Rg.cn ch24
  refine lx (aV fu rfl Rg) (lo (bK (α:=Bool) (l:=(g.2.length:Int)) (cp:=(g.2.length:Int)) g21 (is 4) (is 4) (4,0) rfl false ml dZ rfl rfl rfl (by omega) (by omega) (by omega) (by omega) ?_))
  intro g26 w27 v28 ch29 o30 _
  refine ma v28 (a8 (a7 (a7 (a6 rfl (ai 0 (a8 (al ?_)))))))
  refine aP (σ:=Nat×(List Bool)×(List Int)×(List Bool)×aA) (λ⟨i,seen,c,taken,gq⟩ f w=>aU w0 gq w/\f 1=ws_v/\f 2=vp b3 0/\f 8=v10/\f 10=v23/\f 11=v28/\f 12=vi ↑i/\Sl gq (is 0) w g_v g.2/\Sl gq (is 0) w ws_v ws/\Bx gq (is 1) w b3 [vi g.1,g_v]/\Ow gq (is 2) (is 2) w v10 c/\Ow gq (is 3) (is 3) w v23 seen/\Ow gq (is 4) (is 4) w v28 taken/\(i:Int)<=((g.2.length:Int):Int)/\(ik g ws c seen taken i)) (λ⟨i,seen,c,taken,gq⟩=>g.2.length-i) (0,(List.replicate (Int.toNat (g.2.length:Int)) false),c,(List.replicate (Int.toNat (g.2.length:Int)) false),g26) ?_ ?_
  replace bH:=bH.cn ch24
  · exact⟨bH.cn ch29,zs1,zs2,zs8,rfl,rfl,rfl,Rg.cn ch29,(Rws.cn ch24).cn ch29,bx5.cn ch29,(o12.cn ch24).cn ch29,o25.cn ch29,o30,by omega,by exact ik.start hm (ia hc (by omega))⟩
  clear Rg Rws bx5 o12 o25 o30 bH
  rintro⟨i,seen,c,taken,g33⟩ f31 w32 ⟨bH,zs1,zs2,zs8,zs10,zs11,zs12,Rg,Rws,bx5,o12,o25,o30,hle_i,hls⟩ back12
  have hlc:=hls.lc
  have hlse:=hls.ls
  have hlt:=hls.lt
  refine a7 (a7 (a6 rfl (mz zs12 (lx (ad cT rfl rfl zs2 rfl) (lx (ae bJ rfl bx5 rfl) (lx (aV fu rfl Rg) (lx (aW (m:=↑i) (n:=(g.2.length:Int)) rfl rfl) (a8 ?_))))))))
  by_cases p12:(i:Int)<(g.2.length:Int)
  ·
   refine af rfl (dt p12) (ak (a7 (al (a7 (a6 rfl (ai (-1) (a8 (a7 (a7 (a6 rfl (ai 0 (a8 (al ?_)))))))))))))
   refine aP (σ:=Nat×Int×aA) (λ⟨k,at_,gq⟩ f w=>aU w0 gq w/\f 1=ws_v/\f 2=vp b3 0/\f 8=v10/\f 10=v23/\f 11=v28/\f 12=vi ↑i/\f 13=vi at_/\f 14=vi ↑k/\Sl gq (is 0) w g_v g.2/\Sl gq (is 0) w ws_v ws/\Bx gq (is 1) w b3 [vi g.1,g_v]/\Ow gq (is 2) (is 2) w v10 c/\Ow gq (is 3) (is 3) w v23 seen/\Ow gq (is 4) (is 4) w v28 taken/\(k:Int)<=((g.2.length:Int):Int)/\(at_=cF ws seen k)) (λ⟨k,at_,gq⟩=>g.2.length-k) (0,-1,g33) ?_ ?_
   · exact⟨bH,zs1,zs2,zs8,zs10,zs11,zs12,rfl,rfl,Rg,Rws,bx5,o12,o25,o30,by omega,by rfl⟩
   clear Rg Rws bx5 o12 o25 o30 bH
   rintro⟨k,at_,g36⟩ f34 w35 ⟨bH,zs1,zs2,zs8,zs10,zs11,zs12,zs13,zs14,Rg,Rws,bx5,o12,o25,o30,hle_k,hq⟩ back16
   have ha1:at_<k:=by rw[hq];exact gK _ _ _
   have ha2: -1<=at_:=by rw[hq];exact kH _ _ _
   refine a7 (a7 (a6 rfl (mz zs14 (lx (ad cT rfl rfl zs2 rfl) (lx (ae bJ rfl bx5 rfl) (lx (aV fu rfl Rg) (lx (aW (m:=↑k) (n:=(g.2.length:Int)) rfl rfl) (a8 ?_))))))))
   by_cases p16:(k:Int)<(g.2.length:Int)
   ·
    refine af rfl (dt p16) (ak (a7 (al (a7 (bL g36 rfl jI (by kernel_rfl) ?_)))))
    intro w38 ch37
    refine qz zs10 (qz zs14 ?_)
    replace o25:=o25.cn ch37
    refine qx (λw' hw'=>aa (v:=v23) (i:=↑k) ml rfl rfl (o25.flat.bel hw') rfl (by omega) (by omega)) (qx (λw' hw'=>az (v:=v23) (i:=↑k) dZ rfl (o25.flat.bel hw') (by omega) (by omega) (by decide) rfl) (qx (λw' hw'=>cv (b:=(gI seen ↑k)) rfl) (qm (vb (!(gI seen ↑k))) ?_)))
    by_cases q67:(gI seen ↑k)=true
    ·
     refine aC (wn (congrArg Bool.not q67)) (aC (wn (congrArg Bool.not q67)) (aC (wn (congrArg Bool.not q67)) (aC (bj rfl rfl rfl) (aC (bj rfl rfl rfl) (aC (bj rfl rfl rfl) (aC (bj rfl rfl rfl) (aC (bj rfl rfl rfl) (aC (bj rfl rfl rfl) (aC (bj rfl rfl rfl) ?_)))))))))
     refine aC (bj rfl rfl rfl) (aC (bj rfl rfl rfl) (aC (wn (congrArg Bool.not q67)) (qv (vb false) (λw' hw'=>aI rfl (congrArg Bool.not q67) rfl) (cm ?_))))
     intro w39 hc40
     replace hc40:=av hc40 g36
     refine ag rfl rfl (ak (aq (a6 rfl (mz zs14 (lx (aY (m:=↑k) (n:=1) rfl rfl (by omega)) (ai ((k:Int)+1) (a8 ?_)))))))
     replace bH:=bH.cn ch37
     refine back16 (k+1,at_,g36) _ _ ⟨bH.cn hc40,zs1,zs2,zs8,zs10,zs11,zs12,zs13,rfl,(Rg.cn ch37).cn hc40,(Rws.cn ch37).cn hc40,(bx5.cn ch37).cn hc40,(o12.cn ch37).cn hc40,o25.cn hc40,(o30.cn ch37).cn hc40,by omega,?_⟩ ?_
     · show at_=cF ws seen (k+1)
       exact lC hq (.inl ‹_›)
     · show g.2.length-(k+1)<g.2.length-k
       omega
    refine ba (v:=vi at_) (wy (congrArg Bool.not (Bool.eq_false_iff.2 q67))) (λw' hw'=>ao zs13) (ba (v:=vb (decide (at_<0))) (wy (congrArg Bool.not (Bool.eq_false_iff.2 q67))) (λw' hw'=>aW (m:=at_) (n:=0) rfl rfl) (ba (v:=vb (decide (at_<0))) (wy (congrArg Bool.not (Bool.eq_false_iff.2 q67))) (λw' hw'=>ao rfl) ?_))
    by_cases q70:at_<0
    ·
     refine aC (wn (dt q70)) (aC (wn (dt q70)) (aC (wn (dt q70)) (aC (wn (dt q70)) (aC (wn (dt q70)) (aC (wn (dt q70)) (aC (wn (dt q70)) (aC (wn (dt q70)) (aC (wn (dt q70)) (ba (v:=vb true) (wy (congrArg Bool.not (Bool.eq_false_iff.2 q67))) (λw' hw'=>aB rfl (dt q70) rfl) ?_)))))))))
     refine qv (vb true) (λw' hw'=>aB rfl (congrArg Bool.not (Bool.eq_false_iff.2 q67)) rfl) (cm ?_)
     intro w41 hc42
     replace hc42:=av hc42 g36
     refine af rfl rfl (a6 rfl (mz zs14 (ai (k:Int) (a8 (aq (a6 rfl (mz zs14 (lx (aY (m:=↑k) (n:=1) rfl rfl (by omega)) (ai ((k:Int)+1) ?_)))))))))
     refine a8 ?_
     replace bH:=bH.cn ch37
     refine back16 (k+1,(k:Int),g36) _ _ ⟨bH.cn hc42,zs1,zs2,zs8,zs10,zs11,zs12,rfl,rfl,(Rg.cn ch37).cn hc42,(Rws.cn ch37).cn hc42,(bx5.cn ch37).cn hc42,(o12.cn ch37).cn hc42,o25.cn hc42,(o30.cn ch37).cn hc42,by omega,?_⟩ ?_
     · show(k:Int)=cF ws seen (k+1)
       exact jB hq ‹_› (.inl ‹_›)
     · show g.2.length-(k+1)<g.2.length-k
       omega
    refine ba (v:=ws_v) (wy (df q70)) (λw' hw'=>ao zs1) (ba (v:=vi ↑k) (wy (df q70)) (λw' hw'=>ao zs14) ?_)
    replace Rws:=Rws.cn ch37
    refine ba (v:=Value.pointer (some (aO ws_v 1 (Int.toNat ↑k)))) (wy (df q70)) (λw' hw'=>aa (α:=Nat) (xs:=ws) (v:=ws_v) (i:=↑k) cG rfl rfl (Rws.bel hw') rfl (by omega) (by omega)) (ba (v:=Value.float .f64 (gI ws ↑k)) (wy (df q70)) (λw' hw'=>az (α:=Nat) (xs:=ws) (v:=ws_v) (i:=↑k) aL rfl (Rws.bel hw') (by omega) (by omega) (by decide) rfl) (ba (v:=ws_v) (wy (df q70)) (λw' hw'=>ao zs1) (ba (v:=vi at_) (wy (df q70)) (λw' hw'=>ao zs13) ?_)))
    refine ba (v:=Value.pointer (some (aO ws_v 1 (Int.toNat at_)))) (wy (df q70)) (λw' hw'=>aa (α:=Nat) (xs:=ws) (v:=ws_v) (i:=at_) cG rfl rfl (Rws.bel hw') rfl (by omega) (by omega)) (ba (v:=Value.float .f64 (gI ws at_)) (wy (df q70)) (λw' hw'=>az (α:=Nat) (xs:=ws) (v:=ws_v) (i:=at_) aL rfl (Rws.bel hw') (by omega) (by omega) (by decide) rfl) ?_)
    refine dJ (v:=vb (decide (zf (gI ws ↑k)<zf (gI ws at_)))) (wy (df q70)) (λw' hw'=>aE (vals:=[Value.float .f64 (gI ws ↑k),Value.float .f64 (gI ws at_)]) Try.func51 pg oP rfl) (λw' hw'=>(mD w' (gI ws ↑k) (gI ws at_) (by exact hwg _ (bu (by omega) (by omega))) (by exact hwg _ (bu (by omega) (by omega)))).mono λe w2 h2=>⟨h2.1,hw'.trans (h2.2.mono hw'.size)⟩) (ba (v:=vb (decide (zf (gI ws ↑k)<zf (gI ws at_)))) (wy (congrArg Bool.not (Bool.eq_false_iff.2 q67))) (λw' hw'=>aI rfl (df q70) rfl) (qv (vb (decide (zf (gI ws ↑k)<zf (gI ws at_)))) (λw' hw'=>aB rfl (congrArg Bool.not (Bool.eq_false_iff.2 q67)) rfl) (cm ?_)))
    intro w43 hc44
    replace hc44:=av hc44 g36
    by_cases p18:(decide (zf (gI ws ↑k)<zf (gI ws at_)))=true
    ·
     refine af rfl p18 (a6 rfl (mz zs14 (ai (k:Int) (a8 (aq (a6 rfl (mz zs14 (lx (aY (m:=↑k) (n:=1) rfl rfl (by omega)) (ai ((k:Int)+1) ?_)))))))))
     refine a8 ?_
     replace bH:=bH.cn ch37
     refine back16 (k+1,(k:Int),g36) _ _ ⟨bH.cn hc44,zs1,zs2,zs8,zs10,zs11,zs12,rfl,rfl,(Rg.cn ch37).cn hc44,Rws.cn hc44,(bx5.cn ch37).cn hc44,(o12.cn ch37).cn hc44,o25.cn hc44,(o30.cn ch37).cn hc44,by omega,?_⟩ ?_
     · show(k:Int)=cF ws seen (k+1)
       exact jB hq ‹_› (.inr ‹_›)
     · show g.2.length-(k+1)<g.2.length-k
       omega
    refine ag rfl (Bool.eq_false_iff.2 p18) (ak (aq (a6 rfl (mz zs14 (lx (aY (m:=↑k) (n:=1) rfl rfl (by omega)) (ai ((k:Int)+1) (a8 ?_)))))))
    replace bH:=bH.cn ch37
    refine back16 (k+1,at_,g36) _ _ ⟨bH.cn hc44,zs1,zs2,zs8,zs10,zs11,zs12,zs13,rfl,(Rg.cn ch37).cn hc44,Rws.cn hc44,(bx5.cn ch37).cn hc44,(o12.cn ch37).cn hc44,o25.cn hc44,(o30.cn ch37).cn hc44,by omega,?_⟩ ?_
    · show at_=cF ws seen (k+1)
      exact lC hq (.inr ⟨by assumption,by assumption⟩)
    · show g.2.length-(k+1)<g.2.length-k
      omega
   refine ag rfl (df p16) (aD rfl (a7 ?_))
   have hat:at_=gI (aS ws) (i:Int):=by rw[hq,show k=g.2.length by omega];exact hls.at hwl ‹_›
   obtain⟨hat0,hat1⟩:=fG.1 (show at_∈aS ws by rw[hat];exact bu (by omega) (by omega))
   obtain⟨⟨he1,he2⟩,he3,he4⟩:=hm4 _ (bu (xs:=g.2) (i:=at_) hat0 (by omega))
   refine a6 rfl (mz zs10 (mz zs13 (lx (aa (v:=v23) (i:=at_) ml rfl rfl o25.flat rfl (by omega) (by omega)) (lo (aK (i:=at_) true dZ rfl rfl o25 (by omega) (by omega) rfl ?_)))))
   intro w45 ch46 bx47
   clear o25
   refine a8 (a7 (bL g36 rfl jI (by kernel_rfl) ?_))
   intro w49 ch48
   refine qz zs8 (qx (λw' hw'=>ad cT rfl rfl zs2 rfl) ?_)
   replace bx5:=(bx5.ce ch46).cn ch48
   refine qx (λw' hw'=>ae bJ rfl (bx5.bel hw') rfl) (qz zs13 ?_)
   replace Rg:=(Rg.ce ch46).cn ch48
   refine qx (λw' hw'=>aa (v:=g_v) (i:=at_) fu rfl rfl (Rg.bel hw') rfl (by omega) (by omega)) (qx (λw' hw'=>b5 iy rfl rfl rfl (by decide) (by decide) rfl) (qx (λw' hw'=>b9 (v:=g_v) (i:=at_) ay rfl (Rg.bel hw') (by omega) (by omega) (by decide) rfl) ?_))
   replace o12:=(o12.ce ch46).cn ch48
   refine qx (λw' hw'=>aa (v:=v10) (i:=(gI g.2 at_).1) bM rfl rfl (o12.flat.bel hw') rfl (by omega) (by omega)) (qx (λw' hw'=>az (v:=v10) (i:=(gI g.2 at_).1) ay rfl (o12.flat.bel hw') (by omega) (by omega) (by decide) rfl) (qz zs8 (qx (λw' hw'=>ad cT rfl rfl zs2 rfl) (qx (λw' hw'=>ae bJ rfl (bx5.bel hw') rfl) (qz zs13 (qx (λw' hw'=>aa (v:=g_v) (i:=at_) fu rfl rfl (Rg.bel hw') rfl (by omega) (by omega)) (qx (λw' hw'=>b5 iy rfl rfl rfl (by decide) (by decide) rfl) (qx (λw' hw'=>b9 (v:=g_v) (i:=at_) ay rfl (Rg.bel hw') (by omega) (by omega) (by decide) rfl) (qx (λw' hw'=>aa (v:=v10) (i:=(gI g.2 at_).2) bM rfl rfl (o12.flat.bel hw') rfl (by omega) (by omega)) ?_)))))))))
   refine qx (λw' hw'=>az (v:=v10) (i:=(gI g.2 at_).2) ay rfl (o12.flat.bel hw') (by omega) (by omega) (by decide) rfl) (qv (vi (gI c ((gI g.2 at_).1))) (λw' hw'=>bh rfl) (qv (vi (gI c ((gI g.2 at_).2))) (λw' hw'=>bh rfl) (cm ?_)))
   intro w50 hc51
   replace hc51:=av hc51 g36
   refine a7 (a7 (a6 rfl (mi (gI c ((gI g.2 at_).1)) (mi (gI c ((gI g.2 at_).2)) (lx (du (m:=(gI c ((gI g.2 at_).1))) (n:=(gI c ((gI g.2 at_).2))) rfl rfl) (a8 ?_))))))
   by_cases p22:(gI c ((gI g.2 at_).1))=(gI c ((gI g.2 at_).2))
   ·
    refine af rfl (dt p22) (aD rfl (a6 rfl (mz zs12 (lx (aY (m:=↑i) (n:=1) rfl rfl (by omega)) (ai ((i:Int)+1) (a8 ?_))))))
    have C52:=cg [3] ((ch46.l rfl).seq (ch48.n.seq hc51.n))
    refine back12 (i+1,(List.set seen (Int.toNat at_) true),c,taken,g36) _ _ ⟨bH.ca C52,zs1,zs2,zs8,zs10,zs11,rfl,Rg.cn hc51,Rws.ca C52,bx5.cn hc51,o12.cn hc51,(bx47.cn ch48).cn hc51,o30.ca C52,by omega,?_⟩ ?_
    · show ik g ws c (List.set seen (Int.toNat at_) true) taken (i+1)
      exact hls.same hwl ‹_› hat hat0 (by omega) ‹_›
    · show g.2.length-(i+1)<g.2.length-i
      omega
   refine ag rfl (df p22) (ak (a7 (a6 rfl (mz zs11 (mz zs13 ?_)))))
   have C53:=cg [3] ((ch46.l rfl).seq (ch48.n.seq hc51.n))
   replace o30:=o30.ca C53
   refine lx (aa (v:=v28) (i:=at_) ml rfl rfl o30.flat rfl (by omega) (by omega)) (lo (aK (i:=at_) true dZ rfl rfl o30 (by omega) (by omega) rfl ?_))
   intro w54 ch55 bx56
   clear o30
   refine a8 (a7 (a6 rfl (ai 0 (a8 (al ?_)))))
   refine aP (σ:=Nat×(List Int)×aA) (λ⟨u,c2,gq⟩ f w=>aU w0 gq w/\f 1=ws_v/\f 2=vp b3 0/\f 8=v10/\f 10=v23/\f 11=v28/\f 12=vi ↑i/\f 15=vi (gI c ((gI g.2 at_).1))/\f 16=vi (gI c ((gI g.2 at_).2))/\f 17=vi ↑u/\Sl gq (is 0) w g_v g.2/\Sl gq (is 0) w ws_v ws/\Bx gq (is 1) w b3 [vi g.1,g_v]/\Ow gq (is 2) (is 2) w v10 c2/\Ow gq (is 3) (is 3) w v23 (List.set seen (Int.toNat at_) true)/\Ow gq (is 4) (is 4) w v28 (List.set taken (Int.toNat at_) true)/\(u:Int)<=(g.1:Int)/\(ku g.1 c c2 (gI c (gI g.2 at_).1) (gI c (gI g.2 at_).2) u)) (λ⟨u,c2,gq⟩=>Int.toNat ((g.1:Int)-(u:Int))) (0,c,g36) ?_ ?_
   have C57:=cg [3,4] ((ch46.l rfl).seq (ch48.n.seq (hc51.n.seq (ch55.l rfl))))
   have C58:=cg [4] (ch48.n.seq (hc51.n.seq (ch55.l rfl)))
   · exact⟨bH.ca C57,zs1,zs2,zs8,zs10,zs11,zs12,rfl,rfl,rfl,(Rg.cn hc51).ce ch55,Rws.ca C57,(bx5.cn hc51).ce ch55,(o12.cn hc51).ce ch55,bx47.ca C58,bx56,by omega,by exact ku.start hls.lc⟩
   clear Rg Rws bx5 o12 bx47 bx56 bH
   rintro⟨u,c2,g61⟩ f59 w60 ⟨bH,zs1,zs2,zs8,zs10,zs11,zs12,zs15,zs16,zs17,Rg,Rws,bx5,o12,bx47,bx56,hle_u,hr⟩ back25
   have hrl:=hr.l2
   refine a7 (a7 (a6 rfl (mz zs17 (lx (ad cT rfl rfl zs2 rfl) (lx (ae ay rfl bx5 rfl) (lx (aW (m:=↑u) (n:=g.1) rfl rfl) (a8 ?_)))))))
   by_cases p25:(u:Int)<g.1
   ·
    refine af rfl (dt p25) (ak (a7 (al (a7 (a6 rfl (mz zs8 (mz zs17 (lx (aa (v:=v10) (i:=↑u) bM rfl rfl o12.flat rfl (by omega) (by omega)) (lx (az (v:=v10) (i:=↑u) ay rfl o12.flat (by omega) (by omega) (by decide) rfl) (mz zs16 ?_))))))))))
    refine lx (du (m:=(gI c2 ↑u)) (n:=(gI c ((gI g.2 at_).2))) rfl rfl) (a8 ?_)
    by_cases p27:(gI c2 ↑u)=(gI c ((gI g.2 at_).2))
    ·
     refine af rfl (dt p27) (a6 rfl (mz zs8 (mz zs17 (mz zs15 (lx (aa (v:=v10) (i:=↑u) bM rfl rfl o12.flat rfl (by omega) (by omega)) (lo (aK (i:=↑u) (gI c ((gI g.2 at_).1)) ay rfl rfl o12 (by omega) (by omega) rfl ?_)))))))
     intro w62 ch63 bx64
     clear o12
     refine a8 (aq (a6 rfl (mz zs17 (lx (aY (m:=↑u) (n:=1) rfl rfl (by omega)) (ai ((u:Int)+1) (a8 ?_))))))
     refine back25 (u+1,(List.set c2 (Int.toNat ↑u) (gI c ((gI g.2 at_).1))),g61) _ _ ⟨bH.ce ch63,zs1,zs2,zs8,zs10,zs11,zs12,zs15,zs16,rfl,Rg.ce ch63,Rws.ce ch63,bx5.ce ch63,bx64,bx47.ce ch63,bx56.ce ch63,by omega,?_⟩ ?_
     · show ku g.1 c (List.set c2 (Int.toNat ↑u) (gI c ((gI g.2 at_).1))) (gI c (gI g.2 at_).1) (gI c (gI g.2 at_).2) (u+1)
       exact hr.yes ‹_› ‹_›
     · show Int.toNat ((g.1:Int)-((u+1):Int))<Int.toNat ((g.1:Int)-(u:Int))
       omega
    refine ag rfl (df p27) (ak (aq (a6 rfl (mz zs17 (lx (aY (m:=↑u) (n:=1) rfl rfl (by omega)) (ai ((u:Int)+1) (a8 ?_)))))))
    refine back25 (u+1,c2,g61) _ _ ⟨bH,zs1,zs2,zs8,zs10,zs11,zs12,zs15,zs16,rfl,Rg,Rws,bx5,o12,bx47,bx56,by omega,?_⟩ ?_
    · show ku g.1 c c2 (gI c (gI g.2 at_).1) (gI c (gI g.2 at_).2) (u+1)
      exact hr.no ‹_› ‹_›
    · show Int.toNat ((g.1:Int)-((u+1):Int))<Int.toNat ((g.1:Int)-(u:Int))
      omega
   refine ag rfl (df p25) (aD rfl (aq (a6 rfl (mz zs12 (lx (aY (m:=↑i) (n:=1) rfl rfl (by omega)) (ai ((i:Int)+1) (a8 ?_)))))))
   refine back12 (i+1,(List.set seen (Int.toNat at_) true),c2,(List.set taken (Int.toNat at_) true),g61) _ _ ⟨bH,zs1,zs2,zs8,zs10,zs11,rfl,Rg,Rws,bx5,o12,bx47,bx56,by omega,?_⟩ ?_
   · show ik g ws c2 (List.set seen (Int.toNat at_) true) (List.set taken (Int.toNat at_) true) (i+1)
     exact hls.join hwl ‹_› hat hat0 (by omega) ‹_› hr ‹_›
   · show g.2.length-(i+1)<g.2.length-i
     omega
  refine ag rfl (df p12) (aD rfl (a7 ?_))
  clear bx5 o12 o25
  refine a6 rfl (ma vn (a8 (a7 (a6 rfl (ma (Value.float .f64 0) (a8 (a7 (a7 (a6 rfl (ai 0 (a8 (al ?_))))))))))))
  refine aP (σ:=Value×(List Int)×Fb×Nat×aA) (λ⟨l_v,l,sm,j,gq⟩ f w=>aU w0 gq w/\f 1=ws_v/\f 11=v28/\f 18=l_v/\f 19=Value.float .f64 sm/\f 20=vi ↑j/\Sl gq (is 0) w g_v g.2/\Sl gq (is 0) w ws_v ws/\Ow gq (is 4) (is 4) w v28 taken/\Ow gq (is 6) (is 6) w l_v l/\(j:Int)<=((taken.length:Int):Int)/\(ob g ws l sm j)) (λ⟨l_v,l,sm,j,gq⟩=>Int.toNat (((taken.length:Int):Int)-(j:Int))) (vn,[],0,0,g33) ?_ ?_
  · exact⟨bH,zs1,zs11,rfl,rfl,rfl,Rg,Rws,o30,Ow.nil,by omega,by exact⟨rfl,rfl,by decide⟩⟩
  clear Rg Rws o30 bH
  rintro⟨l_v,l,sm,j,g67⟩ f65 w66 ⟨bH,zs1,zs11,zs18,zs19,zs20,Rg,Rws,o30,o_l,hle_j,hf⟩ back32
  have hll:l.length<=j:=by rw[hf.el];exact iE j
  refine a7 (a7 (a6 rfl (mz zs20 (mz zs11 ?_))))
  have len68:=(o30.flat).small
  refine lx (aV ml rfl o30.flat) (lx (aW (m:=↑j) (n:=(taken.length:Int)) rfl rfl) (a8 ?_))
  by_cases p32:(j:Int)<(taken.length:Int)
  ·
   refine af rfl (dt p32) (ak (a7 (al (a7 (a6 rfl (mz zs11 (mz zs20 (lx (aa (v:=v28) (i:=↑j) ml rfl rfl o30.flat rfl (by omega) (by omega)) (lx (az (v:=v28) (i:=↑j) dZ rfl o30.flat (by omega) (by omega) (by decide) rfl) (a8 ?_))))))))))
   by_cases p34:(gI taken ↑j)=true
   ·
    refine af rfl p34 (a7 (a6 rfl (mz zs18 (mz zs20 (lo (aN (α:=Int) g67 (is 5) (is 5) (5,0) rfl ([(j:Int)]:List Int) bM ay (by decide) (by decide) (vs:=[(0,vi ↑j)]) rfl rfl (.cons rfl .nil) ?_))))))
    intro g69 w70 v71 ch72 o73
    refine lo ?_
    replace o_l:=o_l.cn ch72
    refine bs (α:=Int) (xs:=l) (ys:=([(j:Int)]:List Int)) g69 (J:=is 6) (S:=is 6) (6,0) rfl bM ay (by decide) rfl rfl rfl o_l o73.flat (by decide) (by(simp;omega)) ?_
    intro g74 w75 v76 ch77 o78
    clear o_l
    refine ma v76 (a8 ?_)
    clear o73
    refine a6 rfl (mz zs19 (mz zs1 (mz zs20 ?_)))
    replace Rws:=(Rws.cn ch72).ce ch77
    refine lx (aa (v:=ws_v) (i:=↑j) cG rfl rfl Rws rfl (by omega) (by omega)) (lx (az (v:=ws_v) (i:=↑j) aL rfl Rws (by omega) (by omega) (by decide) rfl) (lo (aZ (v:=Value.float .f64 (aT sm (zf (gI ws ↑j)))) (aE (vals:=[Value.float .f64 sm,Value.float .f64 (gI ws ↑j)]) Try.func45 kO li rfl) (lG w75 sm (gI ws ↑j) (by exact hf.le) (by exact hwg _ (bu (by omega) (by omega)))) ?_)))
    intro w79 hb80
    replace hb80:=av hb80 g74
    refine ma (Value.float .f64 (aT sm (zf (gI ws ↑j)))) (a8 (aq (a6 rfl (mz zs20 (lx (aY (m:=↑j) (n:=1) rfl rfl (by omega)) (ai ((j:Int)+1) (a8 ?_)))))))
    have C81:=cg [6] (ch72.n.seq ((ch77.l rfl).seq hb80.n))
    refine back32 (v76,(l++([(j:Int)]:List Int)),aT sm (zf (gI ws ↑j)),j+1,g74) _ _ ⟨bH.ca C81,zs1,zs11,rfl,rfl,rfl,Rg.ca C81,Rws.cn hb80,o30.ca C81,o78.cn hb80,by omega,?_⟩ ?_
    · show ob g ws (l++([(j:Int)]:List Int)) (aT sm (zf (gI ws ↑j))) (j+1)
      exact hf.yes hls hwl ‹_› (by omega) ‹_› (hwg _ (bu (by omega) (by omega)))
    · show Int.toNat (((taken.length:Int):Int)-((j+1):Int))<Int.toNat (((taken.length:Int):Int)-(j:Int))
      omega
   refine ag rfl (Bool.eq_false_iff.2 p34) (ak (aq (a6 rfl (mz zs20 (lx (aY (m:=↑j) (n:=1) rfl rfl (by omega)) (ai ((j:Int)+1) (a8 ?_)))))))
   refine back32 (l_v,l,sm,j+1,g67) _ _ ⟨bH,zs1,zs11,zs18,zs19,rfl,Rg,Rws,o30,o_l,by omega,?_⟩ ?_
   · show ob g ws l sm (j+1)
     exact hf.no hls hwl ‹_› (by omega) ‹_›
   · show Int.toNat (((taken.length:Int):Int)-((j+1):Int))<Int.toNat (((taken.length:Int):Int)-(j:Int))
     omega
  refine ag rfl (df p32) (aD rfl (a7 ?_))
  clear o30
  refine a6 rfl (mz zs18 (mz zs19 (ma l_v (ma (Value.float .f64 sm) (ai 0 (a8 (au (vs:=[l_v,Value.float .f64 sm,vi 0]) Try.func15 (.tmp rfl (.tmp rfl (.tmp rfl .nil))) ?_)))))))
  have e0:(l:List Int)=((ax g ws).1):=by
    (rw[eR p2];exact hf.el.trans (iR (by omega)))
  have e1:(sm:Nat)=((ax g ws).2.1):=by
    (rw[eR p2];exact hf.es.trans (congrArg (fT ws) (hf.el.trans (iR (by omega)))))
  have e2:(0:Int)=((ax g ws).2.2):=by
    rw[eR p2]
  exact⟨(fin w0 g67 (λn=>if n=6 then 1 else 0),l_v),(jo (a:=l) (b:=sm) (c:=0) (λ(z0:List Int) (z1:Nat) (z2:Int)=>Ending.returned (vt [l_v,Value.float .f64 z1,vi z2])) e0 e1 e2),bH.fresh _,(e0▸(o_l.glue (γ:=c0) (ren:=(λn=>if n=6 then 1 else 0)) (k:=1) bH.col rfl rfl))⟩
 refine af rfl (congrArg Bool.not (df p2)) (a7 ?_)
 clear bx5
 refine a6 rfl (mi (ci g ws) (ma vn (ma (Value.float .f64 0) (ai (ci g ws) (a8 (au (vs:=[vn,Value.float .f64 0,vi (ci g ws)]) Try.func15 (.tmp rfl (.tmp rfl (.tmp rfl .nil))) ?_))))))
 replace bH:=bH.cn ch2
 replace bH:=bH.cn hb7
 have e0:([]:List Int)=((ax g ws).1):=by
   rw[eX p2]
 have e1:(0:Nat)=((ax g ws).2.1):=by
   rw[eX p2]
 have e2:(ci g ws:Int)=((ax g ws).2.2):=by
   rw[eX p2]
 exact⟨(fin w0 g4 (λn=>0),vn),(jo (a:=[]) (b:=0) (c:=ci g ws) (λ(z0:List Int) (z1:Nat) (z2:Int)=>Ending.returned (vt [vn,Value.float .f64 z1,vi z2])) e0 e1 e2),bH.fresh _,(e0▸Ow.nil)⟩
end TL
