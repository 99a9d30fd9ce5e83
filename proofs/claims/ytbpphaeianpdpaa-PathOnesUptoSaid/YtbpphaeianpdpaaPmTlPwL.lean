import Derived.Test.YtbpphaeianpdpaaPmTlP2
import Derived.Test.YtbpphaeianpdpaaPmTlGmA
import Derived.Test.YtbpphaeianpdpaaPmTlGenA
import Derived.Test.YtbpphaeianpdpaaPmTlPwA
import Derived.Test.YtbpphaeianpdpaaPmTlPwS
import Derived.Test.YtbpphaeianpdpaaPmTlPwO
import Derived.Test.YtbpphaeianpdpaaPmTlSortM
import Derived.Test.YtbpphaeianpdpaaProg
import Derived.Test.YtbpphaeianpdpaaPmTlAli
set_option linter.all false
set_option maxRecDepth 20000
namespace TL
open Go Go.Proofs
theorem nf:Try.prog.follows .mixedOrders=true:=by kernel_rfl
theorem oR:Try.f27.body.isNone=false:=rfl
theorem oG:(Try.f27.name== "runtime.NumGoroutine")=false:=by decide+kernel
theorem pb:Try.f38.body.isNone=false:=rfl
theorem om:(Try.f38.name== "runtime.NumGoroutine")=false:=by decide+kernel
theorem nS:Try.f46.body.isNone=false:=rfl
theorem nE:(Try.f46.name== "runtime.NumGoroutine")=false:=by decide+kernel
theorem eD:Try.f49.body.isNone=false:=rfl
theorem eF:(Try.f49.name== "runtime.NumGoroutine")=false:=by decide+kernel
theorem oJ:Try.f50.body.isNone=false:=rfl
theorem oh:(Try.f50.name== "runtime.NumGoroutine")=false:=by decide+kernel
set_option maxHeartbeats 8000000 in
theorem lA(w0:World)(g:(Int)×(List Pt))(g_v:Value)(hg_v:Ro w0 g_v g.2)(ws:List Nat)(ws_v:Value)(hws_v:Ro w0 ws_v ws):
    Calls Try.prog 14 #[vg [vi g.1,g_v],ws_v] w0 (λee w=>∃xx:ay×Value,ee= .returned ((λ⟨δ,rv0⟩=>vt [rv0,Value.float .f64 ((bd g ws).2.1),vi ((bd g ws).2.2)]) xx)/\(λ(⟨δ,rv0⟩:ay×Value) (w:World)=>eQ w0 δ w/\Ow δ (is 1) (is 1) w rv0 ((bd g ws).1)) xx w):=by
 refine am Try.func14 rfl nq ?_
 have bH:=b7.start w0
 have Rg:=hg_v.sl
 have Rws:=hws_v.sl
 refine a8 (a7 rfl (d8 rfl (cW c0 (is 1) (1,0) rfl rfl ?_)))
 intro g4 w1 b3 ch2 bx5
 replace bx5:Bx g4 (is 1) w1 b3 [vi g.1,g_v]:=bx5
 refine lo ?_
 replace Rws:=Rws.cn ch2
 have hc11:=dj Rws
 refine cW (v:=ws_v) g4 (is 2) (2,0) rfl rfl ?_
 intro g9 w6 b8 ch7 bx10
 rw[hc11] at bx10
 replace bx10:Bx g9 (is 2) w6 b8 [ws_v]:=bx10
 refine ma vn (ma (Value.float .f64 0) (ai 0 (aa (a8 (a8 (a7 rfl ?_))))))
 replace bx5:=bx5.cn ch7
 refine lx (aN (ds:=[vi g.1,g_v]) bv rfl bx5 rfl rfl) (lx (ae dX rfl bx10 rfl) ?_)
 replace Rg:=(Rg.cn ch2).cn ch7
 replace Rws:=Rws.cn ch7
 refine lo (bB (v:=vi (dd g ws)) (aE (vals:=[vg [vi g.1,g_v],ws_v]) Try.func38 pb om rfl) (gX w6 g g_v (Rg).ro ws ws_v (Rws).ro) ?_)
 intro w12 hb13
 replace hb13:=aA hb13 g9
 refine ai (dd g ws) (aa (a8 (a7 rfl (mi (dd g ws) (lx (cY (m:=dd g ws) (n:=0) rfl rfl) (aa ?_))))))
 by_cases p2:(dd g ws)=0
 ·
  obtain⟨hm,hwl,hwg⟩:=qh p2
  have hm0:=hm
  obtain⟨hm1,hm2,hm3,hm4⟩:=hm0
  have hol:=kC ws
  have hrpA:((List.replicate (Int.toNat (ws.length:Int)) (0:Int)).length:Int)=ws.length:=by simp
  have hrpB:((List.replicate (Int.toNat g.1) (0:Int)).length:Int)=g.1:=by rw[List.length_replicate];omega
  refine aj rfl (congrArg Bool.not (dt p2)) (ap (a8 (a7 rfl ?_)))
  replace bx10:=bx10.cn hb13
  refine lx (ae dX rfl bx10 rfl) ?_
  replace Rws:=Rws.cn hb13
  have len14:=(Rws).small
  refine lx (bA cR rfl Rws) (lo (bw (α:=Int) (l:=(ws.length:Int)) (cp:=(ws.length:Int)) g9 (is 3) (is 3) (3,0) rfl (0:Int) bQ ax rfl rfl rfl (by omega) (by omega) (by omega) (by omega) ?_))
  intro g15 w16 v17 ch18 o19 _
  refine ma v17 (aa (a8 (a8 (a7 rfl (mv v17 ?_)))))
  have len20:=(o19.flat).small
  refine lx (bA bQ rfl o19.flat) (mi 0 (aa (aq ?_)))
  refine ba (σ:=Nat×(List Int)×ay) (λ⟨i,xs,gq⟩ f w=>b7 w0 gq w/\f 2=vp b3 0/\f 3=vp b8 0/\f 8=v17/\f 30=vi (List.length (List.replicate (Int.toNat (ws.length:Int)) (0:Int)):Int)/\f 31=vi ↑i/\Sl gq (is 0) w g_v g.2/\Sl gq (is 0) w ws_v ws/\Bx gq (is 1) w b3 [vi g.1,g_v]/\Bx gq (is 2) w b8 [ws_v]/\Ow gq (is 3) (is 3) w v17 xs/\(i:Int)<=((List.length (List.replicate (Int.toNat (ws.length:Int)) (0:Int)):Int):Int)/\(xs=bF i++List.replicate (ws.length-i) 0)) (λ⟨i,xs,gq⟩=>Int.toNat (((List.length (List.replicate (Int.toNat (ws.length:Int)) (0:Int)):Int):Int)-(i:Int))) (0,(List.replicate (Int.toNat (ws.length:Int)) (0:Int)),g15) ?_ ?_
  have C21:=cg [] (ch2.n.seq (ch7.n.seq (hb13.n.seq ch18.n)))
  · exact⟨bH.ca C21,rfl,rfl,rfl,rfl,rfl,(Rg.cn hb13).cn ch18,Rws.cn ch18,(bx5.cn hb13).cn ch18,bx10.cn ch18,o19,by omega,by simp[bF]⟩
  clear Rg Rws bx5 bx10 o19 bH
  rintro⟨i,xs,g24⟩ f22 w23 ⟨bH,zs2,zs3,zs8,zs30,zs31,Rg,Rws,bx5,bx10,o19,hle_i,hx⟩ back6
  have hxl:=l4 hx (by omega)
  refine a8 (a7 rfl (lx (aX (m:=↑i) (n:=(List.length (List.replicate (Int.toNat (ws.length:Int)) (0:Int)):Int)) zs31 zs30) (aa (a8 ?_))))
  by_cases p6:(i:Int)<(List.length (List.replicate (Int.toNat (ws.length:Int)) (0:Int)):Int)
  ·
   refine ah rfl (dt p6) (ap (a8 (aq (a8 (a7 rfl (mz zs31 (ai (i:Int) (aa (a7 rfl (mz zs8 (mi ↑i ?_)))))))))))
   refine mi ↑i (lx (ab (v:=v17) (i:=↑i) bQ rfl rfl o19.flat rfl (by omega) (by omega)) (lo (aJ (i:=↑i) (i:Int) ax rfl rfl o19 (by omega) (by omega) rfl ?_)))
   intro w25 ch26 bx27
   clear o19
   refine aa (au (a7 rfl (lx (bg (m:=↑i) (n:=1) zs31 rfl (by omega)) (mi ((i:Int)+1) (aa ?_)))))
   refine back6 (i+1,(List.set xs (Int.toNat ↑i) (i:Int)),g24) _ _ ⟨bH.ce ch26,zs2,zs3,zs8,zs30,rfl,Rg.ce ch26,Rws.ce ch26,bx5.ce ch26,bx10.ce ch26,bx27,by omega,?_⟩ ?_
   · show(List.set xs (Int.toNat ↑i) (i:Int))=bF (i+1)++List.replicate (ws.length-(i+1)) 0
     exact jD hx (by omega)
   · show Int.toNat (((List.length (List.replicate (Int.toNat (ws.length:Int)) (0:Int)):Int):Int)-((i+1):Int))<Int.toNat (((List.length (List.replicate (Int.toNat (ws.length:Int)) (0:Int)):Int):Int)-(i:Int))
     omega
  refine aj rfl (df p6) (aO rfl (a8 (a7 rfl (mz zs8 (lw (Value.func (.func 47) #[] (List.toArray [vp b8 0])) (ke (vals:=[vp b8 0]) (my zs3 rfl)) (lo (bo (σ:=Unit) (V:=λ_=>Value.tuple #[]) (aE (vals:=[v17,Value.func (.func 47) #[] (List.toArray [vp b8 0])]) Try.func46 nS nE rfl) (mY o19 bx10 Rws (ed rfl) (ed rfl) (jC hx (by omega)) hwg) ?_)))))))
  rintro⟨⟩ w28 ⟨ch29,o30⟩
  clear o19
  refine aa (a8 (a7 rfl (lx (ad d5 rfl rfl zs2 rfl) ?_)))
  replace bx5:=bx5.ce ch29
  refine lx (ae ax rfl bx5 rfl) (lo (bw (α:=Int) (l:=g.1) (cp:=g.1) g24 (is 4) (is 4) (4,0) rfl (0:Int) bQ ax rfl rfl rfl (by omega) (by omega) (by omega) (by omega) ?_))
  intro g31 w32 v33 ch34 o35 _
  refine ma v33 (aa (a8 (a8 (a7 rfl (mv v33 ?_)))))
  have len36:=(o35.flat).small
  refine lx (bA bQ rfl o35.flat) (mi 0 (aa (aq ?_)))
  refine ba (σ:=Nat×(List Int)×ay) (λ⟨v,of,gq⟩ f w=>b7 w0 gq w/\f 2=vp b3 0/\f 3=vp b8 0/\f 8=v17/\f 10=v33/\f 46=vi (List.length (List.replicate (Int.toNat g.1) (0:Int)):Int)/\f 47=vi ↑v/\Sl gq (is 0) w g_v g.2/\Sl gq (is 0) w ws_v ws/\Bx gq (is 1) w b3 [vi g.1,g_v]/\Bx gq (is 2) w b8 [ws_v]/\Ow gq (is 3) (is 3) w v17 (aV ws)/\Ow gq (is 4) (is 4) w v33 of/\(v:Int)<=((List.length (List.replicate (Int.toNat g.1) (0:Int)):Int):Int)/\(of=bF v++List.replicate (Int.toNat g.1-v) 0)) (λ⟨v,of,gq⟩=>Int.toNat (((List.length (List.replicate (Int.toNat g.1) (0:Int)):Int):Int)-(v:Int))) (0,(List.replicate (Int.toNat g.1) (0:Int)),g31) ?_ ?_
  replace bH:=bH.ce ch29
  · exact⟨bH.cn ch34,zs2,zs3,zs8,rfl,rfl,rfl,(Rg.ce ch29).cn ch34,(Rws.ce ch29).cn ch34,bx5.cn ch34,(bx10.ce ch29).cn ch34,o30.cn ch34,o35,by omega,by simp[bF]⟩
  clear Rg Rws bx5 bx10 o30 o35 bH
  rintro⟨v,of,g39⟩ f37 w38 ⟨bH,zs2,zs3,zs8,zs10,zs46,zs47,Rg,Rws,bx5,bx10,o30,o35,hle_v,hof⟩ back13
  have hfl:=l4 hof (by omega)
  refine a8 (a7 rfl (lx (aX (m:=↑v) (n:=(List.length (List.replicate (Int.toNat g.1) (0:Int)):Int)) zs47 zs46) (aa (a8 ?_))))
  by_cases p13:(v:Int)<(List.length (List.replicate (Int.toNat g.1) (0:Int)):Int)
  ·
   refine ah rfl (dt p13) (ap (a8 (aq (a8 (a7 rfl (mz zs47 (ai (v:Int) (aa (a7 rfl (mz zs10 (mi ↑v ?_)))))))))))
   refine mi ↑v (lx (ab (v:=v33) (i:=↑v) bQ rfl rfl o35.flat rfl (by omega) (by omega)) (lo (aJ (i:=↑v) (v:Int) ax rfl rfl o35 (by omega) (by omega) rfl ?_)))
   intro w40 ch41 bx42
   clear o35
   refine aa (au (a7 rfl (lx (bg (m:=↑v) (n:=1) zs47 rfl (by omega)) (mi ((v:Int)+1) (aa ?_)))))
   refine back13 (v+1,(List.set of (Int.toNat ↑v) (v:Int)),g39) _ _ ⟨bH.ce ch41,zs2,zs3,zs8,zs10,zs46,rfl,Rg.ce ch41,Rws.ce ch41,bx5.ce ch41,bx10.ce ch41,o30.ce ch41,bx42,by omega,?_⟩ ?_
   · show(List.set of (Int.toNat ↑v) (v:Int))=bF (v+1)++List.replicate (Int.toNat g.1-(v+1)) 0
     exact jD hof (by omega)
   · show Int.toNat (((List.length (List.replicate (Int.toNat g.1) (0:Int)):Int):Int)-((v+1):Int))<Int.toNat (((List.length (List.replicate (Int.toNat g.1) (0:Int)):Int):Int)-(v:Int))
     omega
  refine aj rfl (df p13) (aO rfl (a8 (a7 rfl (ma vn (aa (a8 (a8 (a7 rfl (mz zs8 ?_)))))))))
  have len43:=(o30.flat).small
  refine lx (bA bQ rfl o30.flat) (mi 0 (aa (aq ?_)))
  refine ba (σ:=Nat×Value×(List Int)×(List Int)×ay) (λ⟨k,l_v,l,of,gq⟩ f w=>b7 w0 gq w/\f 2=vp b3 0/\f 3=vp b8 0/\f 10=v33/\f 12=l_v/\f 55=v17/\f 56=vi (List.length (aV ws):Int)/\f 57=vi ↑k/\Sl gq (is 0) w g_v g.2/\Sl gq (is 0) w ws_v ws/\Bx gq (is 1) w b3 [vi g.1,g_v]/\Bx gq (is 2) w b8 [ws_v]/\Ow gq (is 3) (is 3) w v17 (aV ws)/\Ow gq (is 4) (is 4) w v33 of/\Ow gq (is 6) (is 6) w l_v l/\(k:Int)<=((List.length (aV ws):Int):Int)/\(jk g ws of l k)) (λ⟨k,l_v,l,of,gq⟩=>Int.toNat (((List.length (aV ws):Int):Int)-(k:Int))) (0,vn,[],of,g39) ?_ ?_
  · exact⟨bH,zs2,zs3,zs10,rfl,rfl,rfl,rfl,Rg,Rws,bx5,bx10,o30,o35,Ow.nil,by omega,by exact jk.start hm (jC hof (by omega))⟩
  clear Rg Rws bx5 bx10 o30 o35 bH
  rintro⟨k,l_v,l,of,g46⟩ f44 w45 ⟨bH,zs2,zs3,zs10,zs12,zs55,zs56,zs57,Rg,Rws,bx5,bx10,o30,o35,o_l,hle_k,hkr⟩ back19
  have hll:=hkr.ll
  refine a8 (a7 rfl (lx (aX (m:=↑k) (n:=(List.length (aV ws):Int)) zs57 zs56) (aa (a8 ?_))))
  by_cases p19:(k:Int)<(List.length (aV ws):Int)
  ·
   refine ah rfl (dt p19) ?_
   obtain⟨hi0,hi1⟩:=kO.1 (bh (xs:=aV ws) (i:=↑k) (by omega) ‹_›)
   obtain⟨⟨he1,he2⟩,he3,he4⟩:=hm4 _ (bh (xs:=g.2) (i:=gI (aV ws) (k:Int)) hi0 (by omega))
   obtain⟨cK,hcK,huK⟩:=hkr.lab
   obtain⟨rhK,huX⟩:=huK
   have huL:=huX.lo
   have huK:pK g.1 of cK:=⟨rhK,huX⟩
   refine ap (a8 (aq (a8 (a7 rfl (lx (ab (v:=v17) (i:=↑k) bQ rfl zs55 o30.flat zs57 (by omega) (by omega)) (lx (aw (v:=v17) (i:=↑k) ax rfl o30.flat (by omega) (by omega) (by decide) rfl) (ai (gI (aV ws) (k:Int)) (aa (a8 ?_)))))))))
   refine jv (σ:=Int×Int×List Int×ay) (λ⟨rA,rB,ofM,gq⟩ f w=>b7 w0 gq w/\f 2=vp b3 0/\f 3=vp b8 0/\f 10=v33/\f 12=l_v/\f 14=vi (gI (aV ws) (k:Int))/\f 15=vi rA/\f 16=vi rB/\f 55=v17/\f 56=vi (List.length (aV ws):Int)/\f 57=vi ↑k/\Sl gq (is 0) w g_v g.2/\Sl gq (is 0) w ws_v ws/\Bx gq (is 1) w b3 [vi g.1,g_v]/\Bx gq (is 2) w b8 [ws_v]/\Ow gq (is 3) (is 3) w v17 (aV ws)/\Ow gq (is 6) (is 6) w l_v l/\Ow gq (is 4) (is 4) w v33 ofM/\∃of1,jt g.1 of of1 cK (gI g.2 (gI (aV ws) (k:Int))).1 rA/\jt g.1 of1 ofM cK (gI g.2 (gI (aV ws) (k:Int))).2 rB) g46 (inl [4]) nf ?_ ?_
   ·
    intro mid
    intro w48 ch47
    refine ht (v:=v33) 0 rfl (bc.refl _ _ _) (λw' hw'=>al zs10) (ht 1 rfl (bc.refl _ _ _) (λw' hw'=>ad d5 rfl rfl zs2 rfl) ?_)
    replace bx5:=bx5.cn ch47
    refine ht 2 rfl (bc.refl _ _ _) (λw' hw'=>ae bC rfl (bx5.chg hw' (cw rfl)) rfl) (ht (v:=vi (gI (aV ws) (k:Int))) 3 rfl (bc.refl _ _ _) (λw' hw'=>al rfl) ?_)
    replace Rg:=Rg.cn ch47
    refine ht 4 rfl (bc.refl _ _ _) (λw' hw'=>ab (v:=g_v) (i:=(gI (aV ws) (k:Int))) eN rfl rfl (Rg.chg hw' (cw rfl)) rfl (by omega) (by omega)) (ht (v:=v33) 8 rfl (bc.refl _ _ _) (λw' hw'=>al zs10) (ht 9 rfl (bc.refl _ _ _) (λw' hw'=>ad d5 rfl rfl zs2 rfl) (ht 10 rfl (bc.refl _ _ _) (λw' hw'=>ae bC rfl (bx5.chg hw' (cw rfl)) rfl) (ht (v:=vi (gI (aV ws) (k:Int))) 11 rfl (bc.refl _ _ _) (λw' hw'=>al rfl) (ht 12 rfl (bc.refl _ _ _) (λw' hw'=>ab (v:=g_v) (i:=(gI (aV ws) (k:Int))) eN rfl rfl (Rg.chg hw' (cw rfl)) rfl (by omega) (by omega)) ?_)))))
    refine ka 5 [13] (by kernel_rfl) ⟨mT 5 rfl (by kernel_rfl) rfl ?_,mT 13 rfl (by kernel_rfl) rfl ?_,trivial⟩
    ·
     refine bk (v:=Value.pointer (some ⟨(aL g_v 2 (Int.toNat (gI (aV ws) (k:Int)))).block,(aL g_v 2 (Int.toNat (gI (aV ws) (k:Int)))).off+0,none⟩)) (aS i4 rfl rfl rfl (by decide) (by decide) rfl) ?_
     refine⟨(bc.refl _ _ _),?_⟩
     refine ht 6 rfl (bc.refl _ _ _) (λw' hw'=>aW (v:=g_v) (i:=(gI (aV ws) (k:Int))) ax rfl (Rg.chg hw' (cw rfl)) (by omega) (by omega) (by decide) rfl) ?_
     refine ka 7 [13] (by kernel_rfl) ⟨mT 7 rfl (by kernel_rfl) rfl ?_,mT 13 rfl (by kernel_rfl) rfl ?_,trivial⟩
     ·
      replace o35:=o35.cn ch47
      refine bo (σ:=Int×List Int) (V:=λx:Int×List Int=>vi x.1) (aE (vals:=[v33,vi ((gI g.2 (gI (aV ws) (k:Int))).1)]) Try.func49 eD eF rfl) (cJ (Q:=λr l=>(λr l=>jt g.1 of l cK ((gI g.2 (gI (aV ws) (k:Int))).1) r) r l) o35 ((λho=>dM w48 of v33 _ ho ((gI g.2 (gI (aV ws) (k:Int))).1) g.1 cK (by exact huK) (by omega) (by omega)) (Ow.rcK o35))) ?_
      rintro⟨r53,xs54⟩ w49 ⟨ch50,o51,hq52⟩
      clear o35
      obtain⟨rxr53,hxr53⟩:=hq52.u
      have hlr53:=hxr53.lo
      have hlor53:=hq52.lo
      have hhir53:=hq52.hi
      have hs55:bc (inl [4]) _ _ _ _:=ch50.l rfl
      refine⟨hs55.same,?_⟩
      refine cP 13 rfl (by kernel_rfl) rfl (bk (v:=Value.pointer (some ⟨(aL g_v 2 (Int.toNat (gI (aV ws) (k:Int)))).block,(aL g_v 2 (Int.toNat (gI (aV ws) (k:Int)))).off+1,none⟩)) (aS i4 rfl rfl rfl (by decide) (by decide) rfl) ?_)
      refine⟨hs55.same,?_⟩
      refine ht 14 rfl hs55.same (λw' hw'=>aW (v:=g_v) (i:=(gI (aV ws) (k:Int))) ax rfl (Rg.chg hw' (cw rfl)) (by omega) (by omega) (by decide) rfl) (cP 15 rfl (by kernel_rfl) rfl (bo (σ:=Int×List Int) (V:=λx:Int×List Int=>vi x.1) (aE (vals:=[v33,vi ((gI g.2 (gI (aV ws) (k:Int))).2)]) Try.func49 eD eF rfl) (cJ (Q:=λr l=>(λr l=>jt g.1 xs54 l cK ((gI g.2 (gI (aV ws) (k:Int))).2) r) r l) o51 ((λho=>dM w49 xs54 v33 _ ho ((gI g.2 (gI (aV ws) (k:Int))).2) g.1 cK (by exact jt.u ‹_›) (by omega) (by omega)) (Ow.rcK o51))) ?_))
      rintro⟨r60,xs61⟩ w56 ⟨ch57,o58,hq59⟩
      clear o51
      obtain⟨rxr60,hxr60⟩:=hq59.u
      have hlr60:=hxr60.lo
      have hlor60:=hq59.lo
      have hhir60:=hq59.hi
      have hs62:=hs55.seq (ch57.l rfl)
      refine⟨hs62.same,?_⟩
      refine ht (v:=vi r53) 16 rfl hs62.same (λw' hw'=>aR rfl) (ht (v:=vi r60) 17 rfl hs62.same (λw' hw'=>aR rfl) (i5 (by kernel_rfl) ?_))
      have C63:=cg [4] (ch47.n.seq ((ch50.l rfl).seq (ch57.l rfl)))
      replace Rws:=Rws.cn ch47
      replace bx10:=bx10.cn ch47
      replace o30:=o30.cn ch47
      replace o_l:=o_l.cn ch47
      exact mid (r53,r60,xs61,g46) _ _ ⟨bH.ca C63,zs2,zs3,zs10,zs12,rfl,rfl,rfl,zs55,zs56,zs57,(Rg.ca hs62),(Rws.ca hs62),(bx5.ca hs62),(bx10.ca hs62),(o30.ca hs62),(o_l.ca hs62),o58,(by exact⟨_,by assumption,by assumption⟩)⟩
     ·
      refine bk (v:=Value.pointer (some ⟨(aL g_v 2 (Int.toNat (gI (aV ws) (k:Int)))).block,(aL g_v 2 (Int.toNat (gI (aV ws) (k:Int)))).off+1,none⟩)) (aS i4 rfl rfl rfl (by decide) (by decide) rfl) ?_
      refine⟨(bc.refl _ _ _),?_⟩
      refine ht 14 rfl (bc.refl _ _ _) (λw' hw'=>aW (v:=g_v) (i:=(gI (aV ws) (k:Int))) ax rfl (Rg.chg hw' (cw rfl)) (by omega) (by omega) (by decide) rfl) (cP 7 rfl (by kernel_rfl) rfl ?_)
      replace o35:=o35.cn ch47
      refine bo (σ:=Int×List Int) (V:=λx:Int×List Int=>vi x.1) (aE (vals:=[v33,vi ((gI g.2 (gI (aV ws) (k:Int))).1)]) Try.func49 eD eF rfl) (cJ (Q:=λr l=>(λr l=>jt g.1 of l cK ((gI g.2 (gI (aV ws) (k:Int))).1) r) r l) o35 ((λho=>dM w48 of v33 _ ho ((gI g.2 (gI (aV ws) (k:Int))).1) g.1 cK (by exact huK) (by omega) (by omega)) (Ow.rcK o35))) ?_
      rintro⟨r68,xs69⟩ w64 ⟨ch65,o66,hq67⟩
      clear o35
      obtain⟨rxr68,hxr68⟩:=hq67.u
      have hlr68:=hxr68.lo
      have hlor68:=hq67.lo
      have hhir68:=hq67.hi
      have hs70:bc (inl [4]) _ _ _ _:=ch65.l rfl
      refine⟨hs70.same,?_⟩
      refine cP 15 rfl (by kernel_rfl) rfl (bo (σ:=Int×List Int) (V:=λx:Int×List Int=>vi x.1) (aE (vals:=[v33,vi ((gI g.2 (gI (aV ws) (k:Int))).2)]) Try.func49 eD eF rfl) (cJ (Q:=λr l=>(λr l=>jt g.1 xs69 l cK ((gI g.2 (gI (aV ws) (k:Int))).2) r) r l) o66 ((λho=>dM w64 xs69 v33 _ ho ((gI g.2 (gI (aV ws) (k:Int))).2) g.1 cK (by exact jt.u ‹_›) (by omega) (by omega)) (Ow.rcK o66))) ?_)
      rintro⟨r75,xs76⟩ w71 ⟨ch72,o73,hq74⟩
      clear o66
      obtain⟨rxr75,hxr75⟩:=hq74.u
      have hlr75:=hxr75.lo
      have hlor75:=hq74.lo
      have hhir75:=hq74.hi
      have hs77:=hs70.seq (ch72.l rfl)
      refine⟨hs77.same,?_⟩
      refine ht (v:=vi r68) 16 rfl hs77.same (λw' hw'=>aR rfl) (ht (v:=vi r75) 17 rfl hs77.same (λw' hw'=>aR rfl) (i5 (by kernel_rfl) ?_))
      have C78:=cg [4] (ch47.n.seq ((ch65.l rfl).seq (ch72.l rfl)))
      replace Rws:=Rws.cn ch47
      replace bx10:=bx10.cn ch47
      replace o30:=o30.cn ch47
      replace o_l:=o_l.cn ch47
      exact mid (r68,r75,xs76,g46) _ _ ⟨bH.ca C78,zs2,zs3,zs10,zs12,rfl,rfl,rfl,zs55,zs56,zs57,(Rg.ca hs77),(Rws.ca hs77),(bx5.ca hs77),(bx10.ca hs77),(o30.ca hs77),(o_l.ca hs77),o73,(by exact⟨_,by assumption,by assumption⟩)⟩
    ·
     refine bk (v:=Value.pointer (some ⟨(aL g_v 2 (Int.toNat (gI (aV ws) (k:Int)))).block,(aL g_v 2 (Int.toNat (gI (aV ws) (k:Int)))).off+1,none⟩)) (aS i4 rfl rfl rfl (by decide) (by decide) rfl) ?_
     refine⟨(bc.refl _ _ _),?_⟩
     refine ht 14 rfl (bc.refl _ _ _) (λw' hw'=>aW (v:=g_v) (i:=(gI (aV ws) (k:Int))) ax rfl (Rg.chg hw' (cw rfl)) (by omega) (by omega) (by decide) rfl) (cP 5 rfl (by kernel_rfl) rfl (bk (v:=Value.pointer (some ⟨(aL g_v 2 (Int.toNat (gI (aV ws) (k:Int)))).block,(aL g_v 2 (Int.toNat (gI (aV ws) (k:Int)))).off+0,none⟩)) (aS i4 rfl rfl rfl (by decide) (by decide) rfl) ?_))
     refine⟨(bc.refl _ _ _),?_⟩
     refine ht 6 rfl (bc.refl _ _ _) (λw' hw'=>aW (v:=g_v) (i:=(gI (aV ws) (k:Int))) ax rfl (Rg.chg hw' (cw rfl)) (by omega) (by omega) (by decide) rfl) (cP 7 rfl (by kernel_rfl) rfl ?_)
     replace o35:=o35.cn ch47
     refine bo (σ:=Int×List Int) (V:=λx:Int×List Int=>vi x.1) (aE (vals:=[v33,vi ((gI g.2 (gI (aV ws) (k:Int))).1)]) Try.func49 eD eF rfl) (cJ (Q:=λr l=>(λr l=>jt g.1 of l cK ((gI g.2 (gI (aV ws) (k:Int))).1) r) r l) o35 ((λho=>dM w48 of v33 _ ho ((gI g.2 (gI (aV ws) (k:Int))).1) g.1 cK (by exact huK) (by omega) (by omega)) (Ow.rcK o35))) ?_
     rintro⟨r83,xs84⟩ w79 ⟨ch80,o81,hq82⟩
     clear o35
     obtain⟨rxr83,hxr83⟩:=hq82.u
     have hlr83:=hxr83.lo
     have hlor83:=hq82.lo
     have hhir83:=hq82.hi
     have hs85:bc (inl [4]) _ _ _ _:=ch80.l rfl
     refine⟨hs85.same,?_⟩
     refine cP 15 rfl (by kernel_rfl) rfl (bo (σ:=Int×List Int) (V:=λx:Int×List Int=>vi x.1) (aE (vals:=[v33,vi ((gI g.2 (gI (aV ws) (k:Int))).2)]) Try.func49 eD eF rfl) (cJ (Q:=λr l=>(λr l=>jt g.1 xs84 l cK ((gI g.2 (gI (aV ws) (k:Int))).2) r) r l) o81 ((λho=>dM w79 xs84 v33 _ ho ((gI g.2 (gI (aV ws) (k:Int))).2) g.1 cK (by exact jt.u ‹_›) (by omega) (by omega)) (Ow.rcK o81))) ?_)
     rintro⟨r90,xs91⟩ w86 ⟨ch87,o88,hq89⟩
     clear o81
     obtain⟨rxr90,hxr90⟩:=hq89.u
     have hlr90:=hxr90.lo
     have hlor90:=hq89.lo
     have hhir90:=hq89.hi
     have hs92:=hs85.seq (ch87.l rfl)
     refine⟨hs92.same,?_⟩
     refine ht (v:=vi r83) 16 rfl hs92.same (λw' hw'=>aR rfl) (ht (v:=vi r90) 17 rfl hs92.same (λw' hw'=>aR rfl) (i5 (by kernel_rfl) ?_))
     have C93:=cg [4] (ch47.n.seq ((ch80.l rfl).seq (ch87.l rfl)))
     replace Rws:=Rws.cn ch47
     replace bx10:=bx10.cn ch47
     replace o30:=o30.cn ch47
     replace o_l:=o_l.cn ch47
     exact mid (r83,r90,xs91,g46) _ _ ⟨bH.ca C93,zs2,zs3,zs10,zs12,rfl,rfl,rfl,zs55,zs56,zs57,(Rg.ca hs92),(Rws.ca hs92),(bx5.ca hs92),(bx10.ca hs92),(o30.ca hs92),(o_l.ca hs92),o88,(by exact⟨_,by assumption,by assumption⟩)⟩
   clear Rg Rws bx5 bx10 o30 o35 o_l bH
   rintro⟨rA,rB,ofM,g96⟩ f94 w95 ⟨bH,zs2,zs3,zs10,zs12,zs14,zs15,zs16,zs55,zs56,zs57,Rg,Rws,bx5,bx10,o30,o_l,o58,hmid21⟩
   obtain⟨of1,hr1,hr2⟩:=hmid21
   obtain⟨rhM,huM⟩:=hr2.u
   have huMl:=huM.lo
   have ha0:=hr1.lo
   have ha1:=hr1.hi
   have hb0:=hr2.lo
   have hb1:=hr2.hi
   refine a8 (a7 rfl (mz zs15 (mz zs16 (lx (cY (m:=rA) (n:=rB) rfl rfl) (aa ?_)))))
   by_cases p22:rA=rB
   ·
    refine aj rfl (congrArg Bool.not (dt p22)) (ap (au (a7 rfl (lx (bg (m:=↑k) (n:=1) zs57 rfl (by omega)) (mi ((k:Int)+1) (aa ?_))))))
    refine back19 (k+1,l_v,l,ofM,g96) _ _ ⟨bH,zs2,zs3,zs10,zs12,zs55,zs56,rfl,Rg,Rws,bx5,bx10,o30,o58,o_l,by omega,?_⟩ ?_
    · show jk g ws ofM l (k+1)
      exact hkr.same ‹_› hcK rfl ‹_› ‹_› ‹_›
    · show Int.toNat (((List.length (aV ws):Int):Int)-((k+1):Int))<Int.toNat (((List.length (aV ws):Int):Int)-(k:Int))
      omega
   refine ah rfl (congrArg Bool.not (df p22)) (a8 (a7 rfl (mz zs10 (mz zs15 (mz zs16 (lx (ab (v:=v33) (i:=rA) bQ rfl rfl o58.flat rfl (by omega) (by omega)) (lo (aJ (i:=rA) rB ax rfl rfl o58 (by omega) (by omega) rfl ?_))))))))
   intro w97 ch98 bx99
   clear o58
   refine aa (a7 rfl (mz zs12 (mz zs14 (lo (aQ (α:=Int) g96 (is 5) (is 5) (5,0) rfl ([(gI (aV ws) (k:Int))]:List Int) bQ ax (by decide) (by decide) (vs:=[(0,vi (gI (aV ws) (k:Int)))]) rfl rfl (.cons rfl .nil) ?_)))))
   intro g100 w101 v102 ch103 o104
   refine lo ?_
   replace o_l:=(o_l.ce ch98).cn ch103
   refine bI (α:=Int) (xs:=l) (ys:=([(gI (aV ws) (k:Int))]:List Int)) g100 (J:=is 6) (S:=is 6) (6,0) rfl bQ ax (by decide) rfl rfl rfl o_l o104.flat (by decide) (by(simp;omega)) ?_
   intro g105 w106 v107 ch108 o109
   clear o_l
   refine ma v107 (aa (au ?_))
   clear o104
   refine a7 rfl (lx (bg (m:=↑k) (n:=1) zs57 rfl (by omega)) (mi ((k:Int)+1) (aa ?_)))
   have C110:=cg [4,6] ((ch98.l rfl).seq (ch103.n.seq (ch108.l rfl)))
   refine back19 (k+1,v107,(l++([(gI (aV ws) (k:Int))]:List Int)),(List.set ofM (Int.toNat rA) rB),g105) _ _ ⟨bH.ca C110,zs2,zs3,zs10,rfl,zs55,zs56,rfl,Rg.ca C110,Rws.ca C110,bx5.ca C110,bx10.ca C110,o30.ca C110,(bx99.cn ch103).ce ch108,o109,by omega,?_⟩ ?_
   · show jk g ws (List.set ofM (Int.toNat rA) rB) (l++([(gI (aV ws) (k:Int))]:List Int)) (k+1)
     exact hkr.join ‹_› hcK rfl ‹_› ‹_› ‹_›
   · show Int.toNat (((List.length (aV ws):Int):Int)-((k+1):Int))<Int.toNat (((List.length (aV ws):Int):Int)-(k:Int))
     omega
  refine aj rfl (df p19) (aO rfl (a8 ?_))
  clear bx5 o30 o35
  refine a7 rfl (mz zs12 (lo (bo (σ:=Unit) (V:=λ_=>Value.tuple #[]) (aE (vals:=[l_v]) Try.func50 oJ oh rfl) (nr o_l (lE hwl (hkr.done ‹_›))) ?_)))
  rintro⟨⟩ w111 ⟨ch112,o113⟩
  clear o_l
  refine aa (a8 (a7 rfl (ma (Value.float .f64 0) (aa (a8 (a8 (a7 rfl (mz zs12 ?_))))))))
  have len114:=(o113.flat).small
  refine lx (bA bQ rfl o113.flat) (mi 0 (aa (aq ?_)))
  refine ba (σ:=Fb×Nat×ay) (λ⟨sm,j,gq⟩ f w=>b7 w0 gq w/\f 3=vp b8 0/\f 12=l_v/\f 17=Value.float .f64 sm/\f 91=l_v/\f 92=vi (List.length (bs g ws):Int)/\f 93=vi ↑j/\Sl gq (is 0) w g_v g.2/\Sl gq (is 0) w ws_v ws/\Bx gq (is 2) w b8 [ws_v]/\Ow gq (is 6) (is 6) w l_v (bs g ws)/\(j:Int)<=((List.length (bs g ws):Int):Int)/\(sm=jd ws ((bs g ws).take j)/\sm<=az)) (λ⟨sm,j,gq⟩=>Int.toNat (((List.length (bs g ws):Int):Int)-(j:Int))) (0,0,g46) ?_ ?_
  · exact⟨bH.ce ch112,zs3,zs12,rfl,rfl,rfl,rfl,Rg.ce ch112,Rws.ce ch112,bx10.ce ch112,o113,by omega,by exact⟨rfl,by decide⟩⟩
  clear Rg Rws bx10 o113 bH
  rintro⟨sm,j,g117⟩ f115 w116 ⟨bH,zs3,zs12,zs17,zs91,zs92,zs93,Rg,Rws,bx10,o113,hle_j,hsm⟩ back29
  refine a8 (a7 rfl (lx (aX (m:=↑j) (n:=(List.length (bs g ws):Int)) zs93 zs92) (aa (a8 ?_))))
  by_cases p29:(j:Int)<(List.length (bs g ws):Int)
  ·
   refine ah rfl (dt p29) ?_
   have htr:=kK (ws:=ws) (g:=g) (k:=j) ‹_›
   refine ap (a8 (aq (a8 (a7 rfl (lx (ab (v:=l_v) (i:=↑j) bQ rfl zs91 o113.flat zs93 (by omega) (by omega)) (lx (aw (v:=l_v) (i:=↑j) ax rfl o113.flat (by omega) (by omega) (by decide) rfl) (ai (gI (bs g ws) (j:Int)) (aa (a7 rfl (mz zs17 (lx (ae dX zs3 bx10 rfl) ?_)))))))))))
   refine mi (gI (bs g ws) (j:Int)) (lx (ab (v:=ws_v) (i:=(gI (bs g ws) (j:Int))) cR rfl rfl Rws rfl (by omega) (by omega)) (lx (aw (v:=ws_v) (i:=(gI (bs g ws) (j:Int))) aF rfl Rws (by omega) (by omega) (by decide) rfl) (lo (bB (v:=Value.float .f64 (aU sm (zf (gI ws (gI (bs g ws) (j:Int)))))) (aE (vals:=[Value.float .f64 sm,Value.float .f64 (gI ws (gI (bs g ws) (j:Int)))]) Try.func27 oR oG rfl) (kH w116 sm (gI ws (gI (bs g ws) (j:Int))) (by exact hsm.2) (by exact kQ hwg hwl ‹_›)) ?_))))
   intro w118 hb119
   replace hb119:=aA hb119 g117
   refine ma (Value.float .f64 (aU sm (zf (gI ws (gI (bs g ws) (j:Int)))))) (aa (au (a7 rfl (lx (bg (m:=↑j) (n:=1) zs93 rfl (by omega)) (mi ((j:Int)+1) (aa ?_))))))
   refine back29 (aU sm (zf (gI ws (gI (bs g ws) (j:Int)))),j+1,g117) _ _ ⟨bH.cn hb119,zs3,zs12,rfl,zs91,zs92,rfl,Rg.cn hb119,Rws.cn hb119,bx10.cn hb119,o113.cn hb119,by omega,?_⟩ ?_
   · show(aU sm (zf (gI ws (gI (bs g ws) (j:Int)))))=jd ws ((bs g ws).take (j+1))/\(aU sm (zf (gI ws (gI (bs g ws) (j:Int)))))<=az
     exact⟨lQ hsm.1 ‹_›,(j5 hsm.2 (kQ hwg hwl ‹_›)).2⟩
   · show Int.toNat (((List.length (bs g ws):Int):Int)-((j+1):Int))<Int.toNat (((List.length (bs g ws):Int):Int)-(j:Int))
     omega
  refine aj rfl (df p29) (aO rfl (a8 ?_))
  clear bx10
  refine a7 rfl (mz zs12 (mz zs17 (ma l_v (ma (Value.float .f64 sm) (ai 0 (aa (ar (vs:=[l_v,Value.float .f64 sm,vi 0]) Try.func14 (.tmp rfl (.tmp rfl (.tmp rfl .nil))) ?_)))))))
  have e0:((bs g ws):List Int)=((bd g ws).1):=by
    rw[iJ p2]
  have e1:(sm:Nat)=((bd g ws).2.1):=by
    (rw[iJ p2];exact mC hsm.1 ‹_›)
  have e2:(0:Int)=((bd g ws).2.2):=by
    rw[iJ p2]
  exact⟨(fin w0 g117 (λn=>if n=6 then 1 else 0),l_v),(mZ (a:=(bs g ws)) (b:=sm) (c:=0) (λ(z0:List Int) (z1:Nat) (z2:Int)=>Ending.returned (vt [l_v,Value.float .f64 z1,vi z2])) e0 e1 e2),bH.fresh _,(e0▸(o113.glue (γ:=c0) (ren:=(λn=>if n=6 then 1 else 0)) (k:=1) bH.col rfl rfl))⟩
 refine ah rfl (congrArg Bool.not (df p2)) (a8 ?_)
 clear bx5 bx10
 refine a7 rfl (mi (dd g ws) (ma vn (ma (Value.float .f64 0) (ai (dd g ws) (aa (ar (vs:=[vn,Value.float .f64 0,vi (dd g ws)]) Try.func14 (.tmp rfl (.tmp rfl (.tmp rfl .nil))) ?_))))))
 have C120:=cg [] (ch2.n.seq (ch7.n.seq hb13.n))
 replace bH:=bH.ca C120
 have e0:([]:List Int)=((bd g ws).1):=by
   rw[iH p2]
 have e1:(0:Nat)=((bd g ws).2.1):=by
   rw[iH p2]
 have e2:(dd g ws:Int)=((bd g ws).2.2):=by
   rw[iH p2]
 exact⟨(fin w0 g9 (λn=>0),vn),(mZ (a:=[]) (b:=0) (c:=dd g ws) (λ(z0:List Int) (z1:Nat) (z2:Int)=>Ending.returned (vt [vn,Value.float .f64 z1,vi z2])) e0 e1 e2),bH.fresh _,(e0▸Ow.nil)⟩
end TL
