import Derived.Test.YtfpckpgnnplhnaaGreatSwTlSqK
import Derived.Test.YtfpckpgnnplhnaaGreatSwTlGenA
import Derived.Test.YtfpckpgnnplhnaaGreatSwTlAli
set_option linter.all false
set_option maxRecDepth 20000
namespace TL
open Go Go.Proofs
theorem ve:Tryz.prog.follows .mixedOrders=true:=by kernel_rfl
theorem wc:Tp Tryz.prog 53 true 4 32 (.agg #[.int .i64 0,.int .i64 0,.int .i64 0,.int .i64 0]):=Tp.of (by kernel_rfl)
theorem rQ:Tryz.f18.body.isNone=false:=rfl
theorem rz:(Tryz.f18.name== "runtime.NumGoroutine")=false:=by decide+kernel
set_option maxHeartbeats 4000000 in
theorem iD(w0:World)(g:(Int)×(List Pt))(g_v:Value)(hg_v:Ro w0 g_v g.2)(hOk:(bX g).2=0->(bX g).1=true->¬(g.2.length:Int)<3->sr g)(hkd:∀p∈(cQ g).1,0<=p.1/\p.1<4):
    Calls Tryz.prog 10 #[vg [vi g.1,g_v]] w0 (λee w=>ee= .returned (vt [vi ((aT g).1),vi ((aT g).2.1),vi ((aT g).2.2.1),vi ((aT g).2.2.2)])/\eK w0.heap.size w0 w):=by
 refine ah Tryz.func10 rfl nq ?_
 have bH:=aW.start w0
 have Rg:=hg_v.sl
 refine a7 (a6 rfl (cy rfl (bU c0 (is 1) (1,0) rfl rfl ?_)))
 intro g4 w1 b3 ch2 bx5
 refine ai 0 (ai 0 (ai 0 (ai 0 (ab (a7 (a6 rfl (lx (av (ds:=[vi g.1,g_v]) aK rfl bx5 rfl rfl) ?_)))))))
 refine lo (bB (aB (vals:=[vg [vi g.1,g_v]]) Tryz.func18 rQ rz rfl) (yu w1 g g_v Rg.t.ro (by exact hOk)) ?_)
 rintro⟨d7,v9⟩ w6 ⟨fr8,o10⟩
 obtain⟨g11,ch12,G11⟩:=hU g4 fr8 (λn=>if n=1 then 2 else 0)
 replace o10:=o10.gl G11 2
 refine mv (vt [v9,vi ((cQ g).2)]) (lx (ay rfl rfl) (lx (ay rfl rfl) (ma v9 (ai ((cQ g).2) (ab (a7 (a7 ?_)))))))
 refine a6 rfl (mi ((cQ g).2) (lx (du (m:=(cQ g).2) (n:=0) rfl rfl) (ab ?_)))
 by_cases p2:((cQ g).2)=0
 ·
  refine af rfl (congrArg Bool.not (dt p2)) (am (a7 (a6 rfl (cy rfl (aZ g11 (is 3) (3,0) rfl wc ?_)))))
  intro g16 w13 b15 ch14 bx17
  refine ab (a7 (a7 (a6 rfl (mv v9 ?_))))
  have len18:=((o10.a ch14).sl).small
  refine lx (bG CT rfl o10.t.sl) (mi 0 (ab (aj ?_)))
  refine aR (σ:=Int×Int×Int×Int×Nat×ax) (λ⟨c0,c1,c2,c3,k,gq⟩ f w=>aW w0 gq w/\f 7=vp b15 0/\f 18=v9/\f 19=vi (List.length ((cQ g).1):Int)/\f 20=vi ↑k/\Sl gq (is 0) w g_v g.2/\kI gq 2 w v9 ((cQ g).1)/\Bx gq (is 3) w b15 [vi c0,vi c1,vi c2,vi c3]/\(k:Int)<=((List.length ((cQ g).1):Int):Int)/\(tD (cQ g).1 k c0 c1 c2 c3)) (λ⟨c0,c1,c2,c3,k,gq⟩=>Int.toNat (((List.length ((cQ g).1):Int):Int)-(k:Int))) (0,0,0,0,0,g16) ?_ ?_
  · exact⟨bH.t,rfl,rfl,rfl,rfl,Rg.t,o10.t,bx17,by omega,by exact tD.start⟩
  rintro⟨c0,c1,c2,c3,k,g22⟩ f20 w21 ⟨bH,zs7,zs18,zs19,zs20,Rg,o10,bx17,hle_k,hkn⟩ back6
  refine a7 (a6 rfl (lx (br (m:=↑k) (n:=(List.length ((cQ g).1):Int)) zs20 zs19) (ab (a7 ?_))))
  by_cases p6:(k:Int)<(List.length ((cQ g).1):Int)
  ·
   refine ag rfl (dt p6) ?_
   obtain⟨hk0,hk3⟩:=hkd (gI (cQ g).1 (k:Int)) (bz (by omega) ‹_›)
   obtain⟨hc0,hc3⟩:=hkn.bd (gI (cQ g).1 (k:Int)).1 hk0 hk3
   refine am (a7 (aj (a7 (a6 rfl (lx (ad (v:=v9) (i:=↑k) CT rfl zs18 o10.sl zs20 (by omega) (by omega)) ?_)))))
   obtain⟨v23,v24,ce25,⟨r26,r27⟩,bl28⟩:=se (r:=(k:Int)) o10.sl (by omega) (by omega)
   refine lw (vg [vi ((gI ((cQ g).1) (k:Int)).1),v23,v24]) (mP (cs:=[vi ((gI ((cQ g).1) (k:Int)).1),v23,v24]) ea rfl rfl ce25) (lo (aZ g22 (is 4) (4,0) rfl ea ?_))
   intro g32 w29 b31 ch30 bx33
   refine lo ?_
   refine aA (cs':=[vi ((gI ((cQ g).1) (k:Int)).1),v23,v24]) ea rfl rfl bx33 rfl nq (AllOne.all (.cons rfl (.cons (aM r26.t) (.cons (aM r27.t) .nil)))) rfl ?_
   intro w34 ch35 bx36
   refine ab (a6 rfl (lx (aa xC rfl rfl rfl rfl) (lx (a8 ap rfl bx36 rfl) (lx (aP (s:=1) ED rfl zs7 rfl (by omega) (by omega) (by rw[Nat.zero_add,Nat.mul_one])) ?_))))
   refine lw (vi (gI ([c0,c1,c2,c3]:List Int) ((gI ((cQ g).1) (k:Int)).1))) (sM (cs:=[c0,c1,c2,c3]) ap rfl bx17.t rfl rfl (by omega) (by omega)) (lx (aJ (m:=gI ([c0,c1,c2,c3]:List Int) ((gI ((cQ g).1) (k:Int)).1)) (n:=1) rfl rfl (by omega)) (lx (aP (s:=1) ED rfl zs7 rfl (by omega) (by omega) (by rw[Nat.zero_add,Nat.mul_one])) (lo (qW (i:=((gI ((cQ g).1) (k:Int)).1)) (cs:=[c0,c1,c2,c3]) ap rfl rfl bx17.t rfl rfl (by omega) (by omega) ?_))))
   intro w37 ch38 bx39
   refine ab (ak ?_)
   refine a6 rfl (lx (aJ (m:=↑k) (n:=1) zs20 rfl (by omega)) (mi ((k:Int)+1) (ab ?_)))
   refine back6 (gI (List.set ([c0,c1,c2,c3]:List Int) (Int.toNat ((gI ((cQ g).1) (k:Int)).1)) ((gI ([c0,c1,c2,c3]:List Int) ((gI ((cQ g).1) (k:Int)).1))+1)) 0,gI (List.set ([c0,c1,c2,c3]:List Int) (Int.toNat ((gI ((cQ g).1) (k:Int)).1)) ((gI ([c0,c1,c2,c3]:List Int) ((gI ((cQ g).1) (k:Int)).1))+1)) 1,gI (List.set ([c0,c1,c2,c3]:List Int) (Int.toNat ((gI ((cQ g).1) (k:Int)).1)) ((gI ([c0,c1,c2,c3]:List Int) ((gI ((cQ g).1) (k:Int)).1))+1)) 2,gI (List.set ([c0,c1,c2,c3]:List Int) (Int.toNat ((gI ((cQ g).1) (k:Int)).1)) ((gI ([c0,c1,c2,c3]:List Int) ((gI ((cQ g).1) (k:Int)).1))+1)) 3,k+1,g32) _ _ ⟨bH.t,zs7,zs18,zs19,rfl,Rg.t,o10.t,bx39,by omega,?_⟩ ?_
   · show tD (cQ g).1 (k+1) (gI (List.set ([c0,c1,c2,c3]:List Int) (Int.toNat ((gI ((cQ g).1) (k:Int)).1)) ((gI ([c0,c1,c2,c3]:List Int) ((gI ((cQ g).1) (k:Int)).1))+1)) 0) (gI (List.set ([c0,c1,c2,c3]:List Int) (Int.toNat ((gI ((cQ g).1) (k:Int)).1)) ((gI ([c0,c1,c2,c3]:List Int) ((gI ((cQ g).1) (k:Int)).1))+1)) 1) (gI (List.set ([c0,c1,c2,c3]:List Int) (Int.toNat ((gI ((cQ g).1) (k:Int)).1)) ((gI ([c0,c1,c2,c3]:List Int) ((gI ((cQ g).1) (k:Int)).1))+1)) 2) (gI (List.set ([c0,c1,c2,c3]:List Int) (Int.toNat ((gI ((cQ g).1) (k:Int)).1)) ((gI ([c0,c1,c2,c3]:List Int) ((gI ((cQ g).1) (k:Int)).1))+1)) 3)
     exact hkn.next ‹_› hk0 hk3 rfl
   · show Int.toNat (_-_)<Int.toNat (_-_)
     omega
  refine af rfl (df p6) (aF rfl (a7 ?_))
  refine dy g22 rfl ve (by kernel_rfl) ?_
  intro w42 ch41
  refine qx (λw' hw'=>aP ED rfl zs7 rfl (by decide) (by decide) rfl) ?_
  refine qx (λw' hw'=>a8 ap rfl (bx17.t.bel hw') rfl) (qx (λw' hw'=>aP ED rfl zs7 rfl (by decide) (by decide) rfl) (qx (λw' hw'=>a8 ap rfl (bx17.t.bel hw') rfl) (qx (λw' hw'=>aP ED rfl zs7 rfl (by decide) (by decide) rfl) (qx (λw' hw'=>a8 ap rfl (bx17.t.bel hw') rfl) (qv (vi c1) (λw' hw'=>bK rfl) (qv (vi c2) (λw' hw'=>bK rfl) (qv (vi c3) (λw' hw'=>bK rfl) (qv (vi 0) (λw' hw'=>bK rfl) (gf ?_)))))))))
  intro w43 hc44
  replace hc44:=aG hc44 g22
  refine az (vs:=[vi c1,vi c2,vi c3,vi 0]) Tryz.func10 (.tmp rfl (.tmp rfl (.tmp rfl (.tmp rfl .nil)))) ?_
  have e0:(c1:Int)=((aT g).1):=by
    (rw[lY ‹_›];(exact(hkn.done ‹_›).1))
  have e1:(c2:Int)=((aT g).2.1):=by
    (rw[lY ‹_›];(exact(hkn.done ‹_›).2.1))
  have e2:(c3:Int)=((aT g).2.2.1):=by
    (rw[lY ‹_›];(exact(hkn.done ‹_›).2.2))
  have e3:(0:Int)=((aT g).2.2.2):=by
    rw[lY ‹_›]
  exact⟨(xD (a:=c1) (b:=c2) (c:=c3) (d:=0) (λ(z0:Int) (z1:Int) (z2:Int) (z3:Int)=>Ending.returned (vt [vi z0,vi z1,vi z2,vi z3])) e0 e1 e2 e3),bH.t.below⟩
 refine ag rfl (congrArg Bool.not (df p2)) (a7 ?_)
 refine a6 rfl (mi ((cQ g).2) (ai 0 (ai 0 (ai 0 (ai ((cQ g).2) (ab (az (vs:=[vi 0,vi 0,vi 0,vi ((cQ g).2)]) Tryz.func10 (.tmp rfl (.tmp rfl (.tmp rfl (.tmp rfl .nil)))) ?_)))))))
 have e0:(0:Int)=((aT g).1):=by
   rw[mS ‹_›]
 have e1:(0:Int)=((aT g).2.1):=by
   rw[mS ‹_›]
 have e2:(0:Int)=((aT g).2.2.1):=by
   rw[mS ‹_›]
 have e3:((cQ g).2:Int)=((aT g).2.2.2):=by
   rw[mS ‹_›]
 exact⟨(xD (a:=0) (b:=0) (c:=0) (d:=(cQ g).2) (λ(z0:Int) (z1:Int) (z2:Int) (z3:Int)=>Ending.returned (vt [vi z0,vi z1,vi z2,vi z3])) e0 e1 e2 e3),bH.t.below⟩
end TL
