import Derived.Test.YtfpckpgnnplhnaaGreatSkTlSqK
import Derived.Test.YtfpckpgnnplhnaaGreatSkTlGenA
import Derived.Test.YtfpckpgnnplhnaaGreatSkTlAli
set_option linter.all false
set_option maxRecDepth 20000
namespace TL
open Go Go.Proofs
theorem sX:Tryz.prog.follows .mixedOrders=true:=by kernel_rfl
theorem uG:Tp Tryz.prog 53 true 4 32 (.agg #[.int .i64 0,.int .i64 0,.int .i64 0,.int .i64 0]):=Tp.of (by kernel_rfl)
theorem oL:Tryz.f18.body.isNone=false:=rfl
theorem pY:(Tryz.f18.name== "runtime.NumGoroutine")=false:=by decide+kernel
set_option maxHeartbeats 4000000 in
theorem wv(w0:World)(g:(Int)×(List Pt))(g_v:Value)(hg_v:Ro w0 g_v g.2)(hOk:(bW g).2=0->(bW g).1=true->¬(g.2.length:Int)<3->vu g)(hkd:∀p∈(cP g).1,0<=p.1/\p.1<4):
    Calls Tryz.prog 10 #[vg [vi g.1,g_v]] w0 (λee w=>ee= .returned (vt [vi ((da g).1),vi ((da g).2.1),vi ((da g).2.2.1),vi ((da g).2.2.2)])/\eJ w0.heap.size w0 w):=by
 refine ap Tryz.func10 rfl nq ?_
 have bH:=b6.start w0
 have Rg:=hg_v.sl
 refine a7 (a6 rfl (cN rfl (cq c0 (is 1) (1,0) rfl rfl ?_)))
 intro g4 w1 b3 ch2 bx5
 refine ai 0 (ai 0 (ai 0 (ai 0 (ab (a7 (a6 rfl (lx (ay (ds:=[vi g.1,g_v]) aX rfl bx5 rfl rfl) ?_)))))))
 replace Rg:=Rg.cn ch2
 refine lo (bE (aH (vals:=[vg [vi g.1,g_v]]) Tryz.func18 oL pY rfl) (xY w1 g g_v (Rg).ro (by exact hOk)) ?_)
 rintro⟨d7,v9⟩ w6 ⟨fr8,o10⟩
 obtain⟨g11,ch12,G11⟩:=i8 g4 fr8 (λn=>if n=1 then 2 else 0)
 replace o10:=o10.gl G11 2
 refine mv (vt [v9,vi ((cP g).2)]) (lx (aJ rfl rfl) (lx (aJ rfl rfl) (ma v9 (ai ((cP g).2) (ab (a7 (a7 ?_)))))))
 clear bx5
 refine a6 rfl (mi ((cP g).2) (lx (dq (m:=(cP g).2) (n:=0) rfl rfl) (ab ?_)))
 by_cases p2:((cP g).2)=0
 ·
  refine ag rfl (congrArg Bool.not (dt p2)) (ao (a7 (a6 rfl (cN rfl (bi g11 (is 3) (3,0) rfl uG ?_)))))
  intro g16 w13 b15 ch14 bx17
  refine ab (a7 (a7 (a6 rfl (mv v9 ?_))))
  replace o10:=o10.cn ch14
  have len18:=(o10.sl).small
  refine lx (bp eb rfl o10.sl) (mi 0 (ab (am ?_)))
  refine aV (σ:=Int×Int×Int×Int×Nat×aw) (λ⟨c0,c1,c2,c3,k,gq⟩ f w=>b6 w0 gq w/\f 7=vp b15 0/\f 18=v9/\f 19=vi (List.length ((cP g).1):Int)/\f 20=vi ↑k/\Sl gq (is 0) w g_v g.2/\iB gq 2 w v9 ((cP g).1)/\Bx gq (is 3) w b15 [vi c0,vi c1,vi c2,vi c3]/\(k:Int)<=((List.length ((cP g).1):Int):Int)/\(rX (cP g).1 k c0 c1 c2 c3)) (λ⟨c0,c1,c2,c3,k,gq⟩=>Int.toNat (((List.length ((cP g).1):Int):Int)-(k:Int))) (0,0,0,0,0,g16) ?_ ?_
  have C19:=cg [] (ch2.n.seq (ch12.n.seq ch14.n))
  · exact⟨bH.ca C19,rfl,rfl,rfl,rfl,(Rg.cn ch12).cn ch14,o10,bx17,by omega,by exact rX.start⟩
  clear Rg o10 bx17 bH
  rintro⟨c0,c1,c2,c3,k,g22⟩ f20 w21 ⟨bH,zs7,zs18,zs19,zs20,Rg,o10,bx17,hle_k,hkn⟩ back6
  refine a7 (a6 rfl (lx (bw (m:=↑k) (n:=(List.length ((cP g).1):Int)) zs20 zs19) (ab (a7 ?_))))
  by_cases p6:(k:Int)<(List.length ((cP g).1):Int)
  ·
   refine af rfl (dt p6) ?_
   obtain⟨hk0,hk3⟩:=hkd (gI (cP g).1 (k:Int)) (bC (by omega) ‹_›)
   obtain⟨hc0,hc3⟩:=hkn.bd (gI (cP g).1 (k:Int)).1 hk0 hk3
   refine ao (a7 (am (a7 (a6 rfl (lx (ad (v:=v9) (i:=↑k) eb rfl zs18 o10.sl zs20 (by omega) (by omega)) ?_)))))
   obtain⟨v23,v24,ce25,⟨r26,r27⟩,bl28⟩:=eQ (r:=(k:Int)) o10.sl (by omega) (by omega)
   refine lw (vg [vi ((gI ((cP g).1) (k:Int)).1),v23,v24]) (jN (cs:=[vi ((gI ((cP g).1) (k:Int)).1),v23,v24]) dY rfl rfl ce25) (lo (bi g22 (is 4) (4,0) rfl dY ?_))
   intro g32 w29 b31 ch30 bx33
   refine lo ?_
   replace r27:=r27.cn ch30
   replace r26:=r26.cn ch30
   refine ax (cs':=[vi ((gI ((cP g).1) (k:Int)).1),v23,v24]) dY rfl rfl bx33 rfl nq (AllOne.all (.cons rfl (.cons (aG r26) (.cons (aG r27) .nil)))) rfl ?_
   intro w34 ch35 bx36
   clear bx33
   refine ab (a6 rfl (lx (aa fK rfl rfl rfl rfl) (lx (a8 ah rfl bx36 rfl) (lx (aQ (s:=1) B7 rfl zs7 rfl (by omega) (by omega) (by rw[Nat.zero_add,Nat.mul_one])) ?_))))
   replace bx17:=(bx17.cn ch30).ce ch35
   refine lw (vi (gI ([c0,c1,c2,c3]:List Int) ((gI ((cP g).1) (k:Int)).1))) (qU (cs:=[c0,c1,c2,c3]) ah rfl bx17 rfl rfl (by omega) (by omega)) (lx (aS (m:=gI ([c0,c1,c2,c3]:List Int) ((gI ((cP g).1) (k:Int)).1)) (n:=1) rfl rfl (by omega)) (lx (aQ (s:=1) B7 rfl zs7 rfl (by omega) (by omega) (by rw[Nat.zero_add,Nat.mul_one])) (lo (q4 (i:=((gI ((cP g).1) (k:Int)).1)) (cs:=[c0,c1,c2,c3]) ah rfl rfl bx17 rfl rfl (by omega) (by omega) ?_))))
   intro w37 ch38 bx39
   clear bx17
   refine ab (ak ?_)
   clear r26 r27 bx36
   refine a6 rfl (lx (aS (m:=↑k) (n:=1) zs20 rfl (by omega)) (mi ((k:Int)+1) (ab ?_)))
   have C40:=cg [3,4] (ch30.n.seq ((ch35.l rfl).seq (ch38.l rfl)))
   refine back6 (gI (List.set ([c0,c1,c2,c3]:List Int) (Int.toNat ((gI ((cP g).1) (k:Int)).1)) ((gI ([c0,c1,c2,c3]:List Int) ((gI ((cP g).1) (k:Int)).1))+1)) 0,gI (List.set ([c0,c1,c2,c3]:List Int) (Int.toNat ((gI ((cP g).1) (k:Int)).1)) ((gI ([c0,c1,c2,c3]:List Int) ((gI ((cP g).1) (k:Int)).1))+1)) 1,gI (List.set ([c0,c1,c2,c3]:List Int) (Int.toNat ((gI ((cP g).1) (k:Int)).1)) ((gI ([c0,c1,c2,c3]:List Int) ((gI ((cP g).1) (k:Int)).1))+1)) 2,gI (List.set ([c0,c1,c2,c3]:List Int) (Int.toNat ((gI ((cP g).1) (k:Int)).1)) ((gI ([c0,c1,c2,c3]:List Int) ((gI ((cP g).1) (k:Int)).1))+1)) 3,k+1,g32) _ _ ⟨bH.ca C40,zs7,zs18,zs19,rfl,Rg.ca C40,o10.ca C40,bx39,by omega,?_⟩ ?_
   · show rX (cP g).1 (k+1) (gI (List.set ([c0,c1,c2,c3]:List Int) (Int.toNat ((gI ((cP g).1) (k:Int)).1)) ((gI ([c0,c1,c2,c3]:List Int) ((gI ((cP g).1) (k:Int)).1))+1)) 0) (gI (List.set ([c0,c1,c2,c3]:List Int) (Int.toNat ((gI ((cP g).1) (k:Int)).1)) ((gI ([c0,c1,c2,c3]:List Int) ((gI ((cP g).1) (k:Int)).1))+1)) 1) (gI (List.set ([c0,c1,c2,c3]:List Int) (Int.toNat ((gI ((cP g).1) (k:Int)).1)) ((gI ([c0,c1,c2,c3]:List Int) ((gI ((cP g).1) (k:Int)).1))+1)) 2) (gI (List.set ([c0,c1,c2,c3]:List Int) (Int.toNat ((gI ((cP g).1) (k:Int)).1)) ((gI ([c0,c1,c2,c3]:List Int) ((gI ((cP g).1) (k:Int)).1))+1)) 3)
     exact hkn.next ‹_› hk0 hk3 rfl
   · show Int.toNat (_-_)<Int.toNat (_-_)
     omega
  refine ag rfl (df p6) (aO rfl (a7 ?_))
  clear o10
  refine cG g22 rfl sX (by kernel_rfl) ?_
  intro w42 ch41
  refine qx (λw' hw'=>aQ B7 rfl zs7 rfl (by decide) (by decide) rfl) ?_
  replace bx17:=bx17.cn ch41
  refine qx (λw' hw'=>a8 ah rfl (bx17.bel hw') rfl) (qx (λw' hw'=>aQ B7 rfl zs7 rfl (by decide) (by decide) rfl) (qx (λw' hw'=>a8 ah rfl (bx17.bel hw') rfl) (qx (λw' hw'=>aQ B7 rfl zs7 rfl (by decide) (by decide) rfl) (qx (λw' hw'=>a8 ah rfl (bx17.bel hw') rfl) (qv (vi c1) (λw' hw'=>bm rfl) (qv (vi c2) (λw' hw'=>bm rfl) (qv (vi c3) (λw' hw'=>bm rfl) (qv (vi 0) (λw' hw'=>bm rfl) (ep ?_)))))))))
  intro w43 hc44
  replace hc44:=aN hc44 g22
  refine au (vs:=[vi c1,vi c2,vi c3,vi 0]) Tryz.func10 (.tmp rfl (.tmp rfl (.tmp rfl (.tmp rfl .nil)))) ?_
  have e0:(c1:Int)=((da g).1):=by
    (rw[mf ‹_›];(exact(hkn.done ‹_›).1))
  have e1:(c2:Int)=((da g).2.1):=by
    (rw[mf ‹_›];(exact(hkn.done ‹_›).2.1))
  have e2:(c3:Int)=((da g).2.2.1):=by
    (rw[mf ‹_›];(exact(hkn.done ‹_›).2.2))
  have e3:(0:Int)=((da g).2.2.2):=by
    rw[mf ‹_›]
  replace bH:=bH.cn ch41
  replace bH:=bH.cn hc44
  exact⟨(vZ (a:=c1) (b:=c2) (c:=c3) (d:=0) (λ(z0:Int) (z1:Int) (z2:Int) (z3:Int)=>Ending.returned (vt [vi z0,vi z1,vi z2,vi z3])) e0 e1 e2 e3),bH.below⟩
 refine af rfl (congrArg Bool.not (df p2)) (a7 ?_)
 clear o10
 refine a6 rfl (mi ((cP g).2) (ai 0 (ai 0 (ai 0 (ai ((cP g).2) (ab (au (vs:=[vi 0,vi 0,vi 0,vi ((cP g).2)]) Tryz.func10 (.tmp rfl (.tmp rfl (.tmp rfl (.tmp rfl .nil)))) ?_)))))))
 have e0:(0:Int)=((da g).1):=by
   rw[lN ‹_›]
 have e1:(0:Int)=((da g).2.1):=by
   rw[lN ‹_›]
 have e2:(0:Int)=((da g).2.2.1):=by
   rw[lN ‹_›]
 have e3:((cP g).2:Int)=((da g).2.2.2):=by
   rw[lN ‹_›]
 replace bH:=bH.cn ch2
 replace bH:=bH.cn ch12
 exact⟨(vZ (a:=0) (b:=0) (c:=0) (d:=(cP g).2) (λ(z0:Int) (z1:Int) (z2:Int) (z3:Int)=>Ending.returned (vt [vi z0,vi z1,vi z2,vi z3])) e0 e1 e2 e3),bH.below⟩
end TL
