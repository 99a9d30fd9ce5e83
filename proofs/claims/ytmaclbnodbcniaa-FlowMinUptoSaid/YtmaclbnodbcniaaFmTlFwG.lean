import Derived.Test.YtmaclbnodbcniaaFmTlP3
import Derived.Test.YtmaclbnodbcniaaFmTlFwA
import Derived.Test.YtmaclbnodbcniaaFmTlFwB
import Derived.Test.YtmaclbnodbcniaaFmTlFwM
import Derived.Test.YtmaclbnodbcniaaFmTlFwY
import Derived.Test.YtmaclbnodbcniaaFmTlFwP
import Derived.Test.YtmaclbnodbcniaaProg
import Derived.Test.YtmaclbnodbcniaaFmTlAli
set_option linter.all false
set_option maxRecDepth 20000
namespace TL
open Go Go.Proofs
theorem og:Try.prog.follows .mixedOrders=true:=by kernel_rfl
theorem l7:Try.f12.body.isNone=false:=rfl
theorem l9:(Try.f12.name== "runtime.NumGoroutine")=false:=by decide+kernel
theorem ks:Try.f13.body.isNone=false:=rfl
theorem kp:(Try.f13.name== "runtime.NumGoroutine")=false:=by decide+kernel
theorem mF:Try.f18.body.isNone=false:=rfl
theorem n5:(Try.f18.name== "runtime.NumGoroutine")=false:=by decide+kernel
theorem iR:Try.f23.body.isNone=false:=rfl
theorem iK:(Try.f23.name== "runtime.NumGoroutine")=false:=by decide+kernel
set_option maxHeartbeats 8000000 in
theorem nG(w0:World):
    Calls Try.prog 8 #[] w0 (λee w=>ee= .returned (vb true)/\dC w0.heap.size w0 w):=by
 refine aC Try.func8 rfl nq ?_
 have bH:=b9.start w0
 obtain⟨hb1,hb2,hb3,hb4,hb5,hb6,hb7⟩:=sy
 refine a9 (a6 rfl (ma (vb false) (af (a9 (a6 rfl (cQ rfl (bF (aU (vals:=[]) Try.func23 iR iK rfl) (eT w0) ?_)))))))
 rintro⟨d2,v4,v6⟩ w1 ⟨fr3,o5,o7⟩
 obtain⟨g8,ch9,G8⟩:=oU c0 fr3 (λn=>if n=1 then 1 else if n=2 then 2 else 0)
 replace o5:=o5.gl G8 1
 replace o7:=o7.gl G8 2
 refine lo (bF (aU (vals:=[vg [vi ct.1,v4,v6]]) Try.func12 l7 l9 rfl) (kC w1 ct v4 v6 (o5.flat).ro (o7.flat).ro (by exact .inl (by decide))) ?_)
 rintro⟨d11,v13,v15⟩ w10 ⟨fr12,o14,o16⟩
 obtain⟨g17,ch18,G17⟩:=oU g8 fr12 (λn=>if n=1 then 3 else if n=2 then 4 else 0)
 replace o14:=o14.gl G17 3
 replace o16:=o16.gl G17 4
 refine mv (vt [vg [v13,v15,vi ((((ax ct).1).2).2)],vi ((ax ct).2)]) (lx (cE rfl rfl) (lx (cE rfl rfl) (lo (cd g17 (is 5) (5,0) rfl bP ?_))))
 intro g22 w19 b21 ch20 bx23
 replace bx23:Bx g22 (is 5) w19 b21 [vn,vn,vi 0]:=bx23
 refine lo ?_
 replace o16:=o16.cn ch20
 replace o14:=o14.cn ch20
 refine aR (cs':=[v13,v15,vi ((((ax ct).1).2).2)]) bP rfl rfl bx23 rfl nq (AllOne.all (.cons (aZ o14.flat) (.cons (aZ o16.flat) (.cons rfl .nil)))) rfl ?_
 intro w24 ch25 bx26
 clear bx23
 refine ai ((ax ct).2) (af (a9 ?_))
 clear o5 o7
 refine a6 rfl (cQ rfl (bF (aU (vals:=[]) Try.func23 iR iK rfl) (eT w24) ?_))
 rintro⟨d28,v30,v32⟩ w27 ⟨fr29,o31,o33⟩
 obtain⟨g34,ch35,G34⟩:=oU g22 fr29 (λn=>if n=1 then 6 else if n=2 then 7 else 0)
 replace o31:=o31.gl G34 6
 replace o33:=o33.gl G34 7
 refine lo (cd g34 (is 8) (8,0) rfl c9 ?_)
 intro g39 w36 b38 ch37 bx40
 replace bx40:Bx g39 (is 8) w36 b38 [vi 0,vn,vn]:=bx40
 refine lo ?_
 replace o33:=o33.cn ch37
 replace o31:=o31.cn ch37
 refine aR (cs':=[vi ct.1,v30,v32]) c9 rfl rfl bx40 rfl nq (AllOne.all (.cons rfl (.cons (aZ o31.flat) (.cons (aZ o33.flat) .nil)))) rfl ?_
 intro w41 ch42 bx43
 clear bx40
 refine af (a9 (a6 rfl (cQ rfl (aw (α:=Int) g39 (is 9) (is 9) (9,0) rfl [4,0,-4] aW ae (by decide) (by decide) (vs:=[(0,vi 4),(1,vi 0),(2,vi (-4))]) rfl rfl (.cons rfl (.cons rfl (.cons rfl .nil))) ?_))))
 intro g44 w45 v46 ch47 o48
 refine lx (a7 cP rfl rfl rfl rfl) (lo ?_)
 replace bx43:=bx43.cn ch47
 refine bj (cs':=[vi ct.1,v30,v46]) ao rfl rfl bx43 (bf o48.flat) nq (aZ o48.flat) rfl ?_
 intro w49 ch50 bx51
 clear bx43
 refine af (a9 ?_)
 clear o33
 refine a6 rfl (lx (bm (ds:=[vi ct.1,v30,v46]) c9 rfl bx51 rfl rfl) ?_)
 have C52:=cg [8] ((ch42.l rfl).seq (ch47.n.seq (ch50.l rfl)))
 replace o31:=o31.ca C52
 replace o48:=o48.ce ch50
 refine lo (bF (aU (vals:=[vg [vi ct.1,v30,v46]]) Try.func13 ks kp rfl) (kK w49 (ct.1,ct.2.1,[4,0,-4]) v30 v46 (o31.flat).ro (o48.flat).ro (by exact .inl (by decide))) ?_)
 rintro⟨d54,v56⟩ w53 ⟨fr55,o57⟩
 obtain⟨g58,ch59,G58⟩:=oU g44 fr55 (λn=>if n=1 then 10 else 0)
 replace o57:=o57.gl G58 10
 refine mv (vt [v56,vi ((aS (ct.1,ct.2.1,[4,0,-4])).2)]) (lx (cE rfl rfl) (lx (cE rfl rfl) (ma v56 (ai ((aS (ct.1,ct.2.1,[4,0,-4])).2) (af (a9 ?_))))))
 clear o31 o48 bx51
 refine gz g58 (inl []) og ?_
 intro w61 ch60
 refine bL 0 rfl (by kernel_rfl) rfl (bF (aU (vals:=[]) Try.func23 iR iK rfl) (eT w61) ?_)
 rintro⟨d63,v65,v67⟩ w62 ⟨fr64,o66,o68⟩
 obtain⟨g69,ch70,G69⟩:=oU g58 fr64 (λn=>if n=1 then 11 else if n=2 then 12 else 0)
 replace o66:=o66.gl G69 11
 replace o68:=o68.gl G69 12
 have hs71:bZ (inl []) _ _ _ _:=ch70.n
 refine⟨hs71.same,?_⟩
 refine bL 1 rfl (by kernel_rfl) rfl (bE (v:=vb (bQ ct)) (aU (vals:=[vg [vi ct.1,v65,v67]]) Try.func14 kz kS rfl) (gO w62 ct v65 v67 (o66.flat).ro (o68.flat).ro) ?_)
 intro w72 hb73
 replace hb73:=aB hb73 g69
 have hs74:=hs71.seq (hb73.n)
 refine⟨hs74.same,?_⟩
 refine ht (v:=vb (bQ ct)) 2 rfl hs74.same (λw' hw'=>ah rfl) ?_
 have q21:(bQ ct)=true:=by assumption
 refine dg (v:=vp b21 0) 3 rfl (by kernel_rfl) (by kernel_rfl) (wy q21) hs74.same (λw' hw'=>a7 ff rfl rfl rfl rfl) ?_
 have C75:=cg [8] (ch35.n.seq (ch37.n.seq ((ch42.l rfl).seq (ch47.n.seq ((ch50.l rfl).seq (ch59.n.seq ch60.n))))))
 replace bx26:=bx26.ca C75
 refine dg (v:=v13) 4 rfl (by kernel_rfl) (by kernel_rfl) (wy q21) hs74.same (λw' hw'=>a8 ao rfl (bx26.chg hw' (dF rfl)) rfl) ?_
 have C76:=cg [5,8] ((ch25.l rfl).seq (ch35.n.seq (ch37.n.seq ((ch42.l rfl).seq (ch47.n.seq ((ch50.l rfl).seq (ch59.n.seq ch60.n)))))))
 replace o14:=o14.ca C76
 have len77:=(o14.flat).small
 refine dg (v:=vi (List.length (((ax ct).1).1):Int)) 5 rfl (by kernel_rfl) (by kernel_rfl) (wy q21) hs74.same (λw' hw'=>ba aW rfl o14.flat) (dg (v:=vb (decide ((List.length (((ax ct).1).1):Int)=3))) 6 rfl (by kernel_rfl) (by kernel_rfl) (wy q21) hs74.same (λw' hw'=>cw (m:=(List.length (((ax ct).1).1):Int)) (n:=3) rfl rfl) (ht (v:=vb (decide ((List.length (((ax ct).1).1):Int)=3))) 7 rfl hs74.same (λw' hw'=>az rfl q21 rfl) (ht (v:=vb (decide ((List.length (((ax ct).1).1):Int)=3))) 8 rfl hs74.same (λw' hw'=>ah rfl) ?_)))
 have q27:(List.length (((ax ct).1).1):Int)=3:=by assumption
 refine dg (v:=vp b21 2) 9 rfl (by kernel_rfl) (by kernel_rfl) (wy (dt q27)) hs74.same (λw' hw'=>a7 ff rfl rfl rfl rfl) (dg (v:=vi ((((ax ct).1).2).2)) 10 rfl (by kernel_rfl) (by kernel_rfl) (wy (dt q27)) hs74.same (λw' hw'=>a8 gu rfl (bx26.chg hw' (dF rfl)) rfl) (dg (v:=vb (decide (((((ax ct).1).2).2)=9))) 11 rfl (by kernel_rfl) (by kernel_rfl) (wy (dt q27)) hs74.same (λw' hw'=>cw (m:=(((ax ct).1).2).2) (n:=9) rfl rfl) (ht (v:=vb (decide (((((ax ct).1).2).2)=9))) 12 rfl hs74.same (λw' hw'=>az rfl (dt q27) rfl) (ht (v:=vb (decide (((((ax ct).1).2).2)=9))) 13 rfl hs74.same (λw' hw'=>ah rfl) ?_))))
 have q32:((((ax ct).1).2).2)=9:=by assumption
 refine dg (v:=vi ((ax ct).2)) 14 rfl (by kernel_rfl) (by kernel_rfl) (wy (dt q32)) hs74.same (λw' hw'=>ah rfl) (dg (v:=vb (decide (((ax ct).2)=0))) 15 rfl (by kernel_rfl) (by kernel_rfl) (wy (dt q32)) hs74.same (λw' hw'=>cw (m:=(ax ct).2) (n:=0) rfl rfl) (ht (v:=vb (decide (((ax ct).2)=0))) 16 rfl hs74.same (λw' hw'=>az rfl (dt q32) rfl) (ht (v:=vb (decide (((ax ct).2)=0))) 17 rfl hs74.same (λw' hw'=>ah rfl) ?_)))
 have q36:((ax ct).2)=0:=by assumption
 refine dg (v:=vg [v13,v15,vi ((((ax ct).1).2).2)]) 19 rfl (by kernel_rfl) (by kernel_rfl) (wy (dt q36)) hs74.same (λw' hw'=>bm (ds:=[v13,v15,vi ((((ax ct).1).2).2)]) bP rfl (bx26.chg hw' (dF rfl)) rfl rfl) (bL 18 rfl (by kernel_rfl) (wy (dt q36)) (bF (aU (vals:=[]) Try.func23 iR iK rfl) (eT w72) ?_))
 rintro⟨d79,v81,v83⟩ w78 ⟨fr80,o82,o84⟩
 obtain⟨g85,ch86,G85⟩:=oU g69 fr80 (λn=>if n=1 then 13 else if n=2 then 14 else 0)
 replace o82:=o82.gl G85 13
 replace o84:=o84.gl G85 14
 have hs87:=hs74.seq (ch86.n)
 refine⟨hs87.same,?_⟩
 refine bL 20 rfl (by kernel_rfl) (wy (dt q36)) ?_
 replace o16:=o16.ca C76
 refine bE (v:=vb (et ct (((ax ct).1).1,(((ax ct).1).2).1,(((ax ct).1).2).2))) (aU (vals:=[vg [vi ct.1,v81,v83],vg [v13,v15,vi ((((ax ct).1).2).2)]]) Try.func18 mF n5 rfl) (mS w78 ct v81 v83 (o82.flat).ro (o84.flat).ro (((ax ct).1).1,(((ax ct).1).2).1,(((ax ct).1).2).2) v13 v15 ((o14.ca hs87).flat).ro ((o16.ca hs87).flat).ro) ?_
 intro w88 hb89
 replace hb89:=aB hb89 g85
 have hs90:=hs87.seq (hb89.n)
 refine⟨hs90.same,?_⟩
 refine ht (v:=vb (et ct (((ax ct).1).1,(((ax ct).1).2).1,(((ax ct).1).2).2))) 21 rfl hs90.same (λw' hw'=>az rfl (dt q36) rfl) (ht (v:=vb (et ct (((ax ct).1).1,(((ax ct).1).2).1,(((ax ct).1).2).2))) 22 rfl hs90.same (λw' hw'=>ah rfl) ?_)
 have q41:(et ct (((ax ct).1).1,(((ax ct).1).2).1,(((ax ct).1).2).2))=true:=by assumption
 refine dg (v:=v56) 23 rfl (by kernel_rfl) (by kernel_rfl) (wy q41) hs90.same (λw' hw'=>ah rfl) ?_
 replace o57:=o57.cn ch60
 have len91:=(o57.flat).small
 refine dg (v:=vi (List.length ((aS (ct.1,ct.2.1,[4,0,-4])).1):Int)) 24 rfl (by kernel_rfl) (by kernel_rfl) (wy q41) hs90.same (λw' hw'=>ba aW rfl o57.flat) (dg (v:=vb (decide (0<(List.length ((aS (ct.1,ct.2.1,[4,0,-4])).1):Int)))) 25 rfl (by kernel_rfl) (by kernel_rfl) (wy q41) hs90.same (λw' hw'=>bY (m:=(List.length ((aS (ct.1,ct.2.1,[4,0,-4])).1):Int)) (n:=0) rfl rfl) (ht (v:=vb (decide (0<(List.length ((aS (ct.1,ct.2.1,[4,0,-4])).1):Int)))) 26 rfl hs90.same (λw' hw'=>az rfl q41 rfl) (ht (v:=vb (decide (0<(List.length ((aS (ct.1,ct.2.1,[4,0,-4])).1):Int)))) 27 rfl hs90.same (λw' hw'=>ah rfl) ?_)))
 have q46:0<(List.length ((aS (ct.1,ct.2.1,[4,0,-4])).1):Int):=by assumption
 refine dg (v:=vi ((aS (ct.1,ct.2.1,[4,0,-4])).2)) 28 rfl (by kernel_rfl) (by kernel_rfl) (wy (dt q46)) hs90.same (λw' hw'=>ah rfl) (dg (v:=vb (decide (((aS (ct.1,ct.2.1,[4,0,-4])).2)=0))) 29 rfl (by kernel_rfl) (by kernel_rfl) (wy (dt q46)) hs90.same (λw' hw'=>cw (m:=(aS (ct.1,ct.2.1,[4,0,-4])).2) (n:=0) rfl rfl) (ht (v:=vb (decide (((aS (ct.1,ct.2.1,[4,0,-4])).2)=0))) 30 rfl hs90.same (λw' hw'=>az rfl (dt q46) rfl) (ht (v:=vb (decide (((aS (ct.1,ct.2.1,[4,0,-4])).2)=0))) 31 rfl hs90.same (λw' hw'=>bD rfl) (dV (by kernel_rfl) (aF (vs:=[vb (decide (((aS (ct.1,ct.2.1,[4,0,-4])).2)=0))]) Try.func8 (.tmp rfl .nil) ?_)))))
 have e0:(decide (((aS (ct.1,ct.2.1,[4,0,-4])).2)=0):Bool)=(true):=by
   rfl
 have C92:=cg [5,8] (ch9.n.seq (ch18.n.seq (ch20.n.seq ((ch25.l rfl).seq (ch35.n.seq (ch37.n.seq ((ch42.l rfl).seq (ch47.n.seq ((ch50.l rfl).seq (ch59.n.seq (ch60.n.seq (ch70.n.seq (hb73.n.seq (ch86.n.seq hb89.n))))))))))))))
 replace bH:=bH.ca C92
 exact⟨(congrArg (a₁:=decide (((aS (ct.1,ct.2.1,[4,0,-4])).2)=0)) (λ(z0:Bool)=>Ending.returned (vb z0)) e0),bH.below⟩
end TL
