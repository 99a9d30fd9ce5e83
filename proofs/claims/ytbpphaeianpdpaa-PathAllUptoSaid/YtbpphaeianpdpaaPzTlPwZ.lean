import Derived.Test.YtbpphaeianpdpaaPzTlP2
import Derived.Test.YtbpphaeianpdpaaPzTlGmA
import Derived.Test.YtbpphaeianpdpaaPzTlGenA
import Derived.Test.YtbpphaeianpdpaaPzTlPwA
import Derived.Test.YtbpphaeianpdpaaPzTlPwF
import Derived.Test.YtbpphaeianpdpaaPzTlPwT
import Derived.Test.YtbpphaeianpdpaaPzTlPwL
import Derived.Test.YtbpphaeianpdpaaPzTlPwR
import Derived.Test.YtbpphaeianpdpaaPzTlPwB
import Derived.Test.YtbpphaeianpdpaaPzTlPwX
import Derived.Test.YtbpphaeianpdpaaPzTlPwY
import Derived.Test.YtbpphaeianpdpaaProg
import Derived.Test.YtbpphaeianpdpaaPzTlAli
set_option linter.all false
set_option maxRecDepth 20000
namespace TL
open Go Go.Proofs
theorem cw:Try.prog.follows .mixedOrders=true:=by kernel_rfl
theorem bl:Tp Try.prog 43 false 1 24 (.slice none 0 0):=Tp.of (by kernel_rfl)
theorem qD:Try.f9.body.isNone=false:=rfl
theorem qO:(Try.f9.name== "runtime.NumGoroutine")=false:=by decide+kernel
theorem oH:Try.f10.body.isNone=false:=rfl
theorem pP:(Try.f10.name== "runtime.NumGoroutine")=false:=by decide+kernel
theorem oc:Try.f11.body.isNone=false:=rfl
theorem oW:(Try.f11.name== "runtime.NumGoroutine")=false:=by decide+kernel
theorem oA:Try.f13.body.isNone=false:=rfl
theorem px:(Try.f13.name== "runtime.NumGoroutine")=false:=by decide+kernel
theorem pR:Try.f15.body.isNone=false:=rfl
theorem oI:(Try.f15.name== "runtime.NumGoroutine")=false:=by decide+kernel
theorem lO:Try.f16.body.isNone=false:=rfl
theorem la:(Try.f16.name== "runtime.NumGoroutine")=false:=by decide+kernel
theorem fQ:Try.f17.body.isNone=false:=rfl
theorem fC:(Try.f17.name== "runtime.NumGoroutine")=false:=by decide+kernel
theorem kR:Try.f18.body.isNone=false:=rfl
theorem lV:(Try.f18.name== "runtime.NumGoroutine")=false:=by decide+kernel
theorem lp:Try.f19.body.isNone=false:=rfl
theorem kU:(Try.f19.name== "runtime.NumGoroutine")=false:=by decide+kernel
theorem ox:Try.f21.body.isNone=false:=rfl
theorem oU:(Try.f21.name== "runtime.NumGoroutine")=false:=by decide+kernel
theorem kZ:Try.f22.body.isNone=false:=rfl
theorem lj:(Try.f22.name== "runtime.NumGoroutine")=false:=by decide+kernel
theorem gM:Try.f53.body.isNone=false:=rfl
theorem gP:(Try.f53.name== "runtime.NumGoroutine")=false:=by decide+kernel
theorem gN(w0:World)(n:Int)(all:Int)(hn:0<=n/\n<=1099511627776):
    Calls Try.prog 53 #[vi n,vi all] w0 (λee w=>ee= .returned (vi (min all (n+2000)))/\cl w0.heap.size w0 w):=by
 refine ar Try.func53 rfl nq ?_
 have bH:=aU.start w0
 obtain⟨hn1,hn2⟩:=hn
 refine a7 (a6 rfl (ai 0 (a8 (a7 (a6 rfl (mi all (mi n (lx (aY (m:=n) (n:=2000) rfl rfl (by omega)) (lw (vi (min all (n+2000))) (rH rfl rfl) (ai (min all (n+2000)) (a8 (au (vs:=[vi (min all (n+2000))]) Try.func53 (.tmp rfl .nil) ?_))))))))))))
 have e0:(min all (n+2000):Int)=(min all (n+2000)):=by
   rfl
 exact⟨ri e0,bH.below⟩
theorem iz(w0:World)(a:List Nat)(a_v:Value)(ha_v:Ro w0 a_v a)(b:List Nat)(b_v:Value)(hb_v:Ro w0 b_v b):
    Calls Try.prog 16 #[a_v,b_v] w0 (λee w=>ee= .returned (vb (decide (a=b)))/\cl w0.heap.size w0 w):=by
 refine ar Try.func16 rfl nq ?_
 have bH:=aU.start w0
 have Ra:=ha_v.sl
 have Rb:=hb_v.sl
 refine a7 (a6 rfl (ma (vb false) (a8 (a7 (a7 (a6 rfl (mv a_v ?_)))))))
 have len1:=(Ra).small
 refine lx (aV cG rfl Ra) (mv b_v ?_)
 have len2:=(Rb).small
 refine lx (aV cG rfl Rb) (lx (ch (m:=(a.length:Int)) (n:=(b.length:Int)) rfl rfl) (a8 ?_))
 by_cases p1:(a.length:Int)=(b.length:Int)
 ·
  refine ag rfl (congrArg Bool.not (dt p1)) (ak (a7 (a7 (a6 rfl (ai 0 (a8 (al ?_)))))))
  refine aP (σ:=Nat×aA) (λ⟨k,gq⟩ f w=>aU w0 gq w/\f 0=a_v/\f 1=b_v/\f 5=vi ↑k/\Sl gq (is 0) w a_v a/\Sl gq (is 0) w b_v b/\(k:Int)<=((a.length:Int):Int)/\(List.take k a=List.take k b)) (λ⟨k,gq⟩=>Int.toNat (((a.length:Int):Int)-(k:Int))) (0,c0) ?_ ?_
  · exact⟨bH,rfl,rfl,rfl,Ra,Rb,by omega,by simp⟩
  clear Ra Rb bH
  rintro⟨k,g5⟩ f3 w4 ⟨bH,zs0,zs1,zs5,Ra,Rb,hle_k,hinv4⟩ back4
  refine a7 (a7 (a6 rfl (mz zs5 (mz zs0 (lx (aV cG rfl Ra) (lx (aW (m:=↑k) (n:=(a.length:Int)) rfl rfl) (a8 ?_)))))))
  by_cases p4:(k:Int)<(a.length:Int)
  ·
   refine af rfl (dt p4) (ak (a7 (al (a7 (bL g5 rfl cw (by kernel_rfl) ?_)))))
   intro w7 ch6
   refine qz zs0 (qz zs5 ?_)
   replace Ra:=Ra.cn ch6
   refine qx (λw' hw'=>aa (v:=a_v) (i:=↑k) cG rfl rfl (Ra.bel hw') rfl (by omega) (by omega)) (qx (λw' hw'=>az (v:=a_v) (i:=↑k) aL rfl (Ra.bel hw') (by omega) (by omega) (by decide) rfl) (qz zs1 (qz zs5 ?_)))
   replace Rb:=Rb.cn ch6
   refine qx (λw' hw'=>aa (v:=b_v) (i:=↑k) cG rfl rfl (Rb.bel hw') rfl (by omega) (by omega)) (qx (λw' hw'=>az (v:=b_v) (i:=↑k) aL rfl (Rb.bel hw') (by omega) (by omega) (by decide) rfl) (dJ (v:=vb (decide ((gI a ↑k)=(gI b ↑k)))) rfl (λw' hw'=>aE (vals:=[Value.float .f64 (gI a ↑k),Value.float .f64 (gI b ↑k)]) Try.func18 kR lV rfl) (λw' hw'=>(kT w' (gI a ↑k) (gI b ↑k)).mono λe w2 h2=>⟨h2.1,hw'.trans (h2.2.mono hw'.size)⟩) (qx (λw' hw'=>cv (b:=(decide ((gI a ↑k)=(gI b ↑k)))) rfl) (cm ?_))))
   intro w8 hc9
   replace hc9:=av hc9 g5
   by_cases p6:(decide ((gI a ↑k)=(gI b ↑k)))=true
   ·
    refine ag rfl (congrArg Bool.not p6) (ak (aq (a6 rfl (mz zs5 (lx (aY (m:=↑k) (n:=1) rfl rfl (by omega)) (ai ((k:Int)+1) (a8 ?_)))))))
    replace bH:=bH.cn ch6
    refine back4 (k+1,g5) _ _ ⟨bH.cn hc9,zs0,zs1,rfl,Ra.cn hc9,Rb.cn hc9,by omega,?_⟩ ?_
    · show List.take (k+1) a=List.take (k+1) b
      rw[cA ‹_›,cA (by omega),hinv4];simp_all
    · show Int.toNat (((a.length:Int):Int)-((k+1):Int))<Int.toNat (((a.length:Int):Int)-(k:Int))
      omega
   refine af rfl (congrArg Bool.not (Bool.eq_false_iff.2 p6)) (a7 (a6 rfl (ma (vb false) (a8 (au (vs:=[vb false]) Try.func16 (.tmp rfl .nil) ?_)))))
   have e0:(false:Bool)=(decide (a=b)):=by
     exact(df (λh=>by subst h;simp_all)).symm
   replace bH:=bH.cn ch6
   replace bH:=bH.cn hc9
   exact⟨rb e0,bH.below⟩
  refine ag rfl (df p4) (aD rfl (a7 (a6 rfl (ma (vb true) (a8 (au (vs:=[vb true]) Try.func16 (.tmp rfl .nil) ?_))))))
  have e0:(true:Bool)=(decide (a=b)):=by
    (have e:=hinv4;rw[List.take_of_length_le (by omega),List.take_of_length_le (by omega)] at e;exact(dt e).symm)
  exact⟨rb e0,bH.below⟩
 refine af rfl (congrArg Bool.not (df p1)) (a7 (a6 rfl (ma (vb false) (a8 (au (vs:=[vb false]) Try.func16 (.tmp rfl .nil) ?_)))))
 have e0:(false:Bool)=(decide (a=b)):=by
   exact(df (λh=>by subst h;simp_all)).symm
 exact⟨rb e0,bH.below⟩
set_option maxHeartbeats 8000000 in
theorem ky(w0:World)(g:(Int)×(List Pt))(g_v:Value)(hg_v:Ro w0 g_v g.2)(us:List Wd)(us_v:Value)(hus_v:Ro w0 us_v us)(s:Int)(ts:List Int)(ts_v:Value)(hts_v:Ro w0 ts_v ts):
    Calls Try.prog 3 #[vg [vi g.1,g_v],us_v,vi s,ts_v] w0 (λee w=>ee= .returned (vb true)/\cl w0.heap.size w0 w):=by
 refine ar Try.func3 rfl nq ?_
 have bH:=aU.start w0
 have Rg:=hg_v.sl
 have Rus:=hus_v.sl
 have Rts:=hts_v.sl
 have hll:=mm (g:=g) (ws:=am us)
 have hwo:=nt us
 refine a7 (a6 rfl (cu rfl (cN c0 (is 1) (1,0) rfl rfl ?_)))
 intro g4 w1 b3 ch2 bx5
 replace bx5:Bx g4 (is 1) w1 b3 [vi g.1,g_v]:=bx5
 refine ma (vb false) (a8 (a7 (a7 (a6 rfl (cu rfl (aZ (v:=vb true) (aE (vals:=[]) Try.func9 qD qO rfl) (m9 w1) ?_))))))
 intro w6 hb7
 replace hb7:=av hb7 g4
 refine lx (cv (b:=true) rfl) (a8 (ag rfl rfl (ak (a7 (a7 (a6 rfl ?_))))))
 replace bx5:=bx5.cn hb7
 refine lx (aR (ds:=[vi g.1,g_v]) bP rfl bx5 rfl rfl) ?_
 replace Rg:=(Rg.cn ch2).cn hb7
 refine lo (aZ (v:=vb (decide (g.2.length<=300/\(g.1<=300\/¬bU g)))) (aE (vals:=[vg [vi g.1,g_v]]) Try.func10 oH pP rfl) (nI w6 g g_v (Rg).ro) ?_)
 intro w8 hb9
 replace hb9:=av hb9 g4
 refine lx (cv (b:=(decide (g.2.length<=300/\(g.1<=300\/¬bU g)))) rfl) (mv (vb (!(decide (g.2.length<=300/\(g.1<=300\/¬bU g))))) ?_)
 by_cases q32:(decide (g.2.length<=300/\(g.1<=300\/¬bU g)))=true
 ·
  refine lv (us_v) (wy (congrArg Bool.not q32)) (ao rfl) ?_
  have C10:=cg [] (ch2.n.seq (hb7.n.seq hb9.n))
  replace Rus:=Rus.ca C10
  have len11:=(Rus).small
  refine lv (vi (us.length:Int)) (wy (congrArg Bool.not q32)) (aV s7 rfl Rus) (lv (vb (decide (400<(us.length:Int)))) (wy (congrArg Bool.not q32)) (dW (m:=(us.length:Int)) (n:=400) rfl rfl) (lw (vb (decide (400<(us.length:Int)))) (aI rfl (congrArg Bool.not q32) rfl) (a8 ?_)))
  by_cases p3:400<(us.length:Int)
  ·
   refine af rfl (dt p3) (a7 ?_)
   clear bx5
   refine a6 rfl (ma (vb true) (a8 (au (vs:=[vb true]) Try.func3 (.tmp rfl .nil) ?_)))
   have e0:(true:Bool)=(true):=by
     rfl
   replace bH:=bH.ca C10
   exact⟨rb e0,bH.below⟩
  refine ag rfl (df p3) (ak (a7 (a6 rfl (mv us_v (lo (bq (aE (vals:=[us_v]) Try.func11 oc oW rfl) (rG w8 us us_v (Rus).ro) ?_))))))
  rintro⟨d13,v15⟩ w12 ⟨fr14,o16⟩
  obtain⟨g17,ch18,G17⟩:=kf g4 fr14 (λn=>if n=1 then 2 else 0)
  replace o16:=o16.gl G17 2
  refine ma v15 (a8 (a7 (a6 rfl (mv v15 (lo (bs (α:=Nat) (xs:=([])) (ys:=(am us)) g17 (J:=is 3) (S:=is 3) (3,0) rfl cG aL (by decide) rfl rfl rfl Ow.nil o16.flat (by decide) (by(simp;omega)) ?_))))))
  intro g19 w20 v21 ch22 o23
  replace o23:Ow g19 (is 3) (is 3) w20 v21 (am us:List Nat):=o23
  refine lo (aN (α:=Nat) g19 (is 4) (is 4) (4,0) rfl ([4619567317775286272]:List Nat) cG aL (by decide) (by decide) (vs:=[(0,Value.float .f64 4619567317775286272)]) rfl rfl (.cons rfl .nil) ?_)
  intro g24 w25 v26 ch27 o28
  refine lo ?_
  replace o23:=o23.cn ch27
  refine bs (α:=Nat) (xs:=(am us)) (ys:=([4619567317775286272]:List Nat)) g24 (J:=is 3) (S:=is 3) (3,0) rfl cG aL (by decide) rfl rfl rfl o23 o28.flat (by decide) (by(simp;omega)) ?_
  intro g29 w30 v31 ch32 o33
  clear o23
  refine mv v15 ?_
  have C34:=cg [3] ((ch22.l rfl).seq (ch27.n.seq (ch32.l rfl)))
  replace o16:=o16.ca C34
  have len35:=(o16.flat).small
  refine lx (aV cG rfl o16.flat) (lw ((cR v31 1 (Int.toNat 0) (Int.toNat (List.length (am us):Int)))) (lI (v:=v31) (l:=0) (h:=(List.length (am us):Int)) cG rfl rfl o33.flat (.inr ⟨rfl,rfl⟩) (.inl (congrArg some rfl)) (by omega) (by omega) (by(simp only[List.length_set,List.length_append,List.length_cons,List.length_nil,List.length_replicate,List.length_map,List.length_take,List.length_drop];omega))) ?_)
  have r37:=mP o33.flat (show Int.toNat 0<=Int.toNat (List.length (am us):Int) by omega) (show Int.toNat (List.length (am us):Int)<=List.length _ by(simp only[List.length_set,List.length_append,List.length_cons,List.length_nil,List.length_replicate,List.length_map,List.length_take,List.length_drop];omega))
  rw[show(List.drop (Int.toNat 0) (List.take (Int.toNat (List.length (am us):Int)) (am us++([4619567317775286272]:List Nat))))=(am us) by(exact qK)] at r37
  refine ma ((cR v31 1 (Int.toNat 0) (Int.toNat (List.length (am us):Int)))) (a8 (a7 ?_))
  clear o28
  refine a6 rfl ?_
  have C38:=cg [3] (hb9.n.seq (ch18.n.seq ((ch22.l rfl).seq (ch27.n.seq (ch32.l rfl)))))
  replace bx5:=bx5.ca C38
  refine lx (aR (ds:=[vi g.1,g_v]) bP rfl bx5 rfl rfl) (mv ((cR v31 1 (Int.toNat 0) (Int.toNat (List.length (am us):Int)))) (mi s ?_))
  replace Rg:=Rg.ca C38
  refine lo (bq (aE (vals:=[vg [vi g.1,g_v],(cR v31 1 (Int.toNat 0) (Int.toNat (List.length (am us):Int))),vi s]) Try.func12 kI lu rfl) (jZ w30 g g_v (Rg).ro (am us) (cR v31 1 (Int.toNat 0) (Int.toNat (List.length (am us):Int))) (r37).ro s) ?_)
  rintro⟨d40,v42,v44⟩ w39 ⟨fr41,o43,o45⟩
  obtain⟨g46,ch47,G46⟩:=kf g29 fr41 (λn=>if n=1 then 5 else if n=2 then 6 else 0)
  replace o43:=o43.gl G46 5
  replace o45:=o45.gl G46 6
  refine mv (vt [vg [v42,v44],vi ((aj g (am us) s).2)]) (lx (bm rfl rfl) (lx (bm rfl rfl) (lo (bR g46 (is 7) (7,0) rfl bk ?_))))
  intro g51 w48 b50 ch49 bx52
  replace bx52:Bx g51 (is 7) w48 b50 [vn,vn]:=bx52
  refine lo ?_
  replace o45:=o45.cn ch49
  replace o43:=o43.cn ch49
  refine aQ (cs':=[v42,v44]) bk rfl rfl bx52 rfl nq (AllOne.all (.cons (bf o43.flat) (.cons (bf o45.flat) .nil))) rfl ?_
  intro w53 ch54 bx55
  clear bx52
  refine ai ((aj g (am us) s).2) (a8 (a7 (a6 rfl ?_)))
  have C56:=cg [7] (ch47.n.seq (ch49.n.seq (ch54.l rfl)))
  replace bx5:=bx5.ca C56
  refine lx (aR (ds:=[vi g.1,g_v]) bP rfl bx5 rfl rfl) (mv v15 (mi s ?_))
  replace Rg:=Rg.ca C56
  replace o16:=o16.ca C56
  refine lo (bq (aE (vals:=[vg [vi g.1,g_v],v15,vi s]) Try.func13 oA px rfl) (m0 w53 g g_v (Rg).ro (am us) v15 (o16.flat).ro s) ?_)
  rintro⟨d58,v60,v62⟩ w57 ⟨fr59,o61,o63⟩
  obtain⟨g64,ch65,G64⟩:=kf g51 fr59 (λn=>if n=1 then 8 else if n=2 then 9 else 0)
  replace o61:=o61.gl G64 8
  replace o63:=o63.gl G64 9
  refine mv (vt [vg [v60,v62],vi ((aj g (am us) s).2)]) (lx (bm rfl rfl) (lx (bm rfl rfl) (lo (bR g64 (is 10) (10,0) rfl bk ?_))))
  intro g69 w66 b68 ch67 bx70
  replace bx70:Bx g69 (is 10) w66 b68 [vn,vn]:=bx70
  refine lo ?_
  replace o63:=o63.cn ch67
  replace o61:=o61.cn ch67
  refine aQ (cs':=[v60,v62]) bk rfl rfl bx70 rfl nq (AllOne.all (.cons (bf o61.flat) (.cons (bf o63.flat) .nil))) rfl ?_
  intro w71 ch72 bx73
  clear bx70
  refine ai ((aj g (am us) s).2) (a8 (a7 (a6 rfl ?_)))
  have C74:=cg [10] (ch65.n.seq (ch67.n.seq (ch72.l rfl)))
  replace bx5:=bx5.ca C74
  refine lx (aR (ds:=[vi g.1,g_v]) bP rfl bx5 rfl rfl) (mv ((cR v31 1 (Int.toNat 0) (Int.toNat (List.length (am us):Int)))) ?_)
  replace Rg:=Rg.ca C74
  have C75:=cg [7,10] (ch47.n.seq (ch49.n.seq ((ch54.l rfl).seq (ch65.n.seq (ch67.n.seq (ch72.l rfl))))))
  replace r37:=r37.ca C75
  refine lo (bq (aE (vals:=[vg [vi g.1,g_v],(cR v31 1 (Int.toNat 0) (Int.toNat (List.length (am us):Int)))]) Try.func14 lD l3 rfl) (iL w71 g g_v (Rg).ro (am us) (cR v31 1 (Int.toNat 0) (Int.toNat (List.length (am us):Int))) (r37).ro) ?_)
  rintro⟨d77,v79⟩ w76 ⟨fr78,o80⟩
  obtain⟨g81,ch82,G81⟩:=kf g69 fr78 (λn=>if n=1 then 11 else 0)
  replace o80:=o80.gl G81 11
  refine mv (vt [v79,Value.float .f64 ((ax g (am us)).2.1),vi ((ax g (am us)).2.2)]) (lx (bm rfl rfl) (lx (bm rfl rfl) (lx (bm rfl rfl) (ma v79 (ma (Value.float .f64 ((ax g (am us)).2.1)) (ai ((ax g (am us)).2.2) (a8 (a7 (a6 rfl ?_)))))))))
  replace bx5:=bx5.cn ch82
  refine lx (aR (ds:=[vi g.1,g_v]) bP rfl bx5 rfl rfl) (mv v15 ?_)
  replace Rg:=Rg.cn ch82
  have C83:=cg [10] (ch65.n.seq (ch67.n.seq ((ch72.l rfl).seq ch82.n)))
  replace o16:=o16.ca C83
  refine lo (bq (aE (vals:=[vg [vi g.1,g_v],v15]) Try.func15 pR oI rfl) (ke w76 g g_v (Rg).ro (am us) v15 (o16.flat).ro) ?_)
  rintro⟨d85,v87⟩ w84 ⟨fr86,o88⟩
  obtain⟨g89,ch90,G89⟩:=kf g81 fr86 (λn=>if n=1 then 12 else 0)
  replace o88:=o88.gl G89 12
  refine mv (vt [v87,Value.float .f64 ((ax g (am us)).2.1),vi ((ax g (am us)).2.2)]) (lx (bm rfl rfl) (lx (bm rfl rfl) (lx (bm rfl rfl) (ma v87 (ma (Value.float .f64 ((ax g (am us)).2.1)) (ai ((ax g (am us)).2.2) (a8 (a7 (a7 (a6 rfl (mi ((aj g (am us) s).2) (mi ((aj g (am us) s).2) ?_))))))))))))
  refine lx (ch (m:=(aj g (am us) s).2) (n:=(aj g (am us) s).2) rfl rfl) (mv (vb (!(decide (((aj g (am us) s).2)=((aj g (am us) s).2))))) ?_)
  have q77:((aj g (am us) s).2)=((aj g (am us) s).2):=by rfl
  refine lv (vp b50 0) (wy (congrArg Bool.not (dt q77))) (ad ei rfl rfl rfl rfl) ?_
  have C91:=cg [10] (ch65.n.seq (ch67.n.seq ((ch72.l rfl).seq (ch82.n.seq ch90.n))))
  replace bx55:=bx55.ca C91
  refine lv (v42) (wy (congrArg Bool.not (dt q77))) (ae de rfl bx55 rfl) (lv (vp b68 0) (wy (congrArg Bool.not (dt q77))) (ad ei rfl rfl rfl rfl) ?_)
  replace bx73:=(bx73.cn ch82).cn ch90
  refine lv (v60) (wy (congrArg Bool.not (dt q77))) (ae de rfl bx73 rfl) ?_
  have C92:=cg [7,10] ((ch54.l rfl).seq (ch65.n.seq (ch67.n.seq ((ch72.l rfl).seq (ch82.n.seq ch90.n)))))
  have C93:=cg [10] ((ch72.l rfl).seq (ch82.n.seq ch90.n))
  replace o43:=o43.ca C92
  replace o61:=o61.ca C93
  refine cu (wy (congrArg Bool.not (dt q77))) (aZ (v:=vb (decide ((((aj g (am us) s).1).1)=(((aj g (am us) s).1).1)))) (aE (vals:=[v42,v60]) Try.func16 lO la rfl) (iz w84 (((aj g (am us) s).1).1) v42 (o43.flat).ro (((aj g (am us) s).1).1) v60 (o61.flat).ro) ?_)
  intro w94 hb95
  replace hb95:=av hb95 g89
  refine lv (vb (!(decide ((((aj g (am us) s).1).1)=(((aj g (am us) s).1).1))))) (wy (congrArg Bool.not (dt q77))) (cv (b:=(decide ((((aj g (am us) s).1).1)=(((aj g (am us) s).1).1)))) rfl) (lw (vb (!(decide ((((aj g (am us) s).1).1)=(((aj g (am us) s).1).1))))) (aI rfl (congrArg Bool.not (dt q77)) rfl) (mv (vb (!(decide ((((aj g (am us) s).1).1)=(((aj g (am us) s).1).1))))) ?_))
  have q85:(decide ((((aj g (am us) s).1).1)=(((aj g (am us) s).1).1)))=true:=by exact dt rfl
  refine lv (vp b50 1) (wy (congrArg Bool.not q85)) (ad ei rfl rfl rfl rfl) ?_
  replace bx55:=bx55.cn hb95
  refine lv (v44) (wy (congrArg Bool.not q85)) (ae aF rfl bx55 rfl) (lv (vp b68 1) (wy (congrArg Bool.not q85)) (ad ei rfl rfl rfl rfl) ?_)
  replace bx73:=bx73.cn hb95
  refine lv (v62) (wy (congrArg Bool.not q85)) (ae aF rfl bx73 rfl) ?_
  have C96:=cg [7,10] ((ch54.l rfl).seq (ch65.n.seq (ch67.n.seq ((ch72.l rfl).seq (ch82.n.seq (ch90.n.seq hb95.n))))))
  have C97:=cg [10] ((ch72.l rfl).seq (ch82.n.seq (ch90.n.seq hb95.n)))
  replace o45:=o45.ca C96
  replace o63:=o63.ca C97
  refine cu (wy (congrArg Bool.not q85)) (aZ (v:=vb (decide ((((aj g (am us) s).1).2)=(((aj g (am us) s).1).2)))) (aE (vals:=[v44,v62]) Try.func17 fQ fC rfl) (eu w94 (((aj g (am us) s).1).2) v44 (o45.flat).ro (((aj g (am us) s).1).2) v62 (o63.flat).ro) ?_)
  intro w98 hb99
  replace hb99:=av hb99 g89
  refine lv (vb (!(decide ((((aj g (am us) s).1).2)=(((aj g (am us) s).1).2))))) (wy (congrArg Bool.not q85)) (cv (b:=(decide ((((aj g (am us) s).1).2)=(((aj g (am us) s).1).2)))) rfl) (lw (vb (!(decide ((((aj g (am us) s).1).2)=(((aj g (am us) s).1).2))))) (aI rfl (congrArg Bool.not q85) rfl) (mv (vb (!(decide ((((aj g (am us) s).1).2)=(((aj g (am us) s).1).2))))) ?_))
  have q93:(decide ((((aj g (am us) s).1).2)=(((aj g (am us) s).1).2)))=true:=by exact dt rfl
  refine lv (vi ((ax g (am us)).2.2)) (wy (congrArg Bool.not q93)) (ao rfl) (lv (vi ((ax g (am us)).2.2)) (wy (congrArg Bool.not q93)) (ao rfl) (lv (vb (!(decide (((ax g (am us)).2.2)=((ax g (am us)).2.2))))) (wy (congrArg Bool.not q93)) (ch (m:=(ax g (am us)).2.2) (n:=(ax g (am us)).2.2) rfl rfl) (lw (vb (!(decide (((ax g (am us)).2.2)=((ax g (am us)).2.2))))) (aI rfl (congrArg Bool.not q93) rfl) (mv (vb (!(decide (((ax g (am us)).2.2)=((ax g (am us)).2.2))))) ?_))))
  have q98:((ax g (am us)).2.2)=((ax g (am us)).2.2):=by rfl
  refine lv (v79) (wy (congrArg Bool.not (dt q98))) (ao rfl) (lv (v87) (wy (congrArg Bool.not (dt q98))) (ao rfl) ?_)
  have C100:=cg [] (ch90.n.seq (hb95.n.seq hb99.n))
  replace o80:=o80.ca C100
  replace o88:=(o88.cn hb95).cn hb99
  refine cu (wy (congrArg Bool.not (dt q98))) (aZ (v:=vb (decide (((ax g (am us)).1)=((ax g (am us)).1)))) (aE (vals:=[v79,v87]) Try.func17 fQ fC rfl) (eu w98 ((ax g (am us)).1) v79 (o80.flat).ro ((ax g (am us)).1) v87 (o88.flat).ro) ?_)
  intro w101 hb102
  replace hb102:=av hb102 g89
  refine lv (vb (!(decide (((ax g (am us)).1)=((ax g (am us)).1))))) (wy (congrArg Bool.not (dt q98))) (cv (b:=(decide (((ax g (am us)).1)=((ax g (am us)).1)))) rfl) (lw (vb (!(decide (((ax g (am us)).1)=((ax g (am us)).1))))) (aI rfl (congrArg Bool.not (dt q98)) rfl) (mv (vb (!(decide (((ax g (am us)).1)=((ax g (am us)).1))))) ?_))
  have q104:(decide (((ax g (am us)).1)=((ax g (am us)).1)))=true:=by exact dt rfl
  refine lv (Value.float .f64 ((ax g (am us)).2.1)) (wy (congrArg Bool.not q104)) (ao rfl) (lv (Value.float .f64 ((ax g (am us)).2.1)) (wy (congrArg Bool.not q104)) (ao rfl) (cu (wy (congrArg Bool.not q104)) (aZ (v:=vb (decide (((ax g (am us)).2.1)=((ax g (am us)).2.1)))) (aE (vals:=[Value.float .f64 ((ax g (am us)).2.1),Value.float .f64 ((ax g (am us)).2.1)]) Try.func18 kR lV rfl) (kT w101 ((ax g (am us)).2.1) ((ax g (am us)).2.1)) ?_)))
  intro w103 hb104
  replace hb104:=av hb104 g89
  refine lv (vb (!(decide (((ax g (am us)).2.1)=((ax g (am us)).2.1))))) (wy (congrArg Bool.not q104)) (cv (b:=(decide (((ax g (am us)).2.1)=((ax g (am us)).2.1)))) rfl) (lw (vb (!(decide (((ax g (am us)).2.1)=((ax g (am us)).2.1))))) (aI rfl (congrArg Bool.not q104) rfl) (mv (vb (!(decide (((ax g (am us)).2.1)=((ax g (am us)).2.1))))) ?_))
  have q110:(decide (((ax g (am us)).2.1)=((ax g (am us)).2.1)))=true:=by exact dt rfl
  refine lv ((cR v31 1 (Int.toNat 0) (Int.toNat (List.length (am us):Int)))) (wy (congrArg Bool.not q110)) (ao rfl) (lv (v15) (wy (congrArg Bool.not q110)) (ao rfl) ?_)
  have C106:=cg [] (ch90.n.seq (hb95.n.seq (hb99.n.seq (hb102.n.seq hb104.n))))
  have C105:=ch82.n.seq C106
  replace r37:=r37.ca C105
  replace o16:=o16.ca C106
  refine cu (wy (congrArg Bool.not q110)) (aZ (v:=vb (decide ((am us)=(am us)))) (aE (vals:=[(cR v31 1 (Int.toNat 0) (Int.toNat (List.length (am us):Int))),v15]) Try.func16 lO la rfl) (iz w103 (am us) (cR v31 1 (Int.toNat 0) (Int.toNat (List.length (am us):Int))) (r37).ro (am us) v15 (o16.flat).ro) ?_)
  intro w107 hb108
  replace hb108:=av hb108 g89
  refine lv (vb (!(decide ((am us)=(am us))))) (wy (congrArg Bool.not q110)) (cv (b:=(decide ((am us)=(am us)))) rfl) (lw (vb (!(decide ((am us)=(am us))))) (aI rfl (congrArg Bool.not q110) rfl) (mv (vb (!(decide ((am us)=(am us))))) ?_))
  have q116:(decide ((am us)=(am us)))=true:=by exact dt rfl
  refine lv ((cR v31 1 (Int.toNat 0) (Int.toNat (List.length (am us):Int)))) (wy (congrArg Bool.not q116)) (ao rfl) (lv (v15) (wy (congrArg Bool.not q116)) (ao rfl) ?_)
  replace o16:=o16.cn hb108
  refine lv (vi (List.length (am us):Int)) (wy (congrArg Bool.not q116)) (aV cG rfl o16.flat) (lv (vi ((List.length (am us):Int)+1)) (wy (congrArg Bool.not q116)) (aY (m:=(List.length (am us):Int)) (n:=1) rfl rfl (by omega)) ?_)
  have C109:=cg [7,10] (ch47.n.seq (ch49.n.seq ((ch54.l rfl).seq (ch65.n.seq (ch67.n.seq ((ch72.l rfl).seq (ch82.n.seq (ch90.n.seq (hb95.n.seq (hb99.n.seq (hb102.n.seq (hb104.n.seq hb108.n))))))))))))
  replace o33:=o33.ca C109
  refine lv ((cR v31 1 0 (Int.toNat ((List.length (am us):Int)+1)))) (wy (congrArg Bool.not q116)) (km (α:=Nat) (xs:=(am us++([4619567317775286272]:List Nat))) (v:=v31) (h:=(List.length (am us):Int)+1) cG rfl rfl o33.flat rfl (by omega) (by(simp only[List.length_set,List.length_append,List.length_cons,List.length_nil,List.length_replicate,List.length_map,List.length_take,List.length_drop];omega))) ?_
  have r110:=mP o33.flat (show 0<=Int.toNat ((List.length (am us):Int)+1) by omega) (show Int.toNat ((List.length (am us):Int)+1)<=List.length _ by(simp only[List.length_set,List.length_append,List.length_cons,List.length_nil,List.length_replicate,List.length_map,List.length_take,List.length_drop];omega))
  rw[show(List.drop 0 (List.take (Int.toNat ((List.length (am us):Int)+1)) (am us++([4619567317775286272]:List Nat))))=((am us)++[4619567317775286272]) by(exact r6)] at r110
  refine lv (v15) (wy (congrArg Bool.not q116)) (ao rfl) (lv (vi (List.length (am us):Int)) (wy (congrArg Bool.not q116)) (aV cG rfl o16.flat) (lv (Value.pointer (some (aO (cR v31 1 0 (Int.toNat ((List.length (am us):Int)+1))) 1 (Int.toNat (List.length (am us):Int))))) (wy (congrArg Bool.not q116)) (aa (α:=Nat) (xs:=((am us)++[4619567317775286272])) (v:=(cR v31 1 0 (Int.toNat ((List.length (am us):Int)+1)))) (i:=(List.length (am us):Int)) cG rfl rfl r110 rfl (by omega) (by(simp only[List.length_set,List.length_append,List.length_cons,List.length_nil,List.length_replicate,List.length_map,List.length_take,List.length_drop];omega))) ?_))
  refine lv (Value.float .f64 (gI ((am us)++[4619567317775286272]) (List.length (am us):Int))) (wy (congrArg Bool.not q116)) (az (α:=Nat) (xs:=((am us)++[4619567317775286272])) (v:=(cR v31 1 0 (Int.toNat ((List.length (am us):Int)+1)))) (i:=(List.length (am us):Int)) aL rfl r110 (by omega) (by(simp only[List.length_set,List.length_append,List.length_cons,List.length_nil,List.length_replicate,List.length_map,List.length_take,List.length_drop];omega)) (by decide) rfl) (lv (vb (!(decide ((gI ((am us)++[4619567317775286272]) (List.length (am us):Int))=4619567317775286272)))) (wy (congrArg Bool.not q116)) (nE (a:=(gI ((am us)++[4619567317775286272]) (List.length (am us):Int))) (b:=4619567317775286272) rfl rfl (by exact rO) (by decide)) ?_)
  refine lw (vb (!(decide ((gI ((am us)++[4619567317775286272]) (List.length (am us):Int))=4619567317775286272)))) (aI rfl (congrArg Bool.not q116) rfl) (a8 ?_)
  have p11:(gI ((am us)++[4619567317775286272]) (List.length (am us):Int))=4619567317775286272:=by exact qc
  refine ag rfl (congrArg Bool.not (dt p11)) (ak (a7 ?_))
  clear o16 o33 r37 o88 r110
  refine a6 rfl (lw (vg [vn,vi 0]) (bC (vs:=[]) rfl (by kernel_rfl)) (lo (cN g89 (is 13) (13,0) rfl rfl ?_)))
  intro g114 w111 b113 ch112 bx115
  replace bx115:Bx g114 (is 13) w111 b113 [vn,vi 0]:=bx115
  refine ma (vp b113 0) (a8 (a7 (a6 rfl (mv (vp b113 0) (mv v79 (lo ?_))))))
  have C118:=cg [] (hb102.n.seq (hb104.n.seq (hb108.n.seq ch112.n)))
  replace o80:=o80.ca C118
  obtain⟨c116,hv117⟩:=kY (u:=v79) (bf o80.flat)
  refine aN (α:=Vc) g114 (is 14) (is 14) (14,0) rfl [c116] cW aF (by decide) (by decide) (vs:=[(0,v79)]) rfl rfl (.cons (jg hv117 (co o80.flat)) .nil) ?_
  intro g119 w120 v121 ch122 o123
  refine lo ?_
  refine bq (σ:=Value×fK×Int×aA) (V:=λ⟨b_0_c1_v,b_0_c1,b_1_c1,gq⟩=>vt []) (S:=λ⟨b_0_c1_v,b_0_c1,b_1_c1,gq⟩ w=>aU w0 gq w/\Sl gq (is 0) w g_v g.2/\Sl gq (is 0) w us_v us/\Sl gq (is 0) w ts_v ts/\Bx gq (is 1) w b3 [vi g.1,g_v]/\Ow gq (is 5) (is 5) w v42 (((aj g (am us) s).1).1)/\Ow gq (is 6) (is 6) w v44 (((aj g (am us) s).1).2)/\Bx gq (is 7) w b50 [v42,v44]/\Ow gq (is 8) (is 8) w v60 (((aj g (am us) s).1).1)/\Ow gq (is 9) (is 9) w v62 (((aj g (am us) s).1).2)/\Bx gq (is 10) w b68 [v60,v62]/\Sl gq (qV 11 16) w v79 ((ax g (am us)).1)/\Bx gq (is 13) w b113 [b_0_c1_v,vi b_1_c1]/\Ow gq (is 14) (is 14) w v121 ([c116])/\cj gq 16 w b_0_c1_v b_0_c1/\(cO b_0_c1 b_1_c1)) (aE (vals:=[vp b113 0,v121]) Try.func19 lp kU rfl) ?_ ?_
  ·
   refine ar Try.func19 rfl nq ?_
   replace o80:=o80.cn ch122
   refine a7 (a6 rfl (ai 0 (a8 (al (cS (a7 (a7 (a6 rfl (mi 0 (mv v121 (lx (aV cW rfl o123.flat) (lx (aW (m:=0) (n:=1) rfl rfl) ?_))))))))))))
   refine a8 (af rfl rfl (ak (a7 (al (a7 ?_)))))
   refine kK [false,true,false,false,false] (σ:=Value×fK×Int×aA) (λ⟨b_0_j2_v,b_0_j2,b_1_j2,gq⟩ f w=>aU w0 gq w/\f 0=vp b113 0/\f 1=v121/\f 4=vi 0/\Sl gq (is 0) w g_v g.2/\Sl gq (is 0) w us_v us/\Sl gq (is 0) w ts_v ts/\Bx gq (is 1) w b3 [vi g.1,g_v]/\Ow gq (is 5) (is 5) w v42 (((aj g (am us) s).1).1)/\Ow gq (is 6) (is 6) w v44 (((aj g (am us) s).1).2)/\Bx gq (is 7) w b50 [v42,v44]/\Ow gq (is 8) (is 8) w v60 (((aj g (am us) s).1).1)/\Ow gq (is 9) (is 9) w v62 (((aj g (am us) s).1).2)/\Bx gq (is 10) w b68 [v60,v62]/\Sl gq (qV 11 16) w v79 ((ax g (am us)).1)/\Bx gq (is 13) w b113 [b_0_j2_v,vi b_1_j2]/\Ow gq (is 14) (is 14) w v121 ([c116])/\cj gq 16 w b_0_j2_v b_0_j2/\(cO b_0_j2 b_1_j2)) ?_ ?_
   ·
    intro mid_j2
    refine bL g119 rfl cw (by kernel_rfl) ?_
    intro w125 ch124
    refine qm v121 (qm (vi 0) ?_)
    replace o80:=o80.cn ch124
    replace o123:=o123.cn ch124
    refine qx (λw' hw'=>aa (v:=v121) (i:=0) cW rfl rfl ((iB o123 (VcR.consv hv117 (o80.flat).ro VcR.nil)).bel hw') rfl (by omega) (by(simp only[List.length_set,List.length_append,List.length_cons,List.length_nil,List.length_replicate,List.length_map,List.length_take,List.length_drop];omega))) (qx (λw' hw'=>bb aF rfl (gm hv117 (o123.bel hw') rfl)) ?_)
    have len126:=(o80.flat).small
    refine qx (λw' hw'=>aV bM rfl (o80.flat.bel hw')) (qm v121 (qm (vi 0) (qx (λw' hw'=>aa (v:=v121) (i:=0) cW rfl rfl ((iB o123 (VcR.consv hv117 (o80.flat).ro VcR.nil)).bel hw') rfl (by omega) (by(simp only[List.length_set,List.length_append,List.length_cons,List.length_nil,List.length_replicate,List.length_map,List.length_take,List.length_drop];omega))) (qx (λw' hw'=>bb aF rfl (gm hv117 (o123.bel hw') rfl)) ?_))))
    have cap127:=Sl.cap o80.flat
    refine qv (vi (bg v79:Int)) (λw' hw'=>lm bM rfl (o80.flat.bel hw')) (dJ (v:=vi (min (bg v79:Int) ((List.length ((ax g (am us)).1):Int)+2000))) rfl (λw' hw'=>aE (vals:=[vi (List.length ((ax g (am us)).1):Int),vi (bg v79:Int)]) Try.func53 gM gP rfl) (λw' hw'=>(gN w' (List.length ((ax g (am us)).1):Int) (bg v79:Int) (by omega)).mono λe w2 h2=>⟨h2.1,hw'.trans (h2.2.mono hw'.size)⟩) (qv (vi (min (bg v79:Int) ((List.length ((ax g (am us)).1):Int)+2000))) (λw' hw'=>bh rfl) (cm ?_)))
    intro w128 hc129
    replace hc129:=av hc129 g119
    refine a7 (a6 rfl (mi (min (bg v79:Int) ((List.length ((ax g (am us)).1):Int)+2000)) (lx (dW (m:=min (bg v79:Int) ((List.length ((ax g (am us)).1):Int)+2000)) (n:=0) rfl rfl) (mv (vb (decide (0<(min (bg v79:Int) ((List.length ((ax g (am us)).1):Int)+2000))))) ?_))))
    by_cases q25_c1:0<(min (bg v79:Int) ((List.length ((ax g (am us)).1):Int)+2000))
    ·
     refine lv (vp b113 0) (wy (dt q25_c1)) (ao rfl) (lv (vp b113 0) (wy (dt q25_c1)) (aG rfl) (lv (vp b113 1) (wy (dt q25_c1)) (ad fc rfl rfl rfl rfl) ?_))
     have C130:=cg [] (ch122.n.seq (ch124.n.seq hc129.n))
     replace bx115:=bx115.ca C130
     refine lv (vi 0) (wy (dt q25_c1)) (ae ay rfl bx115 rfl) (lv (vi (min (bg v79:Int) ((List.length ((ax g (am us)).1):Int)+2000))) (wy (dt q25_c1)) (ao rfl) (lv (vi (0+(min (bg v79:Int) ((List.length ((ax g (am us)).1):Int)+2000)))) (wy (dt q25_c1)) (aY (m:=0) (n:=min (bg v79:Int) ((List.length ((ax g (am us)).1):Int)+2000)) rfl rfl (by omega)) (lv (vb (decide ((0+(min (bg v79:Int) ((List.length ((ax g (am us)).1):Int)+2000)))<=1048576))) (wy (dt q25_c1)) (iQ (m:=0+(min (bg v79:Int) ((List.length ((ax g (am us)).1):Int)+2000))) (n:=1048576) rfl rfl) ?_)))
     refine lw (vb (decide ((0+(min (bg v79:Int) ((List.length ((ax g (am us)).1):Int)+2000)))<=1048576))) (aB rfl (dt q25_c1) rfl) (a8 ?_)
     by_cases p4_c1:(0+(min (bg v79:Int) ((List.length ((ax g (am us)).1):Int)+2000)))<=1048576
     ·
      refine af rfl (dt p4_c1) (a7 (a6 rfl (mv (vp b113 0) (mv (vp b113 0) (lw (vp b113 0) (aG rfl) (lx (ad fc rfl rfl rfl rfl) (lx (ae ay rfl bx115 rfl) (mi (min (bg v79:Int) ((List.length ((ax g (am us)).1):Int)+2000)) (lx (aY (m:=0) (n:=min (bg v79:Int) ((List.length ((ax g (am us)).1):Int)+2000)) rfl rfl (by omega)) (lw (vp b113 0) (aG rfl) ?_))))))))))
      refine lx (ad fc rfl rfl rfl rfl) (lo (aQ (cs':=[vn,vi (0+(min (bg v79:Int) ((List.length ((ax g (am us)).1):Int)+2000)))]) ay rfl rfl bx115 rfl nq (AllOne.all (.cons rfl .nil)) rfl ?_))
      intro w131 ch132 bx133
      clear bx115
      refine a8 (bB g119 [0,1,2,3,4,5,6,7,8,11,12] cw ?_)
      intro w135 ch134
      refine xp (v:=vp b113 0) 0 rfl (λw=>ao rfl) (xp (v:=vp b113 0) 1 rfl (λw=>ao rfl) (xp (v:=vp b113 0) 2 rfl (λw=>aG rfl) (xp 3 rfl (λw=>ad fc rfl rfl rfl rfl) ?_)))
      replace bx133:=bx133.cn ch134
      refine xh 4 [3,2,1,0,5,6,7,8,9] rfl (λw' hw'=>ae bl rfl (bx133.bel hw') rfl) (xp (v:=v121) 5 rfl (λw=>ao rfl) (xp (v:=vi 0) 6 rfl (λw=>ao rfl) ?_))
      have C136:=cg [13] (hc129.n.seq ((ch132.l rfl).seq ch134.n))
      replace o80:=o80.ca C136
      replace o123:=o123.ca C136
      refine xv 7 [6,5,4,3,2,1,0] rfl (aa (v:=v121) (i:=0) cW rfl rfl (iB o123 (VcR.consv hv117 (o80.flat).ro VcR.nil)) rfl (by omega) (by(simp only[List.length_set,List.length_append,List.length_cons,List.length_nil,List.length_replicate,List.length_map,List.length_take,List.length_drop];omega))) (xv 8 [7,6,5,4,3,2,1,0] rfl (bb aF rfl (gm hv117 o123 rfl)) (b7 9 rfl (by kernel_rfl) rfl ?_))
      obtain⟨c137,hv138⟩:=kY (u:=v79) (bf o80.flat)
      refine aN (α:=Vc) g119 (is 15) (is 15) (15,0) rfl [c137] cW aF (by decide) (by decide) (vs:=[(0,v79)]) rfl rfl (.cons (jg hv138 (co o80.flat)) .nil) ?_
      intro g139 w140 v141 ch142 o143
      refine b7 10 rfl (by kernel_rfl) rfl ?_
      replace o80:=o80.cn ch142
      refine fP hv138 (α:=Int) (xss:=([])) (i:=16) (γ:=g139) cW aF rfl rfl rfl cj.nil (o143.flat) o80 rfl (by decide) (by(simp;done)) ?_
      intro g144 w145 v146 ch147 o148 r149
      clear o80
      replace o148:cj g144 16 w145 v146 [(ax g (am us)).1]:=o148
      refine xp (v:=vp b113 0) 11 rfl (λw=>aG rfl) (xp 12 rfl (λw=>ad fc rfl rfl rfl rfl) (b7 13 rfl (by kernel_rfl) rfl ?_))
      replace bx133:=(bx133.cn ch142).chg ch147 (kX rfl rfl)
      refine dE (cs':=[v146,vi (0+(min (bg v79:Int) ((List.length ((ax g (am us)).1):Int)+2000)))]) bl rfl rfl bx133 (co o148.sl) nq (bf o148.sl) rfl ?_
      intro w150 ch151 bx152
      clear bx133
      refine c6 (by kernel_rfl) (aq ?_)
      clear o143
      have C155:=cg [3,7,10,11,13,16] (ch18.n.seq ((ch22.l rfl).seq (ch27.n.seq ((ch32.l rfl).seq (ch47.n.seq (ch49.n.seq ((ch54.l rfl).seq (ch65.n.seq (ch67.n.seq ((ch72.l rfl).seq (ch82.n.seq (ch90.n.seq (hb95.n.seq (hb99.n.seq (hb102.n.seq (hb104.n.seq (hb108.n.seq (ch112.n.seq (ch122.n.seq (ch124.n.seq (hc129.n.seq ((ch132.l rfl).seq (ch134.n.seq (ch142.n.seq ((ch147.lx rfl rfl).seq (ch151.l rfl))))))))))))))))))))))))))
      have C153:=ch2.n.seq (hb7.n.seq (hb9.n.seq C155))
      have C158:=cg [11,13,16] (ch142.n.seq ((ch147.lx rfl rfl).seq (ch151.l rfl)))
      have C157:=hb99.n.seq (hb102.n.seq (hb104.n.seq (hb108.n.seq (ch112.n.seq (ch122.n.seq (ch124.n.seq (hc129.n.seq ((ch132.l rfl).seq (ch134.n.seq C158)))))))))
      have C156:=hb95.n.seq C157
      have C154:=ch90.n.seq C156
      refine mid_j2 (v146,[(ax g (am us)).1],0+(min (bg v79:Int) ((List.length ((ax g (am us)).1):Int)+2000)),g144) _ _ ⟨bH.ca C153,rfl,rfl,rfl,Rg.ca C154,Rus.ca C155,Rts.ca C153,bx5.ca C154,o43.ca C156,o45.ca C157,bx55.ca C157,o61.ca C156,o63.ca C157,bx73.ca C157,r149.chg ch151 (mX rfl rfl),bx152,o123.ca C158,o148.ce ch151,?_⟩
      show cO ([(ax g (am us)).1]) (0+(min (bg v79:Int) ((List.length ((ax g (am us)).1):Int)+2000)))
      exact cO.one (by omega) (by omega) (by omega)
     refine ag rfl (df p4_c1) (ak (aq ?_))
     have C161:=cg [3,7,10] (ch18.n.seq ((ch22.l rfl).seq (ch27.n.seq ((ch32.l rfl).seq (ch47.n.seq (ch49.n.seq ((ch54.l rfl).seq (ch65.n.seq (ch67.n.seq ((ch72.l rfl).seq (ch82.n.seq (ch90.n.seq (hb95.n.seq (hb99.n.seq (hb102.n.seq (hb104.n.seq (hb108.n.seq (ch112.n.seq (ch122.n.seq (ch124.n.seq hc129.n))))))))))))))))))))
     have C159:=ch2.n.seq (hb7.n.seq (hb9.n.seq C161))
     have C163:=cg [] (hb99.n.seq (hb102.n.seq (hb104.n.seq (hb108.n.seq (ch112.n.seq (ch122.n.seq (ch124.n.seq hc129.n)))))))
     have C162:=hb95.n.seq C163
     have C160:=ch90.n.seq C162
     replace o80:=o80.cn hc129
     refine mid_j2 (vn,[],0,g119) _ _ ⟨bH.ca C159,rfl,rfl,rfl,Rg.ca C160,Rus.ca C161,Rts.ca C159,bx5.ca C160,o43.ca C162,o45.ca C163,bx55.ca C163,o61.ca C162,o63.ca C163,bx73.ca C163,o80.slk,bx115,o123.cn hc129,cj.nil,?_⟩
     show cO ([]) 0
     exact cO.nil
    refine ah (wn (df q25_c1)) (ah (wn (df q25_c1)) (ah (wn (df q25_c1)) (ah (wn (df q25_c1)) (ah (wn (df q25_c1)) (ah (wn (df q25_c1)) (ah (wn (df q25_c1)) (lw (vb false) (aI rfl (df q25_c1) rfl) (a8 (ag rfl rfl ?_)))))))))
    refine ak (aq ?_)
    have C166:=cg [3,7,10] (ch18.n.seq ((ch22.l rfl).seq (ch27.n.seq ((ch32.l rfl).seq (ch47.n.seq (ch49.n.seq ((ch54.l rfl).seq (ch65.n.seq (ch67.n.seq ((ch72.l rfl).seq (ch82.n.seq (ch90.n.seq (hb95.n.seq (hb99.n.seq (hb102.n.seq (hb104.n.seq (hb108.n.seq (ch112.n.seq (ch122.n.seq (ch124.n.seq hc129.n))))))))))))))))))))
    have C164:=ch2.n.seq (hb7.n.seq (hb9.n.seq C166))
    have C169:=cg [] (ch122.n.seq (ch124.n.seq hc129.n))
    have C168:=hb99.n.seq (hb102.n.seq (hb104.n.seq (hb108.n.seq (ch112.n.seq C169))))
    have C167:=hb95.n.seq C168
    have C165:=ch90.n.seq C167
    replace o80:=o80.cn hc129
    refine mid_j2 (vn,[],0,g119) _ _ ⟨bH.ca C164,rfl,rfl,rfl,Rg.ca C165,Rus.ca C166,Rts.ca C164,bx5.ca C165,o43.ca C167,o45.ca C168,bx55.ca C168,o61.ca C167,o63.ca C168,bx73.ca C168,o80.slk,bx115.ca C169,o123.cn hc129,cj.nil,?_⟩
    show cO ([]) 0
    exact cO.nil
   clear Rg Rus Rts bx5 o43 o45 bx55 o61 o63 bx73 o80 bx115 o123 bH
   rintro⟨b_0_j2_v,b_0_j2,b_1_j2,g172⟩ f170 w171 ⟨bH,z173_0,z173_1,z173_4,Rg,Rus,Rts,bx5,o43,o45,bx55,o61,o63,bx73,o80,bx115,o123,o_b_0_j2,hj_j2⟩
   obtain⟨hja_j2,hjb_j2,hjc_j2⟩:=hj_j2.len
   refine a6 rfl (mz z173_4 (lx (aY (m:=0) (n:=1) rfl rfl (by omega)) (ai 1 (a8 (ck (a7 (a7 (a6 rfl (mi 1 (mz z173_1 (lx (aV cW rfl o123.flat) ?_)))))))))))
   refine lx (aW (m:=1) (n:=1) rfl rfl) (a8 (ag rfl rfl (aD rfl (cr (vs:=[]) Try.func19 .nil ?_))))
   refine⟨(b_0_j2_v,b_0_j2,b_1_j2,g172),rfl,bH,Rg,Rus,Rts,bx5,o43,o45,bx55,o61,o63,bx73,o80,bx115,o123,o_b_0_j2,?_⟩
   show cO b_0_j2 b_1_j2
   assumption
  clear Rg Rus Rts bx5 o43 o45 bx55 o61 o63 bx73 o80 bx115 o123 bH
  rintro⟨b_0_c1_v,b_0_c1,b_1_c1,g175⟩ w174 ⟨bH,Rg,Rus,Rts,bx5,o43,o45,bx55,o61,o63,bx73,o80,bx115,o123,o_b_0_c1,hj_c1⟩
  obtain⟨hja_c1,hjb_c1,hjc_c1⟩:=hj_c1.len
  refine a8 (a7 (a7 ?_))
  clear o80 o123
  refine a6 rfl (ai 0 (a8 (al ?_)))
  refine aP (σ:=Value×fK×Int×Nat×aA) (λ⟨b_0_v,b_0,b_1,k,gq⟩ f w=>aU w0 gq w/\f 3=ts_v/\f 4=vp b3 0/\f 11=vp b50 0/\f 13=vp b68 0/\f 21=vp b113 0/\f 22=vi ↑k/\Sl gq (is 0) w g_v g.2/\Sl gq (is 0) w us_v us/\Sl gq (is 0) w ts_v ts/\Bx gq (is 1) w b3 [vi g.1,g_v]/\Ow gq (is 5) (is 5) w v42 (((aj g (am us) s).1).1)/\Ow gq (is 6) (is 6) w v44 (((aj g (am us) s).1).2)/\Bx gq (is 7) w b50 [v42,v44]/\Ow gq (is 8) (is 8) w v60 (((aj g (am us) s).1).1)/\Ow gq (is 9) (is 9) w v62 (((aj g (am us) s).1).2)/\Bx gq (is 10) w b68 [v60,v62]/\Bx gq (is 13) w b113 [b_0_v,vi b_1]/\cj gq 16 w b_0_v b_0/\(k:Int)<=(12:Int)/\(cO b_0 b_1)) (λ⟨b_0_v,b_0,b_1,k,gq⟩=>ts.length-k) (b_0_c1_v,b_0_c1,b_1_c1,0,g175) ?_ ?_
  · exact⟨bH,rfl,rfl,rfl,rfl,rfl,rfl,Rg,Rus,Rts,bx5,o43,o45,bx55,o61,o63,bx73,bx115,o_b_0_c1,by omega,by assumption⟩
  clear Rg Rus Rts bx5 o43 o45 bx55 o61 o63 bx73 bx115 o_b_0_c1 bH
  rintro⟨b_0_v,b_0,b_1,k,g178⟩ f176 w177 ⟨bH,zs3,zs4,zs11,zs13,zs21,zs22,Rg,Rus,Rts,bx5,o43,o45,bx55,o61,o63,bx73,bx115,o_b_0,hle_k,hk⟩ back16
  obtain⟨hka,hkb,hkc⟩:=hk.len
  refine a7 (a7 (a6 rfl (mz zs22 (mz zs3 ?_))))
  have len179:=(Rts).small
  refine lx (aV bM rfl Rts) (lx (aW (m:=↑k) (n:=(ts.length:Int)) rfl rfl) (mv (vb (decide ((k:Int)<(ts.length:Int)))) ?_))
  by_cases q138:(k:Int)<(ts.length:Int)
  ·
   refine lv (vi ↑k) (wy (dt q138)) (ao zs22) (lv (vb (decide ((k:Int)<12))) (wy (dt q138)) (aW (m:=↑k) (n:=12) rfl rfl) (lw (vb (decide ((k:Int)<12))) (aB rfl (dt q138) rfl) (a8 ?_)))
   by_cases p16:(k:Int)<12
   ·
    refine af rfl (dt p16) ?_
    have htl:=qu (g:=g) (fs:=(aj g (am us) s).1) (t:=gI ts ↑k)
    refine ak (a7 (al (a7 (bB g178 [0,1,2,3,4,5,7,8,9,10,11] cw ?_))))
    intro w181 ch180
    replace bx55:=bx55.cn ch180
    refine xv 0 [1,2,3,4,5] rfl (aR (ds:=[v42,v44]) bk zs11 bx55 rfl rfl) ?_
    replace bx5:=bx5.cn ch180
    refine xv 1 [0,2,3,4,5] rfl (aR (ds:=[vi g.1,g_v]) bP zs4 bx5 rfl rfl) (xp (v:=ts_v) 2 rfl (λw=>ao zs3) (xp (v:=vi ↑k) 3 rfl (λw=>ao zs22) ?_))
    replace Rts:=Rts.cn ch180
    refine xv 4 [3,2,1,0] rfl (aa (v:=ts_v) (i:=↑k) bM rfl rfl Rts rfl (by omega) (by omega)) (xv 5 [4,3,2,1,0] rfl (az (v:=ts_v) (i:=↑k) ay rfl Rts (by omega) (by omega) (by decide) rfl) ?_)
    replace o43:=o43.cn ch180
    replace o45:=o45.cn ch180
    replace Rg:=Rg.cn ch180
    refine b7 6 rfl (by kernel_rfl) rfl (bq (aE (vals:=[vg [v42,v44],vg [vi g.1,g_v],vi (gI ts ↑k)]) Try.func20 lT kP rfl) (nD w181 ((aj g (am us) s).1) v42 v44 (o43.flat).ro (o45.flat).ro g g_v (Rg).ro (gI ts ↑k) (by exact lg)) ?_)
    rintro⟨d183,v185⟩ w182 ⟨fr184,o186⟩
    obtain⟨g187,ch188,G187⟩:=kf g178 fr184 (λn=>if n=1 then 17 else 0)
    replace o186:=o186.gl G187 17
    refine xp (v:=vt [v185,vi ((bF ((aj g (am us) s).1) g (gI ts ↑k)).2)]) 7 rfl (λw=>ao rfl) (xp 8 rfl (λw=>bm rfl rfl) (xp 9 rfl (λw=>bm rfl rfl) (xp (v:=v185) 10 rfl (λw=>bh rfl) (xp (v:=vi ((bF ((aj g (am us) s).1) g (gI ts ↑k)).2)) 11 rfl (λw=>bh rfl) (c6 (by kernel_rfl) (a7 (bB g187 [0,1,2,3,4,5,7,8,9,10,11] cw ?_)))))))
    intro w190 ch189
    have C191:=cg [] (ch180.n.seq (ch188.n.seq ch189.n))
    replace bx73:=bx73.ca C191
    refine xv 0 [1,2,3,4,5] rfl (aR (ds:=[v60,v62]) bk zs13 bx73 rfl rfl) ?_
    replace bx5:=(bx5.cn ch188).cn ch189
    refine xv 1 [0,2,3,4,5] rfl (aR (ds:=[vi g.1,g_v]) bP zs4 bx5 rfl rfl) (xp (v:=ts_v) 2 rfl (λw=>ao zs3) (xp (v:=vi ↑k) 3 rfl (λw=>ao zs22) ?_))
    replace Rts:=(Rts.cn ch188).cn ch189
    refine xv 4 [3,2,1,0] rfl (aa (v:=ts_v) (i:=↑k) bM rfl rfl Rts rfl (by omega) (by omega)) (xv 5 [4,3,2,1,0] rfl (az (v:=ts_v) (i:=↑k) ay rfl Rts (by omega) (by omega) (by decide) rfl) ?_)
    replace o61:=o61.ca C191
    replace o63:=o63.ca C191
    replace Rg:=(Rg.cn ch188).cn ch189
    refine b7 6 rfl (by kernel_rfl) rfl (bq (aE (vals:=[vg [v60,v62],vg [vi g.1,g_v],vi (gI ts ↑k)]) Try.func21 ox oU rfl) (pE w190 ((aj g (am us) s).1) v60 v62 (o61.flat).ro (o63.flat).ro g g_v (Rg).ro (gI ts ↑k) (by exact lg)) ?_)
    rintro⟨d193,v195⟩ w192 ⟨fr194,o196⟩
    obtain⟨g197,ch198,G197⟩:=kf g187 fr194 (λn=>if n=1 then 18 else 0)
    replace o196:=o196.gl G197 18
    refine xp (v:=vt [v195,vi ((bF ((aj g (am us) s).1) g (gI ts ↑k)).2)]) 7 rfl (λw=>ao rfl) (xp 8 rfl (λw=>bm rfl rfl) (xp 9 rfl (λw=>bm rfl rfl) (xp (v:=v195) 10 rfl (λw=>bh rfl) (xp (v:=vi ((bF ((aj g (am us) s).1) g (gI ts ↑k)).2)) 11 rfl (λw=>bh rfl) (c6 (by kernel_rfl) (a7 (a7 (a6 rfl (mi ((bF ((aj g (am us) s).1) g (gI ts ↑k)).2) (mi ((bF ((aj g (am us) s).1) g (gI ts ↑k)).2) (lx (ch (m:=(bF ((aj g (am us) s).1) g (gI ts ↑k)).2) (n:=(bF ((aj g (am us) s).1) g (gI ts ↑k)).2) rfl rfl) ?_)))))))))))
    refine mv (vb (!(decide (((bF ((aj g (am us) s).1) g (gI ts ↑k)).2)=((bF ((aj g (am us) s).1) g (gI ts ↑k)).2))))) ?_
    have q167:((bF ((aj g (am us) s).1) g (gI ts ↑k)).2)=((bF ((aj g (am us) s).1) g (gI ts ↑k)).2):=by rfl
    refine lv (v185) (wy (congrArg Bool.not (dt q167))) (ao rfl) (lv (v195) (wy (congrArg Bool.not (dt q167))) (ao rfl) ?_)
    replace o186:=(o186.cn ch189).cn ch198
    refine cu (wy (congrArg Bool.not (dt q167))) (aZ (v:=vb (decide (((bF ((aj g (am us) s).1) g (gI ts ↑k)).1)=((bF ((aj g (am us) s).1) g (gI ts ↑k)).1)))) (aE (vals:=[v185,v195]) Try.func17 fQ fC rfl) (eu w192 ((bF ((aj g (am us) s).1) g (gI ts ↑k)).1) v185 (o186.flat).ro ((bF ((aj g (am us) s).1) g (gI ts ↑k)).1) v195 (o196.flat).ro) ?_)
    intro w199 hb200
    replace hb200:=av hb200 g197
    refine lv (vb (!(decide (((bF ((aj g (am us) s).1) g (gI ts ↑k)).1)=((bF ((aj g (am us) s).1) g (gI ts ↑k)).1))))) (wy (congrArg Bool.not (dt q167))) (cv (b:=(decide (((bF ((aj g (am us) s).1) g (gI ts ↑k)).1)=((bF ((aj g (am us) s).1) g (gI ts ↑k)).1)))) rfl) (lw (vb (!(decide (((bF ((aj g (am us) s).1) g (gI ts ↑k)).1)=((bF ((aj g (am us) s).1) g (gI ts ↑k)).1))))) (aI rfl (congrArg Bool.not (dt q167)) rfl) (a8 ?_))
    have p20:(decide (((bF ((aj g (am us) s).1) g (gI ts ↑k)).1)=((bF ((aj g (am us) s).1) g (gI ts ↑k)).1)))=true:=by exact dt rfl
    refine ag rfl (congrArg Bool.not p20) (ak ?_)
    clear o196
    refine a6 rfl (mz zs21 (mv v185 (lo ?_)))
    replace o186:=o186.cn hb200
    obtain⟨c201,hv202⟩:=kY (u:=v185) (bf o186.flat)
    refine aN (α:=Vc) g197 (is 19) (is 19) (19,0) rfl [c201] cW aF (by decide) (by decide) (vs:=[(0,v185)]) rfl rfl (.cons (jg hv202 (co o186.flat)) .nil) ?_
    intro g203 w204 v205 ch206 o207
    refine lo ?_
    refine bq (σ:=Value×fK×Int×aA) (V:=λ⟨b_0_c2_v,b_0_c2,b_1_c2,gq⟩=>vt []) (S:=λ⟨b_0_c2_v,b_0_c2,b_1_c2,gq⟩ w=>aU w0 gq w/\Sl gq (is 0) w g_v g.2/\Sl gq (is 0) w us_v us/\Sl gq (is 0) w ts_v ts/\Bx gq (is 1) w b3 [vi g.1,g_v]/\Ow gq (is 5) (is 5) w v42 (((aj g (am us) s).1).1)/\Ow gq (is 6) (is 6) w v44 (((aj g (am us) s).1).2)/\Bx gq (is 7) w b50 [v42,v44]/\Ow gq (is 8) (is 8) w v60 (((aj g (am us) s).1).1)/\Ow gq (is 9) (is 9) w v62 (((aj g (am us) s).1).2)/\Bx gq (is 10) w b68 [v60,v62]/\Bx gq (is 13) w b113 [b_0_c2_v,vi b_1_c2]/\Sl gq (qV 17 16) w v185 ((bF ((aj g (am us) s).1) g (gI ts ↑k)).1)/\Ow gq (is 19) (is 19) w v205 ([c201])/\cj gq 16 w b_0_c2_v b_0_c2/\(cO b_0_c2 b_1_c2)) (aE (vals:=[vp b113 0,v205]) Try.func19 lp kU rfl) ?_ ?_
    ·
     refine ar Try.func19 rfl nq ?_
     have C208:=cg [] (ch180.n.seq (ch188.n.seq (ch189.n.seq (ch198.n.seq (hb200.n.seq ch206.n)))))
     replace o_b_0:=o_b_0.ca C208
     replace o186:=o186.cn ch206
     refine a7 (a6 rfl (ai 0 (a8 (al (cS (a7 (a7 (a6 rfl (mi 0 (mv v205 (lx (aV cW rfl o207.flat) (lx (aW (m:=0) (n:=1) rfl rfl) ?_))))))))))))
     refine a8 (af rfl rfl (ak (a7 (al (a7 ?_)))))
     refine kK [false,true,false,false,false] (σ:=Value×fK×Int×aA) (λ⟨b_0_j4_v,b_0_j4,b_1_j4,gq⟩ f w=>aU w0 gq w/\f 0=vp b113 0/\f 1=v205/\f 4=vi 0/\Sl gq (is 0) w g_v g.2/\Sl gq (is 0) w us_v us/\Sl gq (is 0) w ts_v ts/\Bx gq (is 1) w b3 [vi g.1,g_v]/\Ow gq (is 5) (is 5) w v42 (((aj g (am us) s).1).1)/\Ow gq (is 6) (is 6) w v44 (((aj g (am us) s).1).2)/\Bx gq (is 7) w b50 [v42,v44]/\Ow gq (is 8) (is 8) w v60 (((aj g (am us) s).1).1)/\Ow gq (is 9) (is 9) w v62 (((aj g (am us) s).1).2)/\Bx gq (is 10) w b68 [v60,v62]/\Bx gq (is 13) w b113 [b_0_j4_v,vi b_1_j4]/\Sl gq (qV 17 16) w v185 ((bF ((aj g (am us) s).1) g (gI ts ↑k)).1)/\Ow gq (is 19) (is 19) w v205 ([c201])/\cj gq 16 w b_0_j4_v b_0_j4/\(cO b_0_j4 b_1_j4)) ?_ ?_
     ·
      intro mid_j4
      refine bL g203 rfl cw (by kernel_rfl) ?_
      intro w210 ch209
      refine qm v205 (qm (vi 0) ?_)
      replace o186:=o186.cn ch209
      replace o207:=o207.cn ch209
      refine qx (λw' hw'=>aa (v:=v205) (i:=0) cW rfl rfl ((iB o207 (VcR.consv hv202 (o186.flat).ro VcR.nil)).bel hw') rfl (by omega) (by(simp only[List.length_set,List.length_append,List.length_cons,List.length_nil,List.length_replicate,List.length_map,List.length_take,List.length_drop];omega))) (qx (λw' hw'=>bb aF rfl (gm hv202 (o207.bel hw') rfl)) ?_)
      have len211:=(o186.flat).small
      refine qx (λw' hw'=>aV bM rfl (o186.flat.bel hw')) (qm v205 (qm (vi 0) (qx (λw' hw'=>aa (v:=v205) (i:=0) cW rfl rfl ((iB o207 (VcR.consv hv202 (o186.flat).ro VcR.nil)).bel hw') rfl (by omega) (by(simp only[List.length_set,List.length_append,List.length_cons,List.length_nil,List.length_replicate,List.length_map,List.length_take,List.length_drop];omega))) (qx (λw' hw'=>bb aF rfl (gm hv202 (o207.bel hw') rfl)) ?_))))
      have cap212:=Sl.cap o186.flat
      refine qv (vi (bg v185:Int)) (λw' hw'=>lm bM rfl (o186.flat.bel hw')) (dJ (v:=vi (min (bg v185:Int) ((List.length ((bF ((aj g (am us) s).1) g (gI ts ↑k)).1):Int)+2000))) rfl (λw' hw'=>aE (vals:=[vi (List.length ((bF ((aj g (am us) s).1) g (gI ts ↑k)).1):Int),vi (bg v185:Int)]) Try.func53 gM gP rfl) (λw' hw'=>(gN w' (List.length ((bF ((aj g (am us) s).1) g (gI ts ↑k)).1):Int) (bg v185:Int) (by omega)).mono λe w2 h2=>⟨h2.1,hw'.trans (h2.2.mono hw'.size)⟩) (qv (vi (min (bg v185:Int) ((List.length ((bF ((aj g (am us) s).1) g (gI ts ↑k)).1):Int)+2000))) (λw' hw'=>bh rfl) (cm ?_)))
      intro w213 hc214
      replace hc214:=av hc214 g203
      refine a7 (a6 rfl (mi (min (bg v185:Int) ((List.length ((bF ((aj g (am us) s).1) g (gI ts ↑k)).1):Int)+2000)) (lx (dW (m:=min (bg v185:Int) ((List.length ((bF ((aj g (am us) s).1) g (gI ts ↑k)).1):Int)+2000)) (n:=0) rfl rfl) (mv (vb (decide (0<(min (bg v185:Int) ((List.length ((bF ((aj g (am us) s).1) g (gI ts ↑k)).1):Int)+2000))))) ?_))))
      by_cases q25_c2:0<(min (bg v185:Int) ((List.length ((bF ((aj g (am us) s).1) g (gI ts ↑k)).1):Int)+2000))
      ·
       refine lv (vp b113 0) (wy (dt q25_c2)) (ao rfl) (lv (vp b113 0) (wy (dt q25_c2)) (aG rfl) (lv (vp b113 1) (wy (dt q25_c2)) (ad fc rfl rfl rfl rfl) ?_))
       have C215:=cg [] (ch180.n.seq (ch188.n.seq (ch189.n.seq (ch198.n.seq (hb200.n.seq (ch206.n.seq (ch209.n.seq hc214.n)))))))
       replace bx115:=bx115.ca C215
       refine lv (vi b_1) (wy (dt q25_c2)) (ae ay rfl bx115 rfl) (lv (vi (min (bg v185:Int) ((List.length ((bF ((aj g (am us) s).1) g (gI ts ↑k)).1):Int)+2000))) (wy (dt q25_c2)) (ao rfl) (lv (vi (b_1+(min (bg v185:Int) ((List.length ((bF ((aj g (am us) s).1) g (gI ts ↑k)).1):Int)+2000)))) (wy (dt q25_c2)) (aY (m:=b_1) (n:=min (bg v185:Int) ((List.length ((bF ((aj g (am us) s).1) g (gI ts ↑k)).1):Int)+2000)) rfl rfl (by omega)) ?_))
       refine lv (vb (decide ((b_1+(min (bg v185:Int) ((List.length ((bF ((aj g (am us) s).1) g (gI ts ↑k)).1):Int)+2000)))<=1048576))) (wy (dt q25_c2)) (iQ (m:=b_1+(min (bg v185:Int) ((List.length ((bF ((aj g (am us) s).1) g (gI ts ↑k)).1):Int)+2000))) (n:=1048576) rfl rfl) (lw (vb (decide ((b_1+(min (bg v185:Int) ((List.length ((bF ((aj g (am us) s).1) g (gI ts ↑k)).1):Int)+2000)))<=1048576))) (aB rfl (dt q25_c2) rfl) (a8 ?_))
       by_cases p4_c2:(b_1+(min (bg v185:Int) ((List.length ((bF ((aj g (am us) s).1) g (gI ts ↑k)).1):Int)+2000)))<=1048576
       ·
        refine af rfl (dt p4_c2) (a7 (a6 rfl (mv (vp b113 0) (mv (vp b113 0) (lw (vp b113 0) (aG rfl) (lx (ad fc rfl rfl rfl rfl) (lx (ae ay rfl bx115 rfl) (mi (min (bg v185:Int) ((List.length ((bF ((aj g (am us) s).1) g (gI ts ↑k)).1):Int)+2000)) (lx (aY (m:=b_1) (n:=min (bg v185:Int) ((List.length ((bF ((aj g (am us) s).1) g (gI ts ↑k)).1):Int)+2000)) rfl rfl (by omega)) (lw (vp b113 0) (aG rfl) ?_))))))))))
        refine lx (ad fc rfl rfl rfl rfl) (lo (aQ (cs':=[b_0_v,vi (b_1+(min (bg v185:Int) ((List.length ((bF ((aj g (am us) s).1) g (gI ts ↑k)).1):Int)+2000)))]) ay rfl rfl bx115 rfl nq (AllOne.all (.cons rfl .nil)) rfl ?_))
        intro w216 ch217 bx218
        clear bx115
        refine a8 (bB g203 [0,1,2,3,4,5,6,7,8,11,12] cw ?_)
        intro w220 ch219
        refine xp (v:=vp b113 0) 0 rfl (λw=>ao rfl) (xp (v:=vp b113 0) 1 rfl (λw=>ao rfl) (xp (v:=vp b113 0) 2 rfl (λw=>aG rfl) (xp 3 rfl (λw=>ad fc rfl rfl rfl rfl) ?_)))
        replace bx218:=bx218.cn ch219
        refine xh 4 [3,2,1,0,5,6,7,8,9] rfl (λw' hw'=>ae bl rfl (bx218.bel hw') rfl) (xp (v:=v205) 5 rfl (λw=>ao rfl) (xp (v:=vi 0) 6 rfl (λw=>ao rfl) ?_))
        have C221:=cg [13] (hc214.n.seq ((ch217.l rfl).seq ch219.n))
        replace o186:=o186.ca C221
        replace o207:=o207.ca C221
        refine xv 7 [6,5,4,3,2,1,0] rfl (aa (v:=v205) (i:=0) cW rfl rfl (iB o207 (VcR.consv hv202 (o186.flat).ro VcR.nil)) rfl (by omega) (by(simp only[List.length_set,List.length_append,List.length_cons,List.length_nil,List.length_replicate,List.length_map,List.length_take,List.length_drop];omega))) (xv 8 [7,6,5,4,3,2,1,0] rfl (bb aF rfl (gm hv202 o207 rfl)) (b7 9 rfl (by kernel_rfl) rfl ?_))
        obtain⟨c222,hv223⟩:=kY (u:=v185) (bf o186.flat)
        refine aN (α:=Vc) g203 (is 20) (is 20) (20,0) rfl [c222] cW aF (by decide) (by decide) (vs:=[(0,v185)]) rfl rfl (.cons (jg hv223 (co o186.flat)) .nil) ?_
        intro g224 w225 v226 ch227 o228
        refine b7 10 rfl (by kernel_rfl) rfl ?_
        have C229:=cg [13] (ch209.n.seq (hc214.n.seq ((ch217.l rfl).seq (ch219.n.seq ch227.n))))
        replace o_b_0:=o_b_0.ca C229
        replace o186:=o186.cn ch227
        refine fP hv223 (α:=Int) (xss:=b_0) (i:=16) (γ:=g224) cW aF rfl rfl rfl o_b_0 (o228.flat) o186 rfl (by decide) (by omega) ?_
        intro g230 w231 v232 ch233 o234 r235
        clear o_b_0 o186
        refine xp (v:=vp b113 0) 11 rfl (λw=>aG rfl) (xp 12 rfl (λw=>ad fc rfl rfl rfl rfl) (b7 13 rfl (by kernel_rfl) rfl ?_))
        replace bx218:=(bx218.cn ch227).chg ch233 (kX rfl rfl)
        refine dE (cs':=[v232,vi (b_1+(min (bg v185:Int) ((List.length ((bF ((aj g (am us) s).1) g (gI ts ↑k)).1):Int)+2000)))]) bl rfl rfl bx218 (co o234.sl) nq (bf o234.sl) rfl ?_
        intro w236 ch237 bx238
        clear bx218
        refine c6 (by kernel_rfl) (aq ?_)
        clear o228
        have C242:=cg [13,16,17] (ch227.n.seq ((ch233.lx rfl rfl).seq (ch237.l rfl)))
        have C240:=ch198.n.seq (hb200.n.seq (ch206.n.seq (ch209.n.seq (hc214.n.seq ((ch217.l rfl).seq (ch219.n.seq C242))))))
        have C241:=ch188.n.seq (ch189.n.seq C240)
        have C239:=ch180.n.seq C241
        refine mid_j4 (v232,(b_0++[(bF ((aj g (am us) s).1) g (gI ts ↑k)).1]),b_1+(min (bg v185:Int) ((List.length ((bF ((aj g (am us) s).1) g (gI ts ↑k)).1):Int)+2000)),g230) _ _ ⟨bH.ca C239,rfl,rfl,rfl,Rg.ca C240,Rus.ca C239,Rts.ca C240,bx5.ca C240,o43.ca C241,o45.ca C241,bx55.ca C241,o61.ca C240,o63.ca C240,bx73.ca C240,bx238,r235.chg ch237 (mX rfl rfl),o207.ca C242,o234.ce ch237,?_⟩
        show cO (b_0++[(bF ((aj g (am us) s).1) g (gI ts ↑k)).1]) (b_1+(min (bg v185:Int) ((List.length ((bF ((aj g (am us) s).1) g (gI ts ↑k)).1):Int)+2000)))
        exact(cO.add ‹_› (by omega) (by omega) (by omega))
       refine ag rfl (df p4_c2) (ak (aq ?_))
       have C243:=cg [] (ch198.n.seq (hb200.n.seq (ch206.n.seq (ch209.n.seq hc214.n))))
       have C244:=ch188.n.seq (ch189.n.seq C243)
       replace o186:=o186.cn hc214
       refine mid_j4 (b_0_v,b_0,b_1,g203) _ _ ⟨bH.ca C215,rfl,rfl,rfl,Rg.ca C243,Rus.ca C215,Rts.ca C243,bx5.ca C243,o43.ca C244,o45.ca C244,bx55.ca C244,o61.ca C243,o63.ca C243,bx73.ca C243,bx115,o186.slk,o207.cn hc214,(o_b_0.cn ch209).cn hc214,?_⟩
       show cO b_0 b_1
       assumption
      refine ah (wn (df q25_c2)) (ah (wn (df q25_c2)) (ah (wn (df q25_c2)) (ah (wn (df q25_c2)) (ah (wn (df q25_c2)) (ah (wn (df q25_c2)) (ah (wn (df q25_c2)) (lw (vb false) (aI rfl (df q25_c2) rfl) (a8 (ag rfl rfl ?_)))))))))
      refine ak (aq ?_)
      have C246:=cg [] (ch198.n.seq (hb200.n.seq (ch206.n.seq (ch209.n.seq hc214.n))))
      have C247:=ch188.n.seq (ch189.n.seq C246)
      have C245:=ch180.n.seq C247
      replace o186:=o186.cn hc214
      refine mid_j4 (b_0_v,b_0,b_1,g203) _ _ ⟨bH.ca C245,rfl,rfl,rfl,Rg.ca C246,Rus.ca C245,Rts.ca C246,bx5.ca C246,o43.ca C247,o45.ca C247,bx55.ca C247,o61.ca C246,o63.ca C246,bx73.ca C246,bx115.ca C245,o186.slk,o207.cn hc214,(o_b_0.cn ch209).cn hc214,?_⟩
      show cO b_0 b_1
      assumption
     clear Rg Rus Rts bx5 o43 o45 bx55 o61 o63 bx73 bx115 o_b_0 o186 o207 bH
     rintro⟨b_0_j4_v,b_0_j4,b_1_j4,g250⟩ f248 w249 ⟨bH,z251_0,z251_1,z251_4,Rg,Rus,Rts,bx5,o43,o45,bx55,o61,o63,bx73,bx115,o186,o207,o_b_0_j4,hj_j4⟩
     obtain⟨hja_j4,hjb_j4,hjc_j4⟩:=hj_j4.len
     refine a6 rfl (mz z251_4 (lx (aY (m:=0) (n:=1) rfl rfl (by omega)) (ai 1 (a8 (ck (a7 (a7 (a6 rfl (mi 1 (mz z251_1 (lx (aV cW rfl o207.flat) ?_)))))))))))
     refine lx (aW (m:=1) (n:=1) rfl rfl) (a8 (ag rfl rfl (aD rfl (cr (vs:=[]) Try.func19 .nil ?_))))
     refine⟨(b_0_j4_v,b_0_j4,b_1_j4,g250),rfl,bH,Rg,Rus,Rts,bx5,o43,o45,bx55,o61,o63,bx73,bx115,o186,o207,o_b_0_j4,?_⟩
     show cO b_0_j4 b_1_j4
     assumption
    clear Rg Rus Rts bx5 o43 o45 bx55 o61 o63 bx73 bx115 o_b_0 o186 o207 bH
    rintro⟨b_0_c2_v,b_0_c2,b_1_c2,g253⟩ w252 ⟨bH,Rg,Rus,Rts,bx5,o43,o45,bx55,o61,o63,bx73,bx115,o186,o207,o_b_0_c2,hj_c2⟩
    obtain⟨hja_c2,hjb_c2,hjc_c2⟩:=hj_c2.len
    refine a8 (aq ?_)
    clear o186 o207
    refine a6 rfl (mz zs22 (lx (aY (m:=↑k) (n:=1) rfl rfl (by omega)) (ai ((k:Int)+1) (a8 ?_))))
    refine back16 (b_0_c2_v,b_0_c2,b_1_c2,k+1,g253) _ _ ⟨bH,zs3,zs4,zs11,zs13,zs21,rfl,Rg,Rus,Rts,bx5,o43,o45,bx55,o61,o63,bx73,bx115,o_b_0_c2,by omega,?_⟩ ?_
    · show cO b_0_c2 b_1_c2
      assumption
    · show ts.length-(k+1)<ts.length-k
      omega
   refine ag rfl (df p16) (aD rfl (a7 ?_))
   clear bx5
   refine a6 rfl (mz zs21 (lo (bW (aE (vals:=[vp b113 0]) Try.func22 kZ lj rfl) (ar Try.func22 rfl nq (a7 (a6 rfl (ma (vb false) (a8 (a7 (a7 (a6 rfl (ai 0 (a8 ?_)))))))))))))
   refine al ?_
   refine aP (σ:=Nat×fK×aA) (λ⟨i_c3,L_c3,gq⟩ f w=>aU w0 gq w/\f 0=vp b113 0/\f 3=vi ↑i_c3/\Sl gq (is 0) w g_v g.2/\Sl gq (is 0) w us_v us/\Sl gq (is 0) w ts_v ts/\Ow gq (is 5) (is 5) w v42 (((aj g (am us) s).1).1)/\Ow gq (is 6) (is 6) w v44 (((aj g (am us) s).1).2)/\Bx gq (is 7) w b50 [v42,v44]/\Ow gq (is 8) (is 8) w v60 (((aj g (am us) s).1).1)/\Ow gq (is 9) (is 9) w v62 (((aj g (am us) s).1).2)/\Bx gq (is 10) w b68 [v60,v62]/\Bx gq (is 13) w b113 [b_0_v,vi b_1]/\cj gq 16 w b_0_v L_c3/\(fp L_c3 i_c3)) (λ⟨i_c3,L_c3,gq⟩=>List.length L_c3-i_c3) (0,b_0,g178) ?_ ?_
   · exact⟨bH,rfl,rfl,Rg,Rus,Rts,o43,o45,bx55,o61,o63,bx73,bx115,o_b_0,by exact cO.ap ‹_›⟩
   clear Rg Rus Rts o43 o45 bx55 o61 o63 bx73 bx115 o_b_0 bH
   rintro⟨i_c3,L_c3,g256⟩ f254 w255 ⟨bH,zs0_c3,zs3_c3,Rg,Rus,Rts,o43,o45,bx55,o61,o63,bx73,bx115,o_b_0,ha_c3⟩ back2_c3
   have hale_c3:=ha_c3.le
   have hafew_c3:=ha_c3.few
   refine a7 (a7 (a6 rfl (mz zs3_c3 (mz zs0_c3 (lw (vp b113 0) (aG rfl) (lx (ad fc rfl rfl rfl rfl) (lx (ae bl rfl bx115 rfl) ?_)))))))
   have len257:=(o_b_0.sl).small
   refine lx (aV cW rfl o_b_0.sl) (lx (aW (m:=↑i_c3) (n:=(L_c3.length:Int)) rfl rfl) (a8 ?_))
   by_cases p2_c3:(i_c3:Int)<(L_c3.length:Int)
   ·
    refine af rfl (dt p2_c3) ?_
    have hares_c3:=ha_c3.rest i_c3 (Nat.le_refl _) (by omega)
    refine ak (a7 (al (a7 (a7 (bL g256 rfl cw (by kernel_rfl) ?_)))))
    intro w259 ch258
    refine qz zs0_c3 (qv (vp b113 0) (λw' hw'=>aG rfl) (qx (λw' hw'=>ad fc rfl rfl rfl rfl) ?_))
    replace bx115:=bx115.cn ch258
    refine qx (λw' hw'=>ae bl rfl (bx115.bel hw') rfl) (qz zs3_c3 ?_)
    replace o_b_0:=o_b_0.cn ch258
    refine qx (λw' hw'=>aa (v:=b_0_v) (i:=↑i_c3) cW rfl rfl (o_b_0.sl.bel hw') rfl (by omega) (by omega)) ?_
    obtain⟨v260,cel261,r262⟩:=bw (r:=(i_c3:Int)) o_b_0 (by omega) (by omega)
    refine qx (λw' hw'=>bb aF rfl (eV cel261 hw')) ?_
    have len263:=(r262.row_sl).small
    refine qx (λw' hw'=>aV bM rfl (r262.row_sl.bel hw')) (qz zs0_c3 (qv (vp b113 0) (λw' hw'=>aG rfl) (qx (λw' hw'=>ad fc rfl rfl rfl rfl) (qx (λw' hw'=>ae bl rfl (bx115.bel hw') rfl) (qz zs3_c3 (qx (λw' hw'=>aa (v:=b_0_v) (i:=↑i_c3) cW rfl rfl (o_b_0.sl.bel hw') rfl (by omega) (by omega)) ?_))))))
    obtain⟨v264,cel265,r266⟩:=bw (r:=(i_c3:Int)) o_b_0 (by omega) (by omega)
    refine qx (λw' hw'=>bb aF rfl (eV cel265 hw')) ?_
    have cap267:=Sl.cap r266.row_sl
    refine qv (vi (bg v264:Int)) (λw' hw'=>lm bM rfl (r266.row_sl.bel hw')) (dJ (v:=vi (min (bg v264:Int) ((List.length (gI L_c3 ↑i_c3):Int)+2000))) rfl (λw' hw'=>aE (vals:=[vi (List.length (gI L_c3 ↑i_c3):Int),vi (bg v264:Int)]) Try.func53 gM gP rfl) (λw' hw'=>(gN w' (List.length (gI L_c3 ↑i_c3):Int) (bg v264:Int) (by omega)).mono λe w2 h2=>⟨h2.1,hw'.trans (h2.2.mono hw'.size)⟩) (qv (vi (min (bg v264:Int) ((List.length (gI L_c3 ↑i_c3):Int)+2000))) (λw' hw'=>bh rfl) (cm ?_)))
    intro w268 hc269
    replace hc269:=av hc269 g256
    refine al ?_
    clear cel261 r262 cel265 r266
    refine aP (σ:=fK×aA) (λ⟨L1_c3,gq⟩ f w=>aU w0 gq w/\f 0=vp b113 0/\f 3=vi ↑i_c3/\f 4=vi (min (bg v264:Int) ((List.length (gI L_c3 ↑i_c3):Int)+2000))/\Sl gq (is 0) w g_v g.2/\Sl gq (is 0) w us_v us/\Sl gq (is 0) w ts_v ts/\Ow gq (is 5) (is 5) w v42 (((aj g (am us) s).1).1)/\Ow gq (is 6) (is 6) w v44 (((aj g (am us) s).1).2)/\Bx gq (is 7) w b50 [v42,v44]/\Ow gq (is 8) (is 8) w v60 (((aj g (am us) s).1).1)/\Ow gq (is 9) (is 9) w v62 (((aj g (am us) s).1).2)/\Bx gq (is 10) w b68 [v60,v62]/\Bx gq (is 13) w b113 [b_0_v,vi b_1]/\cj gq 16 w b_0_v L1_c3/\(dj L1_c3 L_c3 i_c3 (min (bg v264:Int) ((List.length (gI L_c3 ↑i_c3):Int)+2000)))) (λ⟨L1_c3,gq⟩=>Int.toNat ((min (bg v264:Int) ((List.length (gI L_c3 ↑i_c3):Int)+2000))-(List.length (gI L1_c3 ↑i_c3):Int))) (L_c3,g256) ?_ ?_
    replace bH:=bH.cn ch258
    · exact⟨bH.cn hc269,zs0_c3,zs3_c3,rfl,(Rg.cn ch258).cn hc269,(Rus.cn ch258).cn hc269,(Rts.cn ch258).cn hc269,(o43.cn ch258).cn hc269,(o45.cn ch258).cn hc269,(bx55.cn ch258).cn hc269,(o61.cn ch258).cn hc269,(o63.cn ch258).cn hc269,(bx73.cn ch258).cn hc269,bx115.cn hc269,o_b_0.cn hc269,by exact dj.start ha_c3 ‹_›⟩
    clear Rg Rus Rts o43 o45 bx55 o61 o63 bx73 bx115 o_b_0 bH
    rintro⟨L1_c3,g272⟩ f270 w271 ⟨bH,zs0_c3,zs3_c3,zs4_c3,Rg,Rus,Rts,o43,o45,bx55,o61,o63,bx73,bx115,o_b_0,hg_c3⟩ back5_c3
    have hgl_c3:=hg_c3.len
    have hgle_c3:=hg_c3.le
    refine a7 (a7 (a6 rfl (mz zs0_c3 (lw (vp b113 0) (aG rfl) (lx (ad fc rfl rfl rfl rfl) (lx (ae bl rfl bx115 rfl) (mz zs3_c3 (lx (aa (v:=b_0_v) (i:=↑i_c3) cW rfl rfl o_b_0.sl rfl (by omega) (by omega)) ?_))))))))
    obtain⟨v273,cel274,r275⟩:=bw (r:=(i_c3:Int)) o_b_0 (by omega) (by omega)
    refine lx (bb aF rfl cel274) ?_
    have len276:=(r275.row_sl).small
    refine lx (aV bM rfl r275.row_sl) (mz zs4_c3 (lx (aW (m:=(List.length (gI L1_c3 ↑i_c3):Int)) (n:=min (bg v264:Int) ((List.length (gI L_c3 ↑i_c3):Int)+2000)) rfl rfl) (a8 ?_)))
    by_cases p5_c3:(List.length (gI L1_c3 ↑i_c3):Int)<(min (bg v264:Int) ((List.length (gI L_c3 ↑i_c3):Int)+2000))
    ·
     refine af rfl (dt p5_c3) (ak (al ?_))
     clear cel274 r275
     refine ec (σ:=aA) (λgq f w=>aU w0 gq w/\f 0=vp b113 0/\f 3=vi ↑i_c3/\f 4=vi (min (bg v264:Int) ((List.length (gI L_c3 ↑i_c3):Int)+2000))/\Sl gq (is 0) w g_v g.2/\Sl gq (is 0) w us_v us/\Sl gq (is 0) w ts_v ts/\Ow gq (is 5) (is 5) w v42 (((aj g (am us) s).1).1)/\Ow gq (is 6) (is 6) w v44 (((aj g (am us) s).1).2)/\Bx gq (is 7) w b50 [v42,v44]/\Ow gq (is 8) (is 8) w v60 (((aj g (am us) s).1).1)/\Ow gq (is 9) (is 9) w v62 (((aj g (am us) s).1).2)/\Bx gq (is 10) w b68 [v60,v62]/\Bx gq (is 13) w b113 [b_0_v,vi b_1]/\cj gq 16 w b_0_v (List.set L1_c3 (Int.toNat ↑i_c3) (gI L1_c3 ↑i_c3++([0]:List Int)))) g272 [0,1,2,4,5,6,7,8,9,10,11,14] cw ?_ ?_
     ·
      intro mid
      intro w278 ch277
      refine xp (v:=vp b113 0) 0 rfl (λw=>ao zs0_c3) (xp (v:=vp b113 0) 1 rfl (λw=>aG rfl) (xp 2 rfl (λw=>ad fc rfl rfl rfl rfl) (xp (v:=vi ↑i_c3) 4 rfl (λw=>ao zs3_c3) (xp (v:=vp b113 0) 5 rfl (λw=>ao zs0_c3) (xp (v:=vp b113 0) 6 rfl (λw=>aG rfl) (xp 7 rfl (λw=>ad fc rfl rfl rfl rfl) ?_))))))
      replace bx115:=bx115.cn ch277
      refine xh 8 [7,6,5,4,2,1,0,3,9,12] rfl (λw' hw'=>ae bl rfl (bx115.bel hw') rfl) (xp (v:=vi ↑i_c3) 9 rfl (λw=>ao zs3_c3) ?_)
      replace o_b_0:=o_b_0.cn ch277
      refine xh 10 [9,8,7,6,5,4,2,1,0,3,12] rfl (λw' hw'=>aa (v:=b_0_v) (i:=↑i_c3) cW rfl rfl (o_b_0.sl.bel hw') rfl (by omega) (by omega)) ?_
      obtain⟨v279,cel280,r281⟩:=bw (r:=(i_c3:Int)) o_b_0 (by omega) (by omega)
      refine xh 11 [10,9,8,7,6,5,4,2,1,0,3,12] rfl (λw' hw'=>bb aF rfl (eV cel280 hw')) ?_
      refine fg 3 12 rfl rfl (by kernel_rfl) rfl rfl ?_ ?_
      ·
       refine aX (v:=b_0_v) (ae bl rfl bx115 rfl) (b7 12 rfl (by kernel_rfl) rfl (aN (α:=Int) g272 (is 21) (is 21) (21,0) rfl ([0]:List Int) bM ay (by decide) (by decide) (vs:=[(0,vi 0)]) rfl rfl (.cons rfl .nil) ?_))
       intro g282 w283 v284 ch285 o286
       refine b7 13 rfl (by kernel_rfl) rfl ?_
       replace o_b_0:=o_b_0.cn ch285
       replace r281:=r281.cn ch285
       refine bs (α:=Int) (xs:=(gI L1_c3 ↑i_c3)) (ys:=([0]:List Int)) g282 (J:=row 16 (Int.toNat ↑i_c3+1)) (S:=row 16 (Int.toNat ↑i_c3+1)) (16,Int.toNat ↑i_c3+1) rfl bM ay (by decide) rfl rfl rfl r281 o286.flat (by decide) (by(simp;omega)) ?_
       intro g287 w288 v289 ch290 o291
       have o292:=o_b_0.rowchg ch290
       clear o_b_0 cel280 r281
       obtain⟨us293,hl294,r295⟩:=o292.vc
       try simp only[List.length_set,List.length_append,List.length_cons,List.length_nil] at hl294
       refine xv 14 [13,12,3,11,10,9,8,7,6,5,4,2,1,0] rfl (aa (v:=b_0_v) (i:=↑i_c3) cW rfl rfl r295 rfl (by omega) (by omega)) (b7 15 rfl (by kernel_rfl) rfl (bE (r:=(i_c3:Int)) aF rfl rfl o292 o291 (by omega) (by omega) ?_))
       intro w299 ch300 o301
       clear o292 o291
       refine c6 (by kernel_rfl) ?_
       have C303:=cg [16] (ch285.n.seq ((ch290.lr rfl).seq (ch300.l rfl)))
       have C302:=ch277.n.seq C303
       exact mid (g287) _ _ ⟨bH.ca C302,zs0_c3,zs3_c3,zs4_c3,Rg.ca C302,Rus.ca C302,Rts.ca C302,o43.ca C302,o45.ca C302,bx55.ca C302,o61.ca C302,o63.ca C302,bx73.ca C302,bx115.ca C303,o301⟩
      ·
       refine aN (α:=Int) g272 (is 21) (is 21) (21,0) rfl ([0]:List Int) bM ay (by decide) (by decide) (vs:=[(0,vi 0)]) rfl rfl (.cons rfl .nil) ?_
       intro g304 w305 v306 ch307 o308
       refine fg 3 13 rfl rfl (by kernel_rfl) rfl rfl ?_ ?_
       ·
        replace bx115:=bx115.cn ch307
        refine aX (v:=b_0_v) (ae bl rfl bx115 rfl) (b7 13 rfl (by kernel_rfl) rfl ?_)
        replace o_b_0:=o_b_0.cn ch307
        replace r281:=r281.cn ch307
        refine bs (α:=Int) (xs:=(gI L1_c3 ↑i_c3)) (ys:=([0]:List Int)) g304 (J:=row 16 (Int.toNat ↑i_c3+1)) (S:=row 16 (Int.toNat ↑i_c3+1)) (16,Int.toNat ↑i_c3+1) rfl bM ay (by decide) rfl rfl rfl r281 o308.flat (by decide) (by(simp;omega)) ?_
        intro g309 w310 v311 ch312 o313
        have o314:=o_b_0.rowchg ch312
        clear o_b_0 cel280 r281
        obtain⟨us315,hl316,r317⟩:=o314.vc
        try simp only[List.length_set,List.length_append,List.length_cons,List.length_nil] at hl316
        refine xv 14 [13,3,12,11,10,9,8,7,6,5,4,2,1,0] rfl (aa (v:=b_0_v) (i:=↑i_c3) cW rfl rfl r317 rfl (by omega) (by omega)) (b7 15 rfl (by kernel_rfl) rfl (bE (r:=(i_c3:Int)) aF rfl rfl o314 o313 (by omega) (by omega) ?_))
        intro w321 ch322 o323
        clear o314 o313
        refine c6 (by kernel_rfl) ?_
        have C324:=cg [16] (ch277.n.seq (ch307.n.seq ((ch312.lr rfl).seq (ch322.l rfl))))
        exact mid (g309) _ _ ⟨bH.ca C324,zs0_c3,zs3_c3,zs4_c3,Rg.ca C324,Rus.ca C324,Rts.ca C324,o43.ca C324,o45.ca C324,bx55.ca C324,o61.ca C324,o63.ca C324,bx73.ca C324,(bx115.chg ch312 (bn rfl)).ce ch322,o323⟩
       ·
        replace o_b_0:=o_b_0.cn ch307
        replace r281:=r281.cn ch307
        refine bs (α:=Int) (xs:=(gI L1_c3 ↑i_c3)) (ys:=([0]:List Int)) g304 (J:=row 16 (Int.toNat ↑i_c3+1)) (S:=row 16 (Int.toNat ↑i_c3+1)) (16,Int.toNat ↑i_c3+1) rfl bM ay (by decide) rfl rfl rfl r281 o308.flat (by decide) (by(simp;omega)) ?_
        intro g325 w326 v327 ch328 o329
        have o330:=o_b_0.rowchg ch328
        clear o_b_0 cel280 r281
        replace bx115:=(bx115.cn ch307).chg ch328 (bn rfl)
        refine b7 3 rfl (by kernel_rfl) rfl (aX (v:=b_0_v) (ae bl rfl bx115 rfl) ?_)
        obtain⟨us331,hl332,r333⟩:=o330.vc
        try simp only[List.length_set,List.length_append,List.length_cons,List.length_nil] at hl332
        refine xv 14 [3,13,12,11,10,9,8,7,6,5,4,2,1,0] rfl (aa (v:=b_0_v) (i:=↑i_c3) cW rfl rfl r333 rfl (by omega) (by omega)) (b7 15 rfl (by kernel_rfl) rfl (bE (r:=(i_c3:Int)) aF rfl rfl o330 o329 (by omega) (by omega) ?_))
        intro w337 ch338 o339
        clear o330 o329
        refine c6 (by kernel_rfl) ?_
        have C340:=cg [16] (ch277.n.seq (ch307.n.seq ((ch328.lr rfl).seq (ch338.l rfl))))
        exact mid (g325) _ _ ⟨bH.ca C340,zs0_c3,zs3_c3,zs4_c3,Rg.ca C340,Rus.ca C340,Rts.ca C340,o43.ca C340,o45.ca C340,bx55.ca C340,o61.ca C340,o63.ca C340,bx73.ca C340,bx115.ce ch338,o339⟩
     clear Rg Rus Rts o43 o45 bx55 o61 o63 bx73 bx115 o_b_0 bH
     rintro g343 f341 w342 ⟨bH,zs0_c3,zs3_c3,zs4_c3,Rg,Rus,Rts,o43,o45,bx55,o61,o63,bx73,bx115,o299⟩
     refine aq ?_
     refine back5_c3 ((List.set L1_c3 (Int.toNat ↑i_c3) (gI L1_c3 ↑i_c3++([0]:List Int))),g343) _ _ ⟨bH,zs0_c3,zs3_c3,zs4_c3,Rg,Rus,Rts,o43,o45,bx55,o61,o63,bx73,bx115,o299,?_⟩ ?_
     · show dj (List.set L1_c3 (Int.toNat ↑i_c3) (gI L1_c3 ↑i_c3++([0]:List Int))) L_c3 i_c3 (min (bg v264:Int) ((List.length (gI L_c3 ↑i_c3):Int)+2000))
       exact hg_c3.next ‹_› ‹_› (by omega)
     · show Int.toNat ((min (bg v264:Int) ((List.length (gI L_c3 ↑i_c3):Int)+2000))-(List.length (gI (List.set L1_c3 (Int.toNat ↑i_c3) (gI L1_c3 ↑i_c3++([0]:List Int))) (i_c3:Int)):Int))<Int.toNat ((min (bg v264:Int) ((List.length (gI L_c3 ↑i_c3):Int)+2000))-(List.length (gI L1_c3 ↑i_c3):Int))
       (have h1:=hg_c3.meas ‹_›;omega)
    refine ag rfl (df p5_c3) (aD rfl (a7 ?_))
    clear cel274 r275
    refine a6 rfl (ai 0 (a8 (al ?_)))
    refine aP (σ:=Nat×fK×aA) (λ⟨k_c3,L2_c3,gq⟩ f w=>aU w0 gq w/\f 0=vp b113 0/\f 3=vi ↑i_c3/\f 5=vi ↑k_c3/\Sl gq (is 0) w g_v g.2/\Sl gq (is 0) w us_v us/\Sl gq (is 0) w ts_v ts/\Ow gq (is 5) (is 5) w v42 (((aj g (am us) s).1).1)/\Ow gq (is 6) (is 6) w v44 (((aj g (am us) s).1).2)/\Bx gq (is 7) w b50 [v42,v44]/\Ow gq (is 8) (is 8) w v60 (((aj g (am us) s).1).1)/\Ow gq (is 9) (is 9) w v62 (((aj g (am us) s).1).2)/\Bx gq (is 10) w b68 [v60,v62]/\Bx gq (is 13) w b113 [b_0_v,vi b_1]/\cj gq 16 w b_0_v L2_c3/\(fh L2_c3 L_c3 i_c3 k_c3)) (λ⟨k_c3,L2_c3,gq⟩=>List.length (gI L2_c3 ↑i_c3)-k_c3) (0,L1_c3,g272) ?_ ?_
    · exact⟨bH,zs0_c3,zs3_c3,rfl,Rg,Rus,Rts,o43,o45,bx55,o61,o63,bx73,bx115,o_b_0,by exact hg_c3.wr⟩
    clear Rg Rus Rts o43 o45 bx55 o61 o63 bx73 bx115 o_b_0 bH
    rintro⟨k_c3,L2_c3,g346⟩ f344 w345 ⟨bH,zs0_c3,zs3_c3,zs5_c3,Rg,Rus,Rts,o43,o45,bx55,o61,o63,bx73,bx115,o_b_0,hw_c3⟩ back8_c3
    have hwl_c3:=hw_c3.len
    have hwle_c3:=hw_c3.le
    have hwf_c3:=hw_c3.few
    refine a7 (a7 (a6 rfl (mz zs5_c3 (mz zs0_c3 (lw (vp b113 0) (aG rfl) (lx (ad fc rfl rfl rfl rfl) (lx (ae bl rfl bx115 rfl) (mz zs3_c3 (lx (aa (v:=b_0_v) (i:=↑i_c3) cW rfl rfl o_b_0.sl rfl (by omega) (by omega)) ?_)))))))))
    obtain⟨v347,cel348,r349⟩:=bw (r:=(i_c3:Int)) o_b_0 (by omega) (by omega)
    refine lx (bb aF rfl cel348) ?_
    have len350:=(r349.row_sl).small
    refine lx (aV bM rfl r349.row_sl) (lx (aW (m:=↑k_c3) (n:=(List.length (gI L2_c3 ↑i_c3):Int)) rfl rfl) (a8 ?_))
    by_cases p8_c3:(k_c3:Int)<(List.length (gI L2_c3 ↑i_c3):Int)
    ·
     refine af rfl (dt p8_c3) (ak (a7 (al ?_)))
     clear cel348 r349
     refine a6 rfl (mz zs0_c3 (lw (vp b113 0) (aG rfl) (lx (ad fc rfl rfl rfl rfl) (lx (ae bl rfl bx115 rfl) (mz zs3_c3 (lx (aa (v:=b_0_v) (i:=↑i_c3) cW rfl rfl o_b_0.sl rfl (by omega) (by omega)) ?_))))))
     obtain⟨v351,cel352,r353⟩:=bw (r:=(i_c3:Int)) o_b_0 (by omega) (by omega)
     refine lx (bb aF rfl cel352) (mz zs5_c3 (mz zs3_c3 (lx (dA (m:= -1000) (n:=↑i_c3) rfl rfl (by omega)) (lx (aa (v:=v351) (i:=↑k_c3) bM rfl rfl r353.row_sl rfl (by omega) (by omega)) (lo (aK (i:=↑k_c3) ((-1000)-(i_c3:Int)) ay rfl rfl r353 (by omega) (by omega) rfl ?_))))))
     intro w357 ch358 r359
     obtain⟨o360,cel361⟩:=ns (r:=(i_c3:Int)) o_b_0 (by omega) (by omega) ch358 cel352 r359
     clear o_b_0 cel352 r353
     refine a8 (aq ?_)
     clear cel361 r359
     refine a6 rfl (mz zs5_c3 (lx (aY (m:=↑k_c3) (n:=1) rfl rfl (by omega)) (ai ((k_c3:Int)+1) (a8 ?_))))
     refine back8_c3 (k_c3+1,(List.set L2_c3 (Int.toNat ↑i_c3) (List.set (gI L2_c3 ↑i_c3) (Int.toNat ↑k_c3) ((-1000)-(i_c3:Int)))),g346) _ _ ⟨bH.chg ch358 (bn rfl),zs0_c3,zs3_c3,rfl,Rg.chg ch358 (bn rfl),Rus.chg ch358 (bn rfl),Rts.chg ch358 (bn rfl),o43.chg ch358 (bn rfl) (bn rfl),o45.chg ch358 (bn rfl) (bn rfl),bx55.chg ch358 (bn rfl),o61.chg ch358 (bn rfl) (bn rfl),o63.chg ch358 (bn rfl) (bn rfl),bx73.chg ch358 (bn rfl),bx115.chg ch358 (bn rfl),o360,?_⟩ ?_
     · show fh (List.set L2_c3 (Int.toNat ↑i_c3) (List.set (gI L2_c3 ↑i_c3) (Int.toNat ↑k_c3) ((-1000)-(i_c3:Int)))) L_c3 i_c3 (k_c3+1)
       exact(hw_c3.next ‹_› ‹_›).1
     · show List.length (gI (List.set L2_c3 (Int.toNat ↑i_c3) (List.set (gI L2_c3 ↑i_c3) (Int.toNat ↑k_c3) ((-1000)-(i_c3:Int)))) (i_c3:Int))-(k_c3+1)<List.length (gI L2_c3 ↑i_c3)-k_c3
       (have h1:=(hw_c3.next ‹_› ‹_›).2;omega)
    refine ag rfl (df p8_c3) (aD rfl (aq ?_))
    clear cel348 r349
    refine a6 rfl (mz zs3_c3 (lx (aY (m:=↑i_c3) (n:=1) rfl rfl (by omega)) (ai ((i_c3:Int)+1) (a8 ?_))))
    refine back2_c3 (i_c3+1,L2_c3,g346) _ _ ⟨bH,zs0_c3,rfl,Rg,Rus,Rts,o43,o45,bx55,o61,o63,bx73,bx115,o_b_0,?_⟩ ?_
    · show fp L2_c3 (i_c3+1)
      exact hw_c3.fin ha_c3 ‹_› ‹_›
    · show List.length L2_c3-(i_c3+1)<List.length L_c3-i_c3
      (have h1:=hw_c3.len;omega)
   refine ag rfl (df p2_c3) (aD rfl (a7 (a7 (a6 rfl (ai 0 (a8 (al ?_)))))))
   refine aP (σ:=Nat×aA) (λ⟨m_c3,gq⟩ f w=>aU w0 gq w/\f 0=vp b113 0/\f 6=vi ↑m_c3/\Sl gq (is 0) w g_v g.2/\Sl gq (is 0) w us_v us/\Sl gq (is 0) w ts_v ts/\Ow gq (is 5) (is 5) w v42 (((aj g (am us) s).1).1)/\Ow gq (is 6) (is 6) w v44 (((aj g (am us) s).1).2)/\Bx gq (is 7) w b50 [v42,v44]/\Ow gq (is 8) (is 8) w v60 (((aj g (am us) s).1).1)/\Ow gq (is 9) (is 9) w v62 (((aj g (am us) s).1).2)/\Bx gq (is 10) w b68 [v60,v62]/\Bx gq (is 13) w b113 [b_0_v,vi b_1]/\cj gq 16 w b_0_v L_c3/\(m_c3:Int)<=((L_c3.length:Int):Int)/\(True)) (λ⟨m_c3,gq⟩=>Int.toNat (((L_c3.length:Int):Int)-(m_c3:Int))) (0,g256) ?_ ?_
   · exact⟨bH,zs0_c3,rfl,Rg,Rus,Rts,o43,o45,bx55,o61,o63,bx73,bx115,o_b_0,by omega,by trivial⟩
   clear Rg Rus Rts o43 o45 bx55 o61 o63 bx73 bx115 o_b_0 bH
   rintro⟨m_c3,g364⟩ f362 w363 ⟨bH,zs0_c3,zs6_c3,Rg,Rus,Rts,o43,o45,bx55,o61,o63,bx73,bx115,o_b_0,hle_m_c3,hinv12_c3⟩ back12_c3
   refine a7 (a7 (a6 rfl (mz zs6_c3 (mz zs0_c3 (lw (vp b113 0) (aG rfl) (lx (ad fc rfl rfl rfl rfl) (lx (ae bl rfl bx115 rfl) (lx (aV cW rfl o_b_0.sl) (lx (aW (m:=↑m_c3) (n:=(L_c3.length:Int)) rfl rfl) (a8 ?_))))))))))
   by_cases p12_c3:(m_c3:Int)<(L_c3.length:Int)
   ·
    refine af rfl (dt p12_c3) (ak (a7 (al (a7 (a6 rfl (ai 0 (a8 (al ?_))))))))
    refine aP (σ:=Nat×aA) (λ⟨n_c3,gq⟩ f w=>aU w0 gq w/\f 0=vp b113 0/\f 6=vi ↑m_c3/\f 7=vi ↑n_c3/\Sl gq (is 0) w g_v g.2/\Sl gq (is 0) w us_v us/\Sl gq (is 0) w ts_v ts/\Ow gq (is 5) (is 5) w v42 (((aj g (am us) s).1).1)/\Ow gq (is 6) (is 6) w v44 (((aj g (am us) s).1).2)/\Bx gq (is 7) w b50 [v42,v44]/\Ow gq (is 8) (is 8) w v60 (((aj g (am us) s).1).1)/\Ow gq (is 9) (is 9) w v62 (((aj g (am us) s).1).2)/\Bx gq (is 10) w b68 [v60,v62]/\Bx gq (is 13) w b113 [b_0_v,vi b_1]/\cj gq 16 w b_0_v L_c3/\(n_c3:Int)<=((List.length (gI L_c3 ↑m_c3):Int):Int)/\(True)) (λ⟨n_c3,gq⟩=>Int.toNat (((List.length (gI L_c3 ↑m_c3):Int):Int)-(n_c3:Int))) (0,g364) ?_ ?_
    · exact⟨bH,zs0_c3,zs6_c3,rfl,Rg,Rus,Rts,o43,o45,bx55,o61,o63,bx73,bx115,o_b_0,by omega,by trivial⟩
    clear Rg Rus Rts o43 o45 bx55 o61 o63 bx73 bx115 o_b_0 bH
    rintro⟨n_c3,g367⟩ f365 w366 ⟨bH,zs0_c3,zs6_c3,zs7_c3,Rg,Rus,Rts,o43,o45,bx55,o61,o63,bx73,bx115,o_b_0,hle_n_c3,hinv15_c3⟩ back15_c3
    refine a7 (a7 (a6 rfl (mz zs7_c3 (mz zs0_c3 (lw (vp b113 0) (aG rfl) (lx (ad fc rfl rfl rfl rfl) (lx (ae bl rfl bx115 rfl) (mz zs6_c3 (lx (aa (v:=b_0_v) (i:=↑m_c3) cW rfl rfl o_b_0.sl rfl (by omega) (by omega)) ?_)))))))))
    obtain⟨v368,cel369,r370⟩:=bw (r:=(m_c3:Int)) o_b_0 (by omega) (by omega)
    refine lx (bb aF rfl cel369) ?_
    have len371:=(r370.row_sl).small
    refine lx (aV bM rfl r370.row_sl) (lx (aW (m:=↑n_c3) (n:=(List.length (gI L_c3 ↑m_c3):Int)) rfl rfl) (a8 ?_))
    by_cases p15_c3:(n_c3:Int)<(List.length (gI L_c3 ↑m_c3):Int)
    ·
     refine af rfl (dt p15_c3) (ak (a7 (al (a7 ?_))))
     clear cel369 r370
     refine a6 rfl (mz zs0_c3 (lw (vp b113 0) (aG rfl) (lx (ad fc rfl rfl rfl rfl) (lx (ae bl rfl bx115 rfl) (mz zs6_c3 (lx (aa (v:=b_0_v) (i:=↑m_c3) cW rfl rfl o_b_0.sl rfl (by omega) (by omega)) ?_))))))
     obtain⟨v372,cel373,r374⟩:=bw (r:=(m_c3:Int)) o_b_0 (by omega) (by omega)
     refine lx (bb aF rfl cel373) (mz zs7_c3 (lx (aa (v:=v372) (i:=↑n_c3) bM rfl rfl r374.row_sl rfl (by omega) (by omega)) (lx (az (v:=v372) (i:=↑n_c3) ay rfl r374.row_sl (by omega) (by omega) (by decide) rfl) (mz zs6_c3 (lx (dA (m:= -1000) (n:=↑m_c3) rfl rfl (by omega)) (lx (ch (m:=(gI (gI L_c3 ↑m_c3) ↑n_c3)) (n:=(-1000)-(m_c3:Int)) rfl rfl) (a8 ?_)))))))
     have p17_c3:(gI (gI L_c3 ↑m_c3) ↑n_c3)=((-1000)-(m_c3:Int)):=by exact ha_c3.read (by omega) ‹_› ‹_›
     refine ag rfl (congrArg Bool.not (dt p17_c3)) (ak (aq ?_))
     clear cel373 r374
     refine a6 rfl (mz zs7_c3 (lx (aY (m:=↑n_c3) (n:=1) rfl rfl (by omega)) (ai ((n_c3:Int)+1) (a8 ?_))))
     refine back15_c3 (n_c3+1,g367) _ _ ⟨bH,zs0_c3,zs6_c3,rfl,Rg,Rus,Rts,o43,o45,bx55,o61,o63,bx73,bx115,o_b_0,by omega,?_⟩ ?_
     · show True
       trivial
     · show Int.toNat (((List.length (gI L_c3 ↑m_c3):Int):Int)-((n_c3+1):Int))<Int.toNat (((List.length (gI L_c3 ↑m_c3):Int):Int)-(n_c3:Int))
       omega
    refine ag rfl (df p15_c3) (aD rfl (aq ?_))
    clear cel369 r370
    refine a6 rfl (mz zs6_c3 (lx (aY (m:=↑m_c3) (n:=1) rfl rfl (by omega)) (ai ((m_c3:Int)+1) (a8 ?_))))
    refine back12_c3 (m_c3+1,g367) _ _ ⟨bH,zs0_c3,rfl,Rg,Rus,Rts,o43,o45,bx55,o61,o63,bx73,bx115,o_b_0,by omega,?_⟩ ?_
    · show True
      trivial
    · show Int.toNat (((L_c3.length:Int):Int)-((m_c3+1):Int))<Int.toNat (((L_c3.length:Int):Int)-(m_c3:Int))
      omega
   refine ag rfl (df p12_c3) (aD rfl (a7 (a6 rfl (ma (vb true) (a8 (au (vs:=[vb true]) Try.func22 (.tmp rfl .nil) ?_))))))
   refine⟨vb true,rfl,?_⟩
   refine mv (vb true) (lv (vp b50 1) (wy rfl) (ad ei rfl rfl zs11 rfl) (lv (v44) (wy rfl) (ae aF rfl bx55 rfl) (lv (vp b68 1) (wy rfl) (ad ei rfl rfl zs13 rfl) (lv (v62) (wy rfl) (ae aF rfl bx73 rfl) (cu (wy rfl) (aZ (v:=vb (decide ((((aj g (am us) s).1).2)=(((aj g (am us) s).1).2)))) (aE (vals:=[v44,v62]) Try.func17 fQ fC rfl) (eu w363 (((aj g (am us) s).1).2) v44 (o45.flat).ro (((aj g (am us) s).1).2) v62 (o63.flat).ro) ?_))))))
   intro w375 hb376
   replace hb376:=av hb376 g364
   refine lw (vb (decide ((((aj g (am us) s).1).2)=(((aj g (am us) s).1).2)))) (aB rfl rfl rfl) (ma (vb (decide ((((aj g (am us) s).1).2)=(((aj g (am us) s).1).2)))) (a8 (au (vs:=[vb (decide ((((aj g (am us) s).1).2)=(((aj g (am us) s).1).2)))]) Try.func3 (.tmp rfl .nil) ?_)))
   have e0:((decide ((((aj g (am us) s).1).2)=(((aj g (am us) s).1).2))):Bool)=(true):=by
     exact dt rfl
   replace bH:=bH.cn hb376
   exact⟨(congrArg (a₁:=(decide ((((aj g (am us) s).1).2)=(((aj g (am us) s).1).2)))) (λ(z0:Bool)=>Ending.returned (vb z0)) e0),bH.below⟩
  refine ah (wn (df q138)) (ah (wn (df q138)) (lw (vb false) (aI rfl (df q138) rfl) (a8 (ag rfl rfl (aD rfl (a7 ?_))))))
  clear bx5
  refine a6 rfl (mz zs21 (lo (bW (aE (vals:=[vp b113 0]) Try.func22 kZ lj rfl) (ar Try.func22 rfl nq (a7 (a6 rfl (ma (vb false) (a8 (a7 (a7 (a6 rfl (ai 0 (a8 ?_)))))))))))))
  refine al ?_
  refine aP (σ:=Nat×fK×aA) (λ⟨i_c4,L_c4,gq⟩ f w=>aU w0 gq w/\f 0=vp b113 0/\f 3=vi ↑i_c4/\Sl gq (is 0) w g_v g.2/\Sl gq (is 0) w us_v us/\Sl gq (is 0) w ts_v ts/\Ow gq (is 5) (is 5) w v42 (((aj g (am us) s).1).1)/\Ow gq (is 6) (is 6) w v44 (((aj g (am us) s).1).2)/\Bx gq (is 7) w b50 [v42,v44]/\Ow gq (is 8) (is 8) w v60 (((aj g (am us) s).1).1)/\Ow gq (is 9) (is 9) w v62 (((aj g (am us) s).1).2)/\Bx gq (is 10) w b68 [v60,v62]/\Bx gq (is 13) w b113 [b_0_v,vi b_1]/\cj gq 16 w b_0_v L_c4/\(fp L_c4 i_c4)) (λ⟨i_c4,L_c4,gq⟩=>List.length L_c4-i_c4) (0,b_0,g178) ?_ ?_
  · exact⟨bH,rfl,rfl,Rg,Rus,Rts,o43,o45,bx55,o61,o63,bx73,bx115,o_b_0,by exact cO.ap ‹_›⟩
  clear Rg Rus Rts o43 o45 bx55 o61 o63 bx73 bx115 o_b_0 bH
  rintro⟨i_c4,L_c4,g379⟩ f377 w378 ⟨bH,zs0_c4,zs3_c4,Rg,Rus,Rts,o43,o45,bx55,o61,o63,bx73,bx115,o_b_0,ha_c4⟩ back2_c4
  have hale_c4:=ha_c4.le
  have hafew_c4:=ha_c4.few
  refine a7 (a7 (a6 rfl (mz zs3_c4 (mz zs0_c4 (lw (vp b113 0) (aG rfl) (lx (ad fc rfl rfl rfl rfl) (lx (ae bl rfl bx115 rfl) ?_)))))))
  have len380:=(o_b_0.sl).small
  refine lx (aV cW rfl o_b_0.sl) (lx (aW (m:=↑i_c4) (n:=(L_c4.length:Int)) rfl rfl) (a8 ?_))
  by_cases p2_c4:(i_c4:Int)<(L_c4.length:Int)
  ·
   refine af rfl (dt p2_c4) ?_
   have hares_c4:=ha_c4.rest i_c4 (Nat.le_refl _) (by omega)
   refine ak (a7 (al (a7 (a7 (bL g379 rfl cw (by kernel_rfl) ?_)))))
   intro w382 ch381
   refine qz zs0_c4 (qv (vp b113 0) (λw' hw'=>aG rfl) (qx (λw' hw'=>ad fc rfl rfl rfl rfl) ?_))
   replace bx115:=bx115.cn ch381
   refine qx (λw' hw'=>ae bl rfl (bx115.bel hw') rfl) (qz zs3_c4 ?_)
   replace o_b_0:=o_b_0.cn ch381
   refine qx (λw' hw'=>aa (v:=b_0_v) (i:=↑i_c4) cW rfl rfl (o_b_0.sl.bel hw') rfl (by omega) (by omega)) ?_
   obtain⟨v383,cel384,r385⟩:=bw (r:=(i_c4:Int)) o_b_0 (by omega) (by omega)
   refine qx (λw' hw'=>bb aF rfl (eV cel384 hw')) ?_
   have len386:=(r385.row_sl).small
   refine qx (λw' hw'=>aV bM rfl (r385.row_sl.bel hw')) (qz zs0_c4 (qv (vp b113 0) (λw' hw'=>aG rfl) (qx (λw' hw'=>ad fc rfl rfl rfl rfl) (qx (λw' hw'=>ae bl rfl (bx115.bel hw') rfl) (qz zs3_c4 (qx (λw' hw'=>aa (v:=b_0_v) (i:=↑i_c4) cW rfl rfl (o_b_0.sl.bel hw') rfl (by omega) (by omega)) ?_))))))
   obtain⟨v387,cel388,r389⟩:=bw (r:=(i_c4:Int)) o_b_0 (by omega) (by omega)
   refine qx (λw' hw'=>bb aF rfl (eV cel388 hw')) ?_
   have cap390:=Sl.cap r389.row_sl
   refine qv (vi (bg v387:Int)) (λw' hw'=>lm bM rfl (r389.row_sl.bel hw')) (dJ (v:=vi (min (bg v387:Int) ((List.length (gI L_c4 ↑i_c4):Int)+2000))) rfl (λw' hw'=>aE (vals:=[vi (List.length (gI L_c4 ↑i_c4):Int),vi (bg v387:Int)]) Try.func53 gM gP rfl) (λw' hw'=>(gN w' (List.length (gI L_c4 ↑i_c4):Int) (bg v387:Int) (by omega)).mono λe w2 h2=>⟨h2.1,hw'.trans (h2.2.mono hw'.size)⟩) (qv (vi (min (bg v387:Int) ((List.length (gI L_c4 ↑i_c4):Int)+2000))) (λw' hw'=>bh rfl) (cm ?_)))
   intro w391 hc392
   replace hc392:=av hc392 g379
   refine al ?_
   clear cel384 r385 cel388 r389
   refine aP (σ:=fK×aA) (λ⟨L1_c4,gq⟩ f w=>aU w0 gq w/\f 0=vp b113 0/\f 3=vi ↑i_c4/\f 4=vi (min (bg v387:Int) ((List.length (gI L_c4 ↑i_c4):Int)+2000))/\Sl gq (is 0) w g_v g.2/\Sl gq (is 0) w us_v us/\Sl gq (is 0) w ts_v ts/\Ow gq (is 5) (is 5) w v42 (((aj g (am us) s).1).1)/\Ow gq (is 6) (is 6) w v44 (((aj g (am us) s).1).2)/\Bx gq (is 7) w b50 [v42,v44]/\Ow gq (is 8) (is 8) w v60 (((aj g (am us) s).1).1)/\Ow gq (is 9) (is 9) w v62 (((aj g (am us) s).1).2)/\Bx gq (is 10) w b68 [v60,v62]/\Bx gq (is 13) w b113 [b_0_v,vi b_1]/\cj gq 16 w b_0_v L1_c4/\(dj L1_c4 L_c4 i_c4 (min (bg v387:Int) ((List.length (gI L_c4 ↑i_c4):Int)+2000)))) (λ⟨L1_c4,gq⟩=>Int.toNat ((min (bg v387:Int) ((List.length (gI L_c4 ↑i_c4):Int)+2000))-(List.length (gI L1_c4 ↑i_c4):Int))) (L_c4,g379) ?_ ?_
   replace bH:=bH.cn ch381
   · exact⟨bH.cn hc392,zs0_c4,zs3_c4,rfl,(Rg.cn ch381).cn hc392,(Rus.cn ch381).cn hc392,(Rts.cn ch381).cn hc392,(o43.cn ch381).cn hc392,(o45.cn ch381).cn hc392,(bx55.cn ch381).cn hc392,(o61.cn ch381).cn hc392,(o63.cn ch381).cn hc392,(bx73.cn ch381).cn hc392,bx115.cn hc392,o_b_0.cn hc392,by exact dj.start ha_c4 ‹_›⟩
   clear Rg Rus Rts o43 o45 bx55 o61 o63 bx73 bx115 o_b_0 bH
   rintro⟨L1_c4,g395⟩ f393 w394 ⟨bH,zs0_c4,zs3_c4,zs4_c4,Rg,Rus,Rts,o43,o45,bx55,o61,o63,bx73,bx115,o_b_0,hg_c4⟩ back5_c4
   have hgl_c4:=hg_c4.len
   have hgle_c4:=hg_c4.le
   refine a7 (a7 (a6 rfl (mz zs0_c4 (lw (vp b113 0) (aG rfl) (lx (ad fc rfl rfl rfl rfl) (lx (ae bl rfl bx115 rfl) (mz zs3_c4 (lx (aa (v:=b_0_v) (i:=↑i_c4) cW rfl rfl o_b_0.sl rfl (by omega) (by omega)) ?_))))))))
   obtain⟨v396,cel397,r398⟩:=bw (r:=(i_c4:Int)) o_b_0 (by omega) (by omega)
   refine lx (bb aF rfl cel397) ?_
   have len399:=(r398.row_sl).small
   refine lx (aV bM rfl r398.row_sl) (mz zs4_c4 (lx (aW (m:=(List.length (gI L1_c4 ↑i_c4):Int)) (n:=min (bg v387:Int) ((List.length (gI L_c4 ↑i_c4):Int)+2000)) rfl rfl) (a8 ?_)))
   by_cases p5_c4:(List.length (gI L1_c4 ↑i_c4):Int)<(min (bg v387:Int) ((List.length (gI L_c4 ↑i_c4):Int)+2000))
   ·
    refine af rfl (dt p5_c4) (ak (al ?_))
    clear cel397 r398
    refine ec (σ:=aA) (λgq f w=>aU w0 gq w/\f 0=vp b113 0/\f 3=vi ↑i_c4/\f 4=vi (min (bg v387:Int) ((List.length (gI L_c4 ↑i_c4):Int)+2000))/\Sl gq (is 0) w g_v g.2/\Sl gq (is 0) w us_v us/\Sl gq (is 0) w ts_v ts/\Ow gq (is 5) (is 5) w v42 (((aj g (am us) s).1).1)/\Ow gq (is 6) (is 6) w v44 (((aj g (am us) s).1).2)/\Bx gq (is 7) w b50 [v42,v44]/\Ow gq (is 8) (is 8) w v60 (((aj g (am us) s).1).1)/\Ow gq (is 9) (is 9) w v62 (((aj g (am us) s).1).2)/\Bx gq (is 10) w b68 [v60,v62]/\Bx gq (is 13) w b113 [b_0_v,vi b_1]/\cj gq 16 w b_0_v (List.set L1_c4 (Int.toNat ↑i_c4) (gI L1_c4 ↑i_c4++([0]:List Int)))) g395 [0,1,2,4,5,6,7,8,9,10,11,14] cw ?_ ?_
    ·
     intro mid
     intro w401 ch400
     refine xp (v:=vp b113 0) 0 rfl (λw=>ao zs0_c4) (xp (v:=vp b113 0) 1 rfl (λw=>aG rfl) (xp 2 rfl (λw=>ad fc rfl rfl rfl rfl) (xp (v:=vi ↑i_c4) 4 rfl (λw=>ao zs3_c4) (xp (v:=vp b113 0) 5 rfl (λw=>ao zs0_c4) (xp (v:=vp b113 0) 6 rfl (λw=>aG rfl) (xp 7 rfl (λw=>ad fc rfl rfl rfl rfl) ?_))))))
     replace bx115:=bx115.cn ch400
     refine xh 8 [7,6,5,4,2,1,0,3,9,12] rfl (λw' hw'=>ae bl rfl (bx115.bel hw') rfl) (xp (v:=vi ↑i_c4) 9 rfl (λw=>ao zs3_c4) ?_)
     replace o_b_0:=o_b_0.cn ch400
     refine xh 10 [9,8,7,6,5,4,2,1,0,3,12] rfl (λw' hw'=>aa (v:=b_0_v) (i:=↑i_c4) cW rfl rfl (o_b_0.sl.bel hw') rfl (by omega) (by omega)) ?_
     obtain⟨v402,cel403,r404⟩:=bw (r:=(i_c4:Int)) o_b_0 (by omega) (by omega)
     refine xh 11 [10,9,8,7,6,5,4,2,1,0,3,12] rfl (λw' hw'=>bb aF rfl (eV cel403 hw')) ?_
     refine fg 3 12 rfl rfl (by kernel_rfl) rfl rfl ?_ ?_
     ·
      refine aX (v:=b_0_v) (ae bl rfl bx115 rfl) (b7 12 rfl (by kernel_rfl) rfl (aN (α:=Int) g395 (is 22) (is 22) (22,0) rfl ([0]:List Int) bM ay (by decide) (by decide) (vs:=[(0,vi 0)]) rfl rfl (.cons rfl .nil) ?_))
      intro g405 w406 v407 ch408 o409
      refine b7 13 rfl (by kernel_rfl) rfl ?_
      replace o_b_0:=o_b_0.cn ch408
      replace r404:=r404.cn ch408
      refine bs (α:=Int) (xs:=(gI L1_c4 ↑i_c4)) (ys:=([0]:List Int)) g405 (J:=row 16 (Int.toNat ↑i_c4+1)) (S:=row 16 (Int.toNat ↑i_c4+1)) (16,Int.toNat ↑i_c4+1) rfl bM ay (by decide) rfl rfl rfl r404 o409.flat (by decide) (by(simp;omega)) ?_
      intro g410 w411 v412 ch413 o414
      have o415:=o_b_0.rowchg ch413
      clear o_b_0 cel403 r404
      obtain⟨us416,hl417,r418⟩:=o415.vc
      try simp only[List.length_set,List.length_append,List.length_cons,List.length_nil] at hl417
      refine xv 14 [13,12,3,11,10,9,8,7,6,5,4,2,1,0] rfl (aa (v:=b_0_v) (i:=↑i_c4) cW rfl rfl r418 rfl (by omega) (by omega)) (b7 15 rfl (by kernel_rfl) rfl (bE (r:=(i_c4:Int)) aF rfl rfl o415 o414 (by omega) (by omega) ?_))
      intro w422 ch423 o424
      clear o415 o414
      refine c6 (by kernel_rfl) ?_
      have C426:=cg [16] (ch408.n.seq ((ch413.lr rfl).seq (ch423.l rfl)))
      have C425:=ch400.n.seq C426
      exact mid (g410) _ _ ⟨bH.ca C425,zs0_c4,zs3_c4,zs4_c4,Rg.ca C425,Rus.ca C425,Rts.ca C425,o43.ca C425,o45.ca C425,bx55.ca C425,o61.ca C425,o63.ca C425,bx73.ca C425,bx115.ca C426,o424⟩
     ·
      refine aN (α:=Int) g395 (is 22) (is 22) (22,0) rfl ([0]:List Int) bM ay (by decide) (by decide) (vs:=[(0,vi 0)]) rfl rfl (.cons rfl .nil) ?_
      intro g427 w428 v429 ch430 o431
      refine fg 3 13 rfl rfl (by kernel_rfl) rfl rfl ?_ ?_
      ·
       replace bx115:=bx115.cn ch430
       refine aX (v:=b_0_v) (ae bl rfl bx115 rfl) (b7 13 rfl (by kernel_rfl) rfl ?_)
       replace o_b_0:=o_b_0.cn ch430
       replace r404:=r404.cn ch430
       refine bs (α:=Int) (xs:=(gI L1_c4 ↑i_c4)) (ys:=([0]:List Int)) g427 (J:=row 16 (Int.toNat ↑i_c4+1)) (S:=row 16 (Int.toNat ↑i_c4+1)) (16,Int.toNat ↑i_c4+1) rfl bM ay (by decide) rfl rfl rfl r404 o431.flat (by decide) (by(simp;omega)) ?_
       intro g432 w433 v434 ch435 o436
       have o437:=o_b_0.rowchg ch435
       clear o_b_0 cel403 r404
       obtain⟨us438,hl439,r440⟩:=o437.vc
       try simp only[List.length_set,List.length_append,List.length_cons,List.length_nil] at hl439
       refine xv 14 [13,3,12,11,10,9,8,7,6,5,4,2,1,0] rfl (aa (v:=b_0_v) (i:=↑i_c4) cW rfl rfl r440 rfl (by omega) (by omega)) (b7 15 rfl (by kernel_rfl) rfl (bE (r:=(i_c4:Int)) aF rfl rfl o437 o436 (by omega) (by omega) ?_))
       intro w444 ch445 o446
       clear o437 o436
       refine c6 (by kernel_rfl) ?_
       have C447:=cg [16] (ch400.n.seq (ch430.n.seq ((ch435.lr rfl).seq (ch445.l rfl))))
       exact mid (g432) _ _ ⟨bH.ca C447,zs0_c4,zs3_c4,zs4_c4,Rg.ca C447,Rus.ca C447,Rts.ca C447,o43.ca C447,o45.ca C447,bx55.ca C447,o61.ca C447,o63.ca C447,bx73.ca C447,(bx115.chg ch435 (bn rfl)).ce ch445,o446⟩
      ·
       replace o_b_0:=o_b_0.cn ch430
       replace r404:=r404.cn ch430
       refine bs (α:=Int) (xs:=(gI L1_c4 ↑i_c4)) (ys:=([0]:List Int)) g427 (J:=row 16 (Int.toNat ↑i_c4+1)) (S:=row 16 (Int.toNat ↑i_c4+1)) (16,Int.toNat ↑i_c4+1) rfl bM ay (by decide) rfl rfl rfl r404 o431.flat (by decide) (by(simp;omega)) ?_
       intro g448 w449 v450 ch451 o452
       have o453:=o_b_0.rowchg ch451
       clear o_b_0 cel403 r404
       replace bx115:=(bx115.cn ch430).chg ch451 (bn rfl)
       refine b7 3 rfl (by kernel_rfl) rfl (aX (v:=b_0_v) (ae bl rfl bx115 rfl) ?_)
       obtain⟨us454,hl455,r456⟩:=o453.vc
       try simp only[List.length_set,List.length_append,List.length_cons,List.length_nil] at hl455
       refine xv 14 [3,13,12,11,10,9,8,7,6,5,4,2,1,0] rfl (aa (v:=b_0_v) (i:=↑i_c4) cW rfl rfl r456 rfl (by omega) (by omega)) (b7 15 rfl (by kernel_rfl) rfl (bE (r:=(i_c4:Int)) aF rfl rfl o453 o452 (by omega) (by omega) ?_))
       intro w460 ch461 o462
       clear o453 o452
       refine c6 (by kernel_rfl) ?_
       have C463:=cg [16] (ch400.n.seq (ch430.n.seq ((ch451.lr rfl).seq (ch461.l rfl))))
       exact mid (g448) _ _ ⟨bH.ca C463,zs0_c4,zs3_c4,zs4_c4,Rg.ca C463,Rus.ca C463,Rts.ca C463,o43.ca C463,o45.ca C463,bx55.ca C463,o61.ca C463,o63.ca C463,bx73.ca C463,bx115.ce ch461,o462⟩
    clear Rg Rus Rts o43 o45 bx55 o61 o63 bx73 bx115 o_b_0 bH
    rintro g466 f464 w465 ⟨bH,zs0_c4,zs3_c4,zs4_c4,Rg,Rus,Rts,o43,o45,bx55,o61,o63,bx73,bx115,o422⟩
    refine aq ?_
    refine back5_c4 ((List.set L1_c4 (Int.toNat ↑i_c4) (gI L1_c4 ↑i_c4++([0]:List Int))),g466) _ _ ⟨bH,zs0_c4,zs3_c4,zs4_c4,Rg,Rus,Rts,o43,o45,bx55,o61,o63,bx73,bx115,o422,?_⟩ ?_
    · show dj (List.set L1_c4 (Int.toNat ↑i_c4) (gI L1_c4 ↑i_c4++([0]:List Int))) L_c4 i_c4 (min (bg v387:Int) ((List.length (gI L_c4 ↑i_c4):Int)+2000))
      exact hg_c4.next ‹_› ‹_› (by omega)
    · show Int.toNat ((min (bg v387:Int) ((List.length (gI L_c4 ↑i_c4):Int)+2000))-(List.length (gI (List.set L1_c4 (Int.toNat ↑i_c4) (gI L1_c4 ↑i_c4++([0]:List Int))) (i_c4:Int)):Int))<Int.toNat ((min (bg v387:Int) ((List.length (gI L_c4 ↑i_c4):Int)+2000))-(List.length (gI L1_c4 ↑i_c4):Int))
      (have h1:=hg_c4.meas ‹_›;omega)
   refine ag rfl (df p5_c4) (aD rfl (a7 ?_))
   clear cel397 r398
   refine a6 rfl (ai 0 (a8 (al ?_)))
   refine aP (σ:=Nat×fK×aA) (λ⟨k_c4,L2_c4,gq⟩ f w=>aU w0 gq w/\f 0=vp b113 0/\f 3=vi ↑i_c4/\f 5=vi ↑k_c4/\Sl gq (is 0) w g_v g.2/\Sl gq (is 0) w us_v us/\Sl gq (is 0) w ts_v ts/\Ow gq (is 5) (is 5) w v42 (((aj g (am us) s).1).1)/\Ow gq (is 6) (is 6) w v44 (((aj g (am us) s).1).2)/\Bx gq (is 7) w b50 [v42,v44]/\Ow gq (is 8) (is 8) w v60 (((aj g (am us) s).1).1)/\Ow gq (is 9) (is 9) w v62 (((aj g (am us) s).1).2)/\Bx gq (is 10) w b68 [v60,v62]/\Bx gq (is 13) w b113 [b_0_v,vi b_1]/\cj gq 16 w b_0_v L2_c4/\(fh L2_c4 L_c4 i_c4 k_c4)) (λ⟨k_c4,L2_c4,gq⟩=>List.length (gI L2_c4 ↑i_c4)-k_c4) (0,L1_c4,g395) ?_ ?_
   · exact⟨bH,zs0_c4,zs3_c4,rfl,Rg,Rus,Rts,o43,o45,bx55,o61,o63,bx73,bx115,o_b_0,by exact hg_c4.wr⟩
   clear Rg Rus Rts o43 o45 bx55 o61 o63 bx73 bx115 o_b_0 bH
   rintro⟨k_c4,L2_c4,g469⟩ f467 w468 ⟨bH,zs0_c4,zs3_c4,zs5_c4,Rg,Rus,Rts,o43,o45,bx55,o61,o63,bx73,bx115,o_b_0,hw_c4⟩ back8_c4
   have hwl_c4:=hw_c4.len
   have hwle_c4:=hw_c4.le
   have hwf_c4:=hw_c4.few
   refine a7 (a7 (a6 rfl (mz zs5_c4 (mz zs0_c4 (lw (vp b113 0) (aG rfl) (lx (ad fc rfl rfl rfl rfl) (lx (ae bl rfl bx115 rfl) (mz zs3_c4 (lx (aa (v:=b_0_v) (i:=↑i_c4) cW rfl rfl o_b_0.sl rfl (by omega) (by omega)) ?_)))))))))
   obtain⟨v470,cel471,r472⟩:=bw (r:=(i_c4:Int)) o_b_0 (by omega) (by omega)
   refine lx (bb aF rfl cel471) ?_
   have len473:=(r472.row_sl).small
   refine lx (aV bM rfl r472.row_sl) (lx (aW (m:=↑k_c4) (n:=(List.length (gI L2_c4 ↑i_c4):Int)) rfl rfl) (a8 ?_))
   by_cases p8_c4:(k_c4:Int)<(List.length (gI L2_c4 ↑i_c4):Int)
   ·
    refine af rfl (dt p8_c4) (ak (a7 (al ?_)))
    clear cel471 r472
    refine a6 rfl (mz zs0_c4 (lw (vp b113 0) (aG rfl) (lx (ad fc rfl rfl rfl rfl) (lx (ae bl rfl bx115 rfl) (mz zs3_c4 (lx (aa (v:=b_0_v) (i:=↑i_c4) cW rfl rfl o_b_0.sl rfl (by omega) (by omega)) ?_))))))
    obtain⟨v474,cel475,r476⟩:=bw (r:=(i_c4:Int)) o_b_0 (by omega) (by omega)
    refine lx (bb aF rfl cel475) (mz zs5_c4 (mz zs3_c4 (lx (dA (m:= -1000) (n:=↑i_c4) rfl rfl (by omega)) (lx (aa (v:=v474) (i:=↑k_c4) bM rfl rfl r476.row_sl rfl (by omega) (by omega)) (lo (aK (i:=↑k_c4) ((-1000)-(i_c4:Int)) ay rfl rfl r476 (by omega) (by omega) rfl ?_))))))
    intro w480 ch481 r482
    obtain⟨o483,cel484⟩:=ns (r:=(i_c4:Int)) o_b_0 (by omega) (by omega) ch481 cel475 r482
    clear o_b_0 cel475 r476
    refine a8 (aq ?_)
    clear cel484 r482
    refine a6 rfl (mz zs5_c4 (lx (aY (m:=↑k_c4) (n:=1) rfl rfl (by omega)) (ai ((k_c4:Int)+1) (a8 ?_))))
    refine back8_c4 (k_c4+1,(List.set L2_c4 (Int.toNat ↑i_c4) (List.set (gI L2_c4 ↑i_c4) (Int.toNat ↑k_c4) ((-1000)-(i_c4:Int)))),g469) _ _ ⟨bH.chg ch481 (bn rfl),zs0_c4,zs3_c4,rfl,Rg.chg ch481 (bn rfl),Rus.chg ch481 (bn rfl),Rts.chg ch481 (bn rfl),o43.chg ch481 (bn rfl) (bn rfl),o45.chg ch481 (bn rfl) (bn rfl),bx55.chg ch481 (bn rfl),o61.chg ch481 (bn rfl) (bn rfl),o63.chg ch481 (bn rfl) (bn rfl),bx73.chg ch481 (bn rfl),bx115.chg ch481 (bn rfl),o483,?_⟩ ?_
    · show fh (List.set L2_c4 (Int.toNat ↑i_c4) (List.set (gI L2_c4 ↑i_c4) (Int.toNat ↑k_c4) ((-1000)-(i_c4:Int)))) L_c4 i_c4 (k_c4+1)
      exact(hw_c4.next ‹_› ‹_›).1
    · show List.length (gI (List.set L2_c4 (Int.toNat ↑i_c4) (List.set (gI L2_c4 ↑i_c4) (Int.toNat ↑k_c4) ((-1000)-(i_c4:Int)))) (i_c4:Int))-(k_c4+1)<List.length (gI L2_c4 ↑i_c4)-k_c4
      (have h1:=(hw_c4.next ‹_› ‹_›).2;omega)
   refine ag rfl (df p8_c4) (aD rfl (aq ?_))
   clear cel471 r472
   refine a6 rfl (mz zs3_c4 (lx (aY (m:=↑i_c4) (n:=1) rfl rfl (by omega)) (ai ((i_c4:Int)+1) (a8 ?_))))
   refine back2_c4 (i_c4+1,L2_c4,g469) _ _ ⟨bH,zs0_c4,rfl,Rg,Rus,Rts,o43,o45,bx55,o61,o63,bx73,bx115,o_b_0,?_⟩ ?_
   · show fp L2_c4 (i_c4+1)
     exact hw_c4.fin ha_c4 ‹_› ‹_›
   · show List.length L2_c4-(i_c4+1)<List.length L_c4-i_c4
     (have h1:=hw_c4.len;omega)
  refine ag rfl (df p2_c4) (aD rfl (a7 (a7 (a6 rfl (ai 0 (a8 (al ?_)))))))
  refine aP (σ:=Nat×aA) (λ⟨m_c4,gq⟩ f w=>aU w0 gq w/\f 0=vp b113 0/\f 6=vi ↑m_c4/\Sl gq (is 0) w g_v g.2/\Sl gq (is 0) w us_v us/\Sl gq (is 0) w ts_v ts/\Ow gq (is 5) (is 5) w v42 (((aj g (am us) s).1).1)/\Ow gq (is 6) (is 6) w v44 (((aj g (am us) s).1).2)/\Bx gq (is 7) w b50 [v42,v44]/\Ow gq (is 8) (is 8) w v60 (((aj g (am us) s).1).1)/\Ow gq (is 9) (is 9) w v62 (((aj g (am us) s).1).2)/\Bx gq (is 10) w b68 [v60,v62]/\Bx gq (is 13) w b113 [b_0_v,vi b_1]/\cj gq 16 w b_0_v L_c4/\(m_c4:Int)<=((L_c4.length:Int):Int)/\(True)) (λ⟨m_c4,gq⟩=>Int.toNat (((L_c4.length:Int):Int)-(m_c4:Int))) (0,g379) ?_ ?_
  · exact⟨bH,zs0_c4,rfl,Rg,Rus,Rts,o43,o45,bx55,o61,o63,bx73,bx115,o_b_0,by omega,by trivial⟩
  clear Rg Rus Rts o43 o45 bx55 o61 o63 bx73 bx115 o_b_0 bH
  rintro⟨m_c4,g487⟩ f485 w486 ⟨bH,zs0_c4,zs6_c4,Rg,Rus,Rts,o43,o45,bx55,o61,o63,bx73,bx115,o_b_0,hle_m_c4,hinv12_c4⟩ back12_c4
  refine a7 (a7 (a6 rfl (mz zs6_c4 (mz zs0_c4 (lw (vp b113 0) (aG rfl) (lx (ad fc rfl rfl rfl rfl) (lx (ae bl rfl bx115 rfl) (lx (aV cW rfl o_b_0.sl) (lx (aW (m:=↑m_c4) (n:=(L_c4.length:Int)) rfl rfl) (a8 ?_))))))))))
  by_cases p12_c4:(m_c4:Int)<(L_c4.length:Int)
  ·
   refine af rfl (dt p12_c4) (ak (a7 (al (a7 (a6 rfl (ai 0 (a8 (al ?_))))))))
   refine aP (σ:=Nat×aA) (λ⟨n_c4,gq⟩ f w=>aU w0 gq w/\f 0=vp b113 0/\f 6=vi ↑m_c4/\f 7=vi ↑n_c4/\Sl gq (is 0) w g_v g.2/\Sl gq (is 0) w us_v us/\Sl gq (is 0) w ts_v ts/\Ow gq (is 5) (is 5) w v42 (((aj g (am us) s).1).1)/\Ow gq (is 6) (is 6) w v44 (((aj g (am us) s).1).2)/\Bx gq (is 7) w b50 [v42,v44]/\Ow gq (is 8) (is 8) w v60 (((aj g (am us) s).1).1)/\Ow gq (is 9) (is 9) w v62 (((aj g (am us) s).1).2)/\Bx gq (is 10) w b68 [v60,v62]/\Bx gq (is 13) w b113 [b_0_v,vi b_1]/\cj gq 16 w b_0_v L_c4/\(n_c4:Int)<=((List.length (gI L_c4 ↑m_c4):Int):Int)/\(True)) (λ⟨n_c4,gq⟩=>Int.toNat (((List.length (gI L_c4 ↑m_c4):Int):Int)-(n_c4:Int))) (0,g487) ?_ ?_
   · exact⟨bH,zs0_c4,zs6_c4,rfl,Rg,Rus,Rts,o43,o45,bx55,o61,o63,bx73,bx115,o_b_0,by omega,by trivial⟩
   clear Rg Rus Rts o43 o45 bx55 o61 o63 bx73 bx115 o_b_0 bH
   rintro⟨n_c4,g490⟩ f488 w489 ⟨bH,zs0_c4,zs6_c4,zs7_c4,Rg,Rus,Rts,o43,o45,bx55,o61,o63,bx73,bx115,o_b_0,hle_n_c4,hinv15_c4⟩ back15_c4
   refine a7 (a7 (a6 rfl (mz zs7_c4 (mz zs0_c4 (lw (vp b113 0) (aG rfl) (lx (ad fc rfl rfl rfl rfl) (lx (ae bl rfl bx115 rfl) (mz zs6_c4 (lx (aa (v:=b_0_v) (i:=↑m_c4) cW rfl rfl o_b_0.sl rfl (by omega) (by omega)) ?_)))))))))
   obtain⟨v491,cel492,r493⟩:=bw (r:=(m_c4:Int)) o_b_0 (by omega) (by omega)
   refine lx (bb aF rfl cel492) ?_
   have len494:=(r493.row_sl).small
   refine lx (aV bM rfl r493.row_sl) (lx (aW (m:=↑n_c4) (n:=(List.length (gI L_c4 ↑m_c4):Int)) rfl rfl) (a8 ?_))
   by_cases p15_c4:(n_c4:Int)<(List.length (gI L_c4 ↑m_c4):Int)
   ·
    refine af rfl (dt p15_c4) (ak (a7 (al (a7 ?_))))
    clear cel492 r493
    refine a6 rfl (mz zs0_c4 (lw (vp b113 0) (aG rfl) (lx (ad fc rfl rfl rfl rfl) (lx (ae bl rfl bx115 rfl) (mz zs6_c4 (lx (aa (v:=b_0_v) (i:=↑m_c4) cW rfl rfl o_b_0.sl rfl (by omega) (by omega)) ?_))))))
    obtain⟨v495,cel496,r497⟩:=bw (r:=(m_c4:Int)) o_b_0 (by omega) (by omega)
    refine lx (bb aF rfl cel496) (mz zs7_c4 (lx (aa (v:=v495) (i:=↑n_c4) bM rfl rfl r497.row_sl rfl (by omega) (by omega)) (lx (az (v:=v495) (i:=↑n_c4) ay rfl r497.row_sl (by omega) (by omega) (by decide) rfl) (mz zs6_c4 (lx (dA (m:= -1000) (n:=↑m_c4) rfl rfl (by omega)) (lx (ch (m:=(gI (gI L_c4 ↑m_c4) ↑n_c4)) (n:=(-1000)-(m_c4:Int)) rfl rfl) (a8 ?_)))))))
    have p17_c4:(gI (gI L_c4 ↑m_c4) ↑n_c4)=((-1000)-(m_c4:Int)):=by exact ha_c4.read (by omega) ‹_› ‹_›
    refine ag rfl (congrArg Bool.not (dt p17_c4)) (ak (aq ?_))
    clear cel496 r497
    refine a6 rfl (mz zs7_c4 (lx (aY (m:=↑n_c4) (n:=1) rfl rfl (by omega)) (ai ((n_c4:Int)+1) (a8 ?_))))
    refine back15_c4 (n_c4+1,g490) _ _ ⟨bH,zs0_c4,zs6_c4,rfl,Rg,Rus,Rts,o43,o45,bx55,o61,o63,bx73,bx115,o_b_0,by omega,?_⟩ ?_
    · show True
      trivial
    · show Int.toNat (((List.length (gI L_c4 ↑m_c4):Int):Int)-((n_c4+1):Int))<Int.toNat (((List.length (gI L_c4 ↑m_c4):Int):Int)-(n_c4:Int))
      omega
   refine ag rfl (df p15_c4) (aD rfl (aq ?_))
   clear cel492 r493
   refine a6 rfl (mz zs6_c4 (lx (aY (m:=↑m_c4) (n:=1) rfl rfl (by omega)) (ai ((m_c4:Int)+1) (a8 ?_))))
   refine back12_c4 (m_c4+1,g490) _ _ ⟨bH,zs0_c4,rfl,Rg,Rus,Rts,o43,o45,bx55,o61,o63,bx73,bx115,o_b_0,by omega,?_⟩ ?_
   · show True
     trivial
   · show Int.toNat (((L_c4.length:Int):Int)-((m_c4+1):Int))<Int.toNat (((L_c4.length:Int):Int)-(m_c4:Int))
     omega
  refine ag rfl (df p12_c4) (aD rfl (a7 (a6 rfl (ma (vb true) (a8 (au (vs:=[vb true]) Try.func22 (.tmp rfl .nil) ?_))))))
  refine⟨vb true,rfl,?_⟩
  refine mv (vb true) (lv (vp b50 1) (wy rfl) (ad ei rfl rfl zs11 rfl) (lv (v44) (wy rfl) (ae aF rfl bx55 rfl) (lv (vp b68 1) (wy rfl) (ad ei rfl rfl zs13 rfl) (lv (v62) (wy rfl) (ae aF rfl bx73 rfl) (cu (wy rfl) (aZ (v:=vb (decide ((((aj g (am us) s).1).2)=(((aj g (am us) s).1).2)))) (aE (vals:=[v44,v62]) Try.func17 fQ fC rfl) (eu w486 (((aj g (am us) s).1).2) v44 (o45.flat).ro (((aj g (am us) s).1).2) v62 (o63.flat).ro) ?_))))))
  intro w498 hb499
  replace hb499:=av hb499 g487
  refine lw (vb (decide ((((aj g (am us) s).1).2)=(((aj g (am us) s).1).2)))) (aB rfl rfl rfl) (ma (vb (decide ((((aj g (am us) s).1).2)=(((aj g (am us) s).1).2)))) (a8 (au (vs:=[vb (decide ((((aj g (am us) s).1).2)=(((aj g (am us) s).1).2)))]) Try.func3 (.tmp rfl .nil) ?_)))
  have e0:((decide ((((aj g (am us) s).1).2)=(((aj g (am us) s).1).2))):Bool)=(true):=by
    exact dt rfl
  replace bH:=bH.cn hb499
  exact⟨(congrArg (a₁:=(decide ((((aj g (am us) s).1).2)=(((aj g (am us) s).1).2)))) (λ(z0:Bool)=>Ending.returned (vb z0)) e0),bH.below⟩
 refine ah (wn (congrArg Bool.not (Bool.eq_false_iff.2 q32))) (ah (wn (congrArg Bool.not (Bool.eq_false_iff.2 q32))) (ah (wn (congrArg Bool.not (Bool.eq_false_iff.2 q32))) (lw (vb true) (aB rfl (congrArg Bool.not (Bool.eq_false_iff.2 q32)) rfl) (a8 (af rfl rfl (a7 ?_))))))
 clear bx5
 refine a6 rfl (ma (vb true) (a8 (au (vs:=[vb true]) Try.func3 (.tmp rfl .nil) ?_)))
 have e0:(true:Bool)=(true):=by
   rfl
 have C500:=cg [] (ch2.n.seq (hb7.n.seq hb9.n))
 replace bH:=bH.ca C500
 exact⟨rb e0,bH.below⟩
end TL
