import Derived.Test.YtgneelmmomohdaaSaTlP5
import Derived.Test.YtgneelmmomohdaaSaTlGenA
import Derived.Test.YtgneelmmomohdaaProg
import Derived.Test.YtgneelmmomohdaaSaTlAli
set_option linter.all false
set_option maxRecDepth 20000
namespace TL
open Go Go.Proofs
theorem oY:Try.prog.follows .mixedOrders=true:=by kernel_rfl
theorem ir:Try.f50.body.isNone=false:=rfl
theorem ip:(Try.f50.name== "runtime.NumGoroutine")=false:=by decide+kernel
theorem il:Try.f51.body.isNone=false:=rfl
theorem iD:(Try.f51.name== "runtime.NumGoroutine")=false:=by decide+kernel
theorem nT:Try.f52.body.isNone=false:=rfl
theorem nU:(Try.f52.name== "runtime.NumGoroutine")=false:=by decide+kernel
theorem fB:Try.f53.body.isNone=false:=rfl
theorem fF:(Try.f53.name== "runtime.NumGoroutine")=false:=by decide+kernel
theorem od:Try.f54.body.isNone=false:=rfl
theorem nj:(Try.f54.name== "runtime.NumGoroutine")=false:=by decide+kernel
theorem mR:Try.f55.body.isNone=false:=rfl
theorem o4:(Try.f55.name== "runtime.NumGoroutine")=false:=by decide+kernel
theorem iy(w0:World)(ib:Int)(numbers:List Int)(numbers_v:Value)(hnumbers_v:Ro w0 numbers_v numbers)(n:Int)(m:Int)(hk:∀k∈numbers,ib<=k/\k<=100)(hn:n<=1000)(hm:m<=1000):
    Calls Try.prog 51 #[vi ib,numbers_v,vi n,vi m] w0 (λee w=>ee= .returned (vi 0)/\ep w0.heap.size w0 w):=by
 refine av Try.func51 rfl nq ?_
 have bH:=bn.start w0
 have Rnumbers:=hnumbers_v.sl
 refine aa (a8 rfl (ai 0 (ab (aa (aa (a8 rfl (mv numbers_v ?_)))))))
 have len1:=(Rnumbers).small
 refine lx (bq bv rfl Rnumbers) (mi 0 (ab (ao ?_)))
 refine aY (σ:=Nat×aG) (λ⟨k,gq⟩ f w=>bn w0 gq w/\f 0=vi ib/\f 1=numbers_v/\f 2=vi n/\f 3=vi m/\f 13=numbers_v/\f 14=vi (numbers.length:Int)/\f 15=vi ↑k/\Sl gq (is 0) w numbers_v numbers/\(k:Int)<=((numbers.length:Int):Int)/\True) (λ⟨k,gq⟩=>Int.toNat (((numbers.length:Int):Int)-(k:Int))) (0,c0) ?_ ?_
 · exact⟨bH,rfl,rfl,rfl,rfl,rfl,rfl,rfl,Rnumbers,by omega,trivial⟩
 clear Rnumbers bH
 rintro⟨k,g4⟩ f2 w3 ⟨bH,zs0,zs1,zs2,zs3,zs13,zs14,zs15,Rnumbers,hle_k,hinv2⟩ back2
 refine aa (a8 rfl (lx (bm (m:=↑k) (n:=(numbers.length:Int)) zs15 zs14) (ab (aa ?_))))
 by_cases p2:(k:Int)<(numbers.length:Int)
 ·
  refine ah rfl (dt p2) ?_
  have hkk:=hk _ (br (xs:=numbers) (i:=↑k) (by omega) ‹_›)
  refine aq (aa (ao (aa (a8 rfl (lx (ad (v:=numbers_v) (i:=↑k) bv rfl zs13 Rnumbers zs15 (by omega) (by omega)) (lx (az (v:=numbers_v) (i:=↑k) aj rfl Rnumbers (by omega) (by omega) (by decide) rfl) (ai (gI numbers ↑k) (ab (aa (a8 rfl (mi (gI numbers ↑k) (mz zs0 ?_))))))))))))
  refine lx (bm (m:=(gI numbers ↑k)) (n:=ib) rfl rfl) (ab ?_)
  have p4:¬((gI numbers ↑k)<ib):=by omega
  refine ag rfl (df p4) (aq (am (a8 rfl (lx (aI (m:=↑k) (n:=1) zs15 rfl (by omega)) (mi ((k:Int)+1) (ab ?_))))))
  refine back2 (k+1,g4) _ _ ⟨bH,zs0,zs1,zs2,zs3,zs13,zs14,rfl,Rnumbers,by omega,?_⟩ ?_
  · trivial
  · show Int.toNat (((numbers.length:Int):Int)-((k+1):Int))<Int.toNat (((numbers.length:Int):Int)-(k:Int))
    omega
 refine ag rfl (df p2) (aH rfl (aa (aa (a8 rfl (mz zs1 (lx (bq bv rfl Rnumbers) (mi 0 (ab (ao ?_)))))))))
 refine aY (σ:=Nat×aG) (λ⟨j,gq⟩ f w=>bn w0 gq w/\f 2=vi n/\f 3=vi m/\f 23=numbers_v/\f 24=vi (numbers.length:Int)/\f 25=vi ↑j/\Sl gq (is 0) w numbers_v numbers/\(j:Int)<=((numbers.length:Int):Int)/\True) (λ⟨j,gq⟩=>Int.toNat (((numbers.length:Int):Int)-(j:Int))) (0,g4) ?_ ?_
 · exact⟨bH,zs2,zs3,rfl,rfl,rfl,Rnumbers,by omega,trivial⟩
 clear Rnumbers bH
 rintro⟨j,g7⟩ f5 w6 ⟨bH,zs2,zs3,zs23,zs24,zs25,Rnumbers,hle_j,hinv8⟩ back8
 refine aa (a8 rfl (lx (bm (m:=↑j) (n:=(numbers.length:Int)) zs25 zs24) (ab (aa ?_))))
 by_cases p8:(j:Int)<(numbers.length:Int)
 ·
  refine ah rfl (dt p8) ?_
  have hkk:=hk _ (br (xs:=numbers) (i:=↑j) (by omega) ‹_›)
  refine aq (aa (ao (aa (a8 rfl (lx (ad (v:=numbers_v) (i:=↑j) bv rfl zs23 Rnumbers zs25 (by omega) (by omega)) (lx (az (v:=numbers_v) (i:=↑j) aj rfl Rnumbers (by omega) (by omega) (by decide) rfl) (ai (gI numbers ↑j) (ab (aa (a8 rfl (mi (gI numbers ↑j) (lx (eu (m:=(gI numbers ↑j)) (n:=3072) rfl rfl) ?_))))))))))))
  refine ab ?_
  have p10:¬(3072<(gI numbers ↑j)):=by omega
  refine ag rfl (df p10) (aq (am (a8 rfl (lx (aI (m:=↑j) (n:=1) zs25 rfl (by omega)) (mi ((j:Int)+1) (ab ?_))))))
  refine back8 (j+1,g7) _ _ ⟨bH,zs2,zs3,zs23,zs24,rfl,Rnumbers,by omega,?_⟩ ?_
  · trivial
  · show Int.toNat (((numbers.length:Int):Int)-((j+1):Int))<Int.toNat (((numbers.length:Int):Int)-(j:Int))
    omega
 refine ag rfl (df p8) (aH rfl (aa (aa (a8 rfl (mz zs2 (lx (eu (m:=n) (n:=1024) rfl rfl) (mv (vb (decide (1024<n))) ?_)))))))
 have q34:¬(1024<n):=by omega
 refine lv (vi m) (wy (df q34)) (au zs3) (lv (vb (decide (3072<m))) (wy (df q34)) (eu (m:=m) (n:=3072) rfl rfl) (lw (vb (decide (3072<m))) (aP rfl (df q34) rfl) (ab ?_)))
 have p13:¬(3072<m):=by omega
 refine ag rfl (df p13) (aq (aa (a8 rfl (ai 0 (ab (aD (vs:=[vi 0]) Try.func51 (.tmp rfl .nil) ?_))))))
 have e0:(0:Int)=(0):=by
   rfl
 exact⟨ri e0,bH.below⟩
set_option maxHeartbeats 4000000 in
theorem uW(w0:World)(n:Int)(hn:1<=n/\n<=20):
    Calls Try.prog 27 #[vi n] w0 (λee w=>∃xx:aG×Value,ee= .returned ((λ⟨δ,rv0⟩=>vt [vg [vi ((cz n).1),rv0],vi 0]) xx)/\(λ(⟨δ,rv0⟩:aG×Value) (w:World)=>eB w0 δ w/\Ow δ (is 1) (is 1) w rv0 ((cz n).2)) xx w):=by
 refine av Try.func27 rfl nq ?_
 have bH:=bn.start w0
 obtain⟨hn1,hn2⟩:=hn
 refine aa (a8 rfl (cB rfl (cr c0 (is 1) (1,0) rfl rfl ?_)))
 intro g4 w1 b3 ch2 bx5
 replace bx5:Bx g4 (is 1) w1 b3 [vi n]:=bx5
 refine lo (bP g4 (is 2) (2,0) rfl aK ?_)
 intro g9 w6 b8 ch7 bx10
 replace bx10:Bx g9 (is 2) w6 b8 [vi 0,vn]:=bx10
 refine ai 0 (ab (aa (bV g9 [0,2,3,6,8,9,11] oY ?_)))
 intro w12 ch11
 replace bx5:=(bx5.cn ch7).cn ch11
 refine xh 0 [2,3,5,6] rfl (λw' hw'=>ae aj rfl (bx5.bel hw') rfl) (xh 2 [0,1,3,5,6] rfl (λw' hw'=>ae aj rfl (bx5.bel hw') rfl) (xh 3 [2,0,1,5,6] rfl (λw' hw'=>ae aj rfl (bx5.bel hw') rfl) (xp (v:=Value.func (.func 54) #[] (List.toArray [vp b3 0])) 6 rfl (λw=>jY (vals:=[vp b3 0]) rfl) ?_)))
 refine gc 1 5 rfl rfl (by kernel_rfl) rfl rfl ?_ ?_
 ·
  refine aC (α:=Int) g9 (is 3) (is 3) (3,0) rfl ([n]:List Int) bv aj (by decide) (by decide) (vs:=[(0,vi n)]) rfl rfl (.cons rfl .nil) ?_
  intro g13 w14 v15 ch16 o17
  refine gc 4 5 rfl rfl (by kernel_rfl) rfl rfl ?_ ?_
  ·
   refine bW (v:=vi 0) (aN (vals:=[vi 1,v15,vi n,vi n]) Try.func51 il iD rfl) (iy w14 1 ([n]:List Int) v15 (o17.flat).ro n n (by exact(λk hk=>by simp only[List.mem_cons,List.not_mem_nil,or_false] at hk;rcases hk with rfl<;>omega)) (by omega) (by omega)) ?_
   intro w18 hb19
   replace hb19:=aS hb19 g13
   replace bx5:=(bx5.cn ch16).cn hb19
   refine bB 5 rfl (by kernel_rfl) rfl (aL (v:=vi n) (ae aj rfl bx5 rfl) (bB 7 rfl (by kernel_rfl) rfl (bL (aN (vals:=[vi 0,vi n,Value.func (.func 54) #[] (List.toArray [vp b3 0])]) Try.func50 ir ip rfl) (av Try.func50 rfl nq (aa (a8 rfl (cB rfl (bP g13 (is 4) (4,0) rfl aK ?_))))))))
   intro g23 w20 b22 ch21 bx24
   replace bx24:Bx g23 (is 4) w20 b22 [vi 0,vn]:=bx24
   refine ai 0 (ab (aa (aa (a8 rfl (mi 0 (lx (cK (m:=0) (n:=0) rfl rfl) (ab (ag rfl rfl (aq (aa (a8 rfl (mi n (lw (vg [vi n,vn]) (bS (vs:=[(0,vi n)]) rfl (by kernel_rfl)) ?_)))))))))))))
   refine lw (vg [vi n,vn]) (bS (vs:=[(0,vg [vi n,vn])]) rfl (by kernel_rfl)) (lo (cr g23 (is 5) (5,0) rfl rfl ?_))
   intro g28 w25 b27 ch26 bx29
   replace bx29:Bx g28 (is 5) w25 b27 [vi n,vn]:=bx29
   refine ma (vp b27 0) (ab (aa (a8 rfl (mv (Value.func (.func 54) #[] (List.toArray [vp b3 0])) (mv (vp b27 0) (lo (bL (hU (fid:=54) (vals:=[vp b27 0]) (caps:=[vp b3 0]) rfl Try.func54 od nj rfl) (av Try.func54 rfl nq (a8 rfl (mv (vp b27 0) ?_))))))))))
   replace bx5:=(bx5.cn ch21).cn ch26
   refine lx (ae aj rfl bx5 rfl) (lo (bL (aN (vals:=[vp b27 0,vi 0,vi n]) Try.func55 mR o4 rfl) (av Try.func55 rfl nq (aa (aa (a8 rfl (mi n (lx (dA (m:=n) (n:=1) rfl rfl (by omega)) (mi 0 (ab (ao ?_)))))))))))
   refine aY (σ:=Value×(List Pt)×Nat×aG) (λ⟨E_v,E,k,gq⟩ f w=>bn w0 gq w/\f 0=vp b27 0/\f 1=vi 0/\f 2=vi n/\f 8=vi (n-1)/\f 9=vi ↑k/\Bx gq (is 1) w b3 [vi n]/\Bx gq (is 2) w b8 [vi 0,vn]/\Ow gq (is 3) (is 3) w v15 ([n]:List Int)/\Bx gq (is 4) w b22 [vi 0,vn]/\Bx gq (is 5) w b27 [vi n,E_v]/\Ow gq (is 7) (is 7) w E_v E/\(k:Int)<=(n-1:Int)/\(E=lM k)) (λ⟨E_v,E,k,gq⟩=>Int.toNat ((n-1:Int)-(k:Int))) (vn,[],0,g28) ?_ ?_
   have C32:=cg [] (hb19.n.seq (ch21.n.seq ch26.n))
   have C31:=ch11.n.seq (ch16.n.seq C32)
   have C30:=ch2.n.seq (ch7.n.seq C31)
   · exact⟨bH.ca C30,rfl,rfl,rfl,rfl,rfl,bx5,bx10.ca C31,o17.ca C32,bx24.cn ch26,bx29,Ow.nil,by omega,by rfl⟩
   clear bx5 bx10 o17 bx24 bx29 bH
   rintro⟨E_v,E,k,g35⟩ f33 w34 ⟨bH,zs0_c3,zs1_c3,zs2_c3,zs8_c3,zs9_c3,bx5,bx10,o17,bx24,bx29,o_E,hle_k,hE⟩ back1_c3
   have hEl:E.length=k:=by rw[hE];exact mK
   refine aa (a8 rfl (lx (bm (m:=↑k) (n:=n-1) zs9_c3 zs8_c3) (ab (aa ?_))))
   by_cases p1_c3:(k:Int)<(n-1)
   ·
    refine ah rfl (dt p1_c3) (aq (aa (ao (aa (a8 rfl (mz zs9_c3 (ai (k:Int) (ab (a8 rfl (mz zs0_c3 (mz zs1_c3 ?_)))))))))))
    refine mi ↑k (lx (aI (m:=0) (n:=↑k) rfl rfl (by omega)) (mz zs1_c3 (mi ↑k (lx (aI (m:=0) (n:=↑k) rfl rfl (by omega)) (lx (aI (m:=0+(k:Int)) (n:=1) rfl rfl (by omega)) (lo (bL (aN (vals:=[vp b27 0,vi (0+(k:Int)),vi ((0+(k:Int))+1)]) Try.func53 fB fF rfl) (av Try.func53 rfl nq (a8 rfl ?_)))))))))
    refine mv (vp b27 0) (mv (vp b27 0) (lw (vp b27 0) (aw rfl) (lx (af my rfl rfl rfl rfl) (lx (af cW rfl rfl rfl rfl) (lx (ae bG rfl bx29 rfl) (mi (0+(k:Int)) (mi ((0+(k:Int))+1) (lw (vg [vi (0+(k:Int)),vi ((0+(k:Int))+1)]) (bS (vs:=[(0,vi (0+(k:Int))),(1,vi ((0+(k:Int))+1))]) rfl (by kernel_rfl)) (lo ?_)))))))))
    refine aC (α:=Pt) g35 (is 6) (is 6) (6,0) rfl ([(0+(k:Int),(0+(k:Int))+1)]:List Pt) dc b7 (by decide) (by decide) (vs:=[(0,vg [vi (0+(k:Int)),vi ((0+(k:Int))+1)])]) rfl rfl (.cons rfl .nil) ?_
    intro g36 w37 v38 ch39 o40
    refine lo ?_
    replace o_E:=o_E.cn ch39
    refine bf (α:=Pt) (xs:=E) (ys:=([(0+(k:Int),(0+(k:Int))+1)]:List Pt)) g36 (J:=is 7) (S:=is 7) (7,0) rfl dc b7 (by decide) rfl rfl rfl o_E o40.flat (by decide) (by(simp;omega)) ?_
    intro g41 w42 v43 ch44 o45
    clear o_E
    refine lw (vp b27 0) (aw rfl) (lx (af my rfl rfl rfl rfl) (lx (af cW rfl rfl rfl rfl) (lo ?_)))
    replace bx29:=(bx29.cn ch39).ce ch44
    refine c8 (cs':=[vi n,v43]) bG rfl rfl bx29 (c5 o45.flat) nq (bK o45.flat) rfl ?_
    intro w46 ch47 bx48
    clear bx29
    refine ab (cM (vs:=[]) Try.func53 .nil ?_)
    refine⟨vt [],rfl,?_⟩
    refine ab (am ?_)
    clear o40
    refine a8 rfl (lx (aI (m:=↑k) (n:=1) zs9_c3 rfl (by omega)) (mi ((k:Int)+1) (ab ?_)))
    have C49:=cg [5,7] (ch39.n.seq ((ch44.l rfl).seq (ch47.l rfl)))
    refine back1_c3 (v43,(E++([(0+(k:Int),(0+(k:Int))+1)]:List Pt)),k+1,g41) _ _ ⟨bH.ca C49,zs0_c3,zs1_c3,zs2_c3,zs8_c3,rfl,bx5.ca C49,bx10.ca C49,o17.ca C49,bx24.ca C49,bx48,o45.ce ch47,by omega,?_⟩ ?_
    · show(E++([(0+(k:Int),(0+(k:Int))+1)]:List Pt))=lM (k+1)
      (simp only[Int.zero_add];exact ly hE)
    · show Int.toNat ((n-1:Int)-((k+1):Int))<Int.toNat ((n-1:Int)-(k:Int))
      omega
   refine ag rfl (df p1_c3) (aH rfl (a8 rfl (mz zs0_c3 (mz zs1_c3 (mz zs2_c3 (lx (aI (m:=0) (n:=n) rfl rfl (by omega)) (lx (dA (m:=0+n) (n:=1) rfl rfl (by omega)) (mz zs1_c3 (lo ?_)))))))))
   refine bL (aN (vals:=[vp b27 0,vi ((0+n)-1),vi 0]) Try.func53 fB fF rfl) (av Try.func53 rfl nq (a8 rfl (mv (vp b27 0) (mv (vp b27 0) (lw (vp b27 0) (aw rfl) (lx (af my rfl rfl rfl rfl) (lx (af cW rfl rfl rfl rfl) (lx (ae bG rfl bx29 rfl) (mi ((0+n)-1) ?_)))))))))
   refine mi 0 (lw (vg [vi ((0+n)-1),vi 0]) (bS (vs:=[(0,vi ((0+n)-1)),(1,vi 0)]) rfl (by kernel_rfl)) (lo (aC (α:=Pt) g35 (is 8) (is 8) (8,0) rfl ([((0+n)-1,0)]:List Pt) dc b7 (by decide) (by decide) (vs:=[(0,vg [vi ((0+n)-1),vi 0])]) rfl rfl (.cons rfl .nil) ?_)))
   intro g50 w51 v52 ch53 o54
   refine lo ?_
   replace o_E:=o_E.cn ch53
   refine bf (α:=Pt) (xs:=E) (ys:=([((0+n)-1,0)]:List Pt)) g50 (J:=is 7) (S:=is 7) (7,0) rfl dc b7 (by decide) rfl rfl rfl o_E o54.flat (by decide) (by(simp;omega)) ?_
   intro g55 w56 v57 ch58 o59
   clear o_E
   refine lw (vp b27 0) (aw rfl) (lx (af my rfl rfl rfl rfl) (lx (af cW rfl rfl rfl rfl) (lo ?_)))
   replace bx29:=(bx29.cn ch53).ce ch58
   refine c8 (cs':=[vi n,v57]) bG rfl rfl bx29 (c5 o59.flat) nq (bK o59.flat) rfl ?_
   intro w60 ch61 bx62
   clear bx29
   refine ab (cM (vs:=[]) Try.func53 .nil ?_)
   refine⟨vt [],rfl,?_⟩
   refine ab (cM (vs:=[]) Try.func55 .nil ?_)
   refine⟨vt [],rfl,?_⟩
   refine ab (cM (vs:=[]) Try.func54 .nil ?_)
   refine⟨vt [],rfl,?_⟩
   refine ab (aa ?_)
   clear o54
   refine a8 rfl (mv (vp b27 0) (lw (vp b27 0) (aw rfl) (lx (af my rfl rfl rfl rfl) (lx (aB (ds:=[vi n,v57]) aK rfl bx62 rfl rfl) (lo ?_)))))
   have C66:=cg [5,7] (ch53.n.seq ((ch58.l rfl).seq (ch61.l rfl)))
   replace bx24:=bx24.ca C66
   replace o59:=o59.ce ch61
   refine aT (cs':=[vi n,v57]) aK rfl rfl bx24 rfl nq (AllOne.all (.cons rfl (.cons (bK o59.flat) .nil))) rfl ?_
   intro w63 ch64 bx65
   clear bx24
   refine ai 0 (ab (aD (vs:=[vg [vi n,v57],vi 0]) Try.func50 (.cell rfl (cF (ds:=[vi n,v57]) aK bx65 rfl rfl) (.tmp rfl .nil)) ?_))
   refine⟨vt [vg [vi n,v57],vi 0],rfl,?_⟩
   refine xp 8 rfl (λw=>aJ rfl rfl) (xp 9 rfl (λw=>aJ rfl rfl) (bB 10 rfl (by kernel_rfl) rfl ?_))
   have C70:=cg [4,5,7] (ch53.n.seq ((ch58.l rfl).seq ((ch61.l rfl).seq (ch64.l rfl))))
   replace bx10:=bx10.ca C70
   replace o59:=o59.ce ch64
   refine aT (cs':=[vi n,v57]) aK rfl rfl bx10 rfl nq (AllOne.all (.cons rfl (.cons (bK o59.flat) .nil))) rfl ?_
   intro w67 ch68 bx69
   clear bx10
   refine xp (v:=vi 0) 11 rfl (λw=>cE rfl) (cA (by kernel_rfl) (aD (vs:=[vg [vi n,v57],vi 0]) Try.func27 (.cell rfl (cF (ds:=[vi n,v57]) aK bx69 rfl rfl) (.tmp rfl .nil)) ?_))
   have C71:=cg [2,4,5,7] (ch53.n.seq ((ch58.l rfl).seq ((ch61.l rfl).seq ((ch64.l rfl).seq (ch68.l rfl)))))
   replace bH:=bH.ca C71
   replace o59:=o59.ce ch68
   have e0:((n,(E++([((0+n)-1,0)]:List Pt))):(Int)×(List Pt))=(cz n):=by
     (have hz:=nO hE (by omega) (by omega);simp only[Int.zero_add];exact hz)
   have e1:(0:Int)=(0):=by
     rfl
   exact⟨(fin w0 g55 (λn=>if n=7 then 1 else 0),v57),(cT (a:=(n,(E++([((0+n)-1,0)]:List Pt)))) (b:=0) (λ(z0:(Int)×(List Pt)) (z1:Int)=>Ending.returned (vt [vg [vi z0.1,v57],vi z1])) e0 e1),bH.fresh _,((congrArg (λ(z:(Int)×(List Pt))=>z.2) e0)▸(o59.glue (γ:=c0) (ren:=(λn=>if n=7 then 1 else 0)) (k:=1) bH.col rfl rfl))⟩
  ·
   replace bx5:=bx5.cn ch16
   refine aL (v:=vi n) (ae aj rfl bx5 rfl) (bB 4 rfl (by kernel_rfl) rfl (bW (v:=vi 0) (aN (vals:=[vi 1,v15,vi n,vi n]) Try.func51 il iD rfl) (iy w14 1 ([n]:List Int) v15 (o17.flat).ro n n (by exact(λk hk=>by simp only[List.mem_cons,List.not_mem_nil,or_false] at hk;rcases hk with rfl<;>omega)) (by omega) (by omega)) ?_))
   intro w72 hb73
   replace hb73:=aS hb73 g13
   refine bB 7 rfl (by kernel_rfl) rfl (bL (aN (vals:=[vi 0,vi n,Value.func (.func 54) #[] (List.toArray [vp b3 0])]) Try.func50 ir ip rfl) (av Try.func50 rfl nq (aa (a8 rfl (cB rfl (bP g13 (is 9) (9,0) rfl aK ?_))))))
   intro g77 w74 b76 ch75 bx78
   replace bx78:Bx g77 (is 9) w74 b76 [vi 0,vn]:=bx78
   refine ai 0 (ab (aa (aa (a8 rfl (mi 0 (lx (cK (m:=0) (n:=0) rfl rfl) (ab (ag rfl rfl (aq (aa (a8 rfl (mi n (lw (vg [vi n,vn]) (bS (vs:=[(0,vi n)]) rfl (by kernel_rfl)) ?_)))))))))))))
   refine lw (vg [vi n,vn]) (bS (vs:=[(0,vg [vi n,vn])]) rfl (by kernel_rfl)) (lo (cr g77 (is 10) (10,0) rfl rfl ?_))
   intro g82 w79 b81 ch80 bx83
   replace bx83:Bx g82 (is 10) w79 b81 [vi n,vn]:=bx83
   refine ma (vp b81 0) (ab (aa (a8 rfl (mv (Value.func (.func 54) #[] (List.toArray [vp b3 0])) (mv (vp b81 0) (lo (bL (hU (fid:=54) (vals:=[vp b81 0]) (caps:=[vp b3 0]) rfl Try.func54 od nj rfl) (av Try.func54 rfl nq (a8 rfl (mv (vp b81 0) ?_))))))))))
   have C84:=cg [] (hb73.n.seq (ch75.n.seq ch80.n))
   replace bx5:=bx5.ca C84
   refine lx (ae aj rfl bx5 rfl) (lo (bL (aN (vals:=[vp b81 0,vi 0,vi n]) Try.func55 mR o4 rfl) (av Try.func55 rfl nq (aa (aa (a8 rfl (mi n (lx (dA (m:=n) (n:=1) rfl rfl (by omega)) (mi 0 (ab (ao ?_)))))))))))
   refine aY (σ:=Value×(List Pt)×Nat×aG) (λ⟨E_v,E,k,gq⟩ f w=>bn w0 gq w/\f 0=vp b81 0/\f 1=vi 0/\f 2=vi n/\f 8=vi (n-1)/\f 9=vi ↑k/\Bx gq (is 1) w b3 [vi n]/\Bx gq (is 2) w b8 [vi 0,vn]/\Ow gq (is 3) (is 3) w v15 ([n]:List Int)/\Bx gq (is 9) w b76 [vi 0,vn]/\Bx gq (is 10) w b81 [vi n,E_v]/\Ow gq (is 7) (is 7) w E_v E/\(k:Int)<=(n-1:Int)/\(E=lM k)) (λ⟨E_v,E,k,gq⟩=>Int.toNat ((n-1:Int)-(k:Int))) (vn,[],0,g82) ?_ ?_
   have C86:=cg [] (ch11.n.seq (ch16.n.seq (hb73.n.seq (ch75.n.seq ch80.n))))
   have C85:=ch2.n.seq (ch7.n.seq C86)
   · exact⟨bH.ca C85,rfl,rfl,rfl,rfl,rfl,bx5,bx10.ca C86,o17.ca C84,bx78.cn ch80,bx83,Ow.nil,by omega,by rfl⟩
   clear bx5 bx10 o17 bx78 bx83 bH
   rintro⟨E_v,E,k,g89⟩ f87 w88 ⟨bH,zs0_c8,zs1_c8,zs2_c8,zs8_c8,zs9_c8,bx5,bx10,o17,bx78,bx83,o_E,hle_k,hE⟩ back1_c8
   have hEl:E.length=k:=by rw[hE];exact mK
   refine aa (a8 rfl (lx (bm (m:=↑k) (n:=n-1) zs9_c8 zs8_c8) (ab (aa ?_))))
   by_cases p1_c8:(k:Int)<(n-1)
   ·
    refine ah rfl (dt p1_c8) (aq (aa (ao (aa (a8 rfl (mz zs9_c8 (ai (k:Int) (ab (a8 rfl (mz zs0_c8 (mz zs1_c8 ?_)))))))))))
    refine mi ↑k (lx (aI (m:=0) (n:=↑k) rfl rfl (by omega)) (mz zs1_c8 (mi ↑k (lx (aI (m:=0) (n:=↑k) rfl rfl (by omega)) (lx (aI (m:=0+(k:Int)) (n:=1) rfl rfl (by omega)) (lo (bL (aN (vals:=[vp b81 0,vi (0+(k:Int)),vi ((0+(k:Int))+1)]) Try.func53 fB fF rfl) (av Try.func53 rfl nq (a8 rfl ?_)))))))))
    refine mv (vp b81 0) (mv (vp b81 0) (lw (vp b81 0) (aw rfl) (lx (af my rfl rfl rfl rfl) (lx (af cW rfl rfl rfl rfl) (lx (ae bG rfl bx83 rfl) (mi (0+(k:Int)) (mi ((0+(k:Int))+1) (lw (vg [vi (0+(k:Int)),vi ((0+(k:Int))+1)]) (bS (vs:=[(0,vi (0+(k:Int))),(1,vi ((0+(k:Int))+1))]) rfl (by kernel_rfl)) (lo ?_)))))))))
    refine aC (α:=Pt) g89 (is 11) (is 11) (11,0) rfl ([(0+(k:Int),(0+(k:Int))+1)]:List Pt) dc b7 (by decide) (by decide) (vs:=[(0,vg [vi (0+(k:Int)),vi ((0+(k:Int))+1)])]) rfl rfl (.cons rfl .nil) ?_
    intro g90 w91 v92 ch93 o94
    refine lo ?_
    replace o_E:=o_E.cn ch93
    refine bf (α:=Pt) (xs:=E) (ys:=([(0+(k:Int),(0+(k:Int))+1)]:List Pt)) g90 (J:=is 7) (S:=is 7) (7,0) rfl dc b7 (by decide) rfl rfl rfl o_E o94.flat (by decide) (by(simp;omega)) ?_
    intro g95 w96 v97 ch98 o99
    clear o_E
    refine lw (vp b81 0) (aw rfl) (lx (af my rfl rfl rfl rfl) (lx (af cW rfl rfl rfl rfl) (lo ?_)))
    replace bx83:=(bx83.cn ch93).ce ch98
    refine c8 (cs':=[vi n,v97]) bG rfl rfl bx83 (c5 o99.flat) nq (bK o99.flat) rfl ?_
    intro w100 ch101 bx102
    clear bx83
    refine ab (cM (vs:=[]) Try.func53 .nil ?_)
    refine⟨vt [],rfl,?_⟩
    refine ab (am ?_)
    clear o94
    refine a8 rfl (lx (aI (m:=↑k) (n:=1) zs9_c8 rfl (by omega)) (mi ((k:Int)+1) (ab ?_)))
    have C103:=cg [7,10] (ch93.n.seq ((ch98.l rfl).seq (ch101.l rfl)))
    refine back1_c8 (v97,(E++([(0+(k:Int),(0+(k:Int))+1)]:List Pt)),k+1,g95) _ _ ⟨bH.ca C103,zs0_c8,zs1_c8,zs2_c8,zs8_c8,rfl,bx5.ca C103,bx10.ca C103,o17.ca C103,bx78.ca C103,bx102,o99.ce ch101,by omega,?_⟩ ?_
    · show(E++([(0+(k:Int),(0+(k:Int))+1)]:List Pt))=lM (k+1)
      (simp only[Int.zero_add];exact ly hE)
    · show Int.toNat ((n-1:Int)-((k+1):Int))<Int.toNat ((n-1:Int)-(k:Int))
      omega
   refine ag rfl (df p1_c8) (aH rfl (a8 rfl (mz zs0_c8 (mz zs1_c8 (mz zs2_c8 (lx (aI (m:=0) (n:=n) rfl rfl (by omega)) (lx (dA (m:=0+n) (n:=1) rfl rfl (by omega)) (mz zs1_c8 (lo ?_)))))))))
   refine bL (aN (vals:=[vp b81 0,vi ((0+n)-1),vi 0]) Try.func53 fB fF rfl) (av Try.func53 rfl nq (a8 rfl (mv (vp b81 0) (mv (vp b81 0) (lw (vp b81 0) (aw rfl) (lx (af my rfl rfl rfl rfl) (lx (af cW rfl rfl rfl rfl) (lx (ae bG rfl bx83 rfl) (mi ((0+n)-1) ?_)))))))))
   refine mi 0 (lw (vg [vi ((0+n)-1),vi 0]) (bS (vs:=[(0,vi ((0+n)-1)),(1,vi 0)]) rfl (by kernel_rfl)) (lo (aC (α:=Pt) g89 (is 12) (is 12) (12,0) rfl ([((0+n)-1,0)]:List Pt) dc b7 (by decide) (by decide) (vs:=[(0,vg [vi ((0+n)-1),vi 0])]) rfl rfl (.cons rfl .nil) ?_)))
   intro g104 w105 v106 ch107 o108
   refine lo ?_
   replace o_E:=o_E.cn ch107
   refine bf (α:=Pt) (xs:=E) (ys:=([((0+n)-1,0)]:List Pt)) g104 (J:=is 7) (S:=is 7) (7,0) rfl dc b7 (by decide) rfl rfl rfl o_E o108.flat (by decide) (by(simp;omega)) ?_
   intro g109 w110 v111 ch112 o113
   clear o_E
   refine lw (vp b81 0) (aw rfl) (lx (af my rfl rfl rfl rfl) (lx (af cW rfl rfl rfl rfl) (lo ?_)))
   replace bx83:=(bx83.cn ch107).ce ch112
   refine c8 (cs':=[vi n,v111]) bG rfl rfl bx83 (c5 o113.flat) nq (bK o113.flat) rfl ?_
   intro w114 ch115 bx116
   clear bx83
   refine ab (cM (vs:=[]) Try.func53 .nil ?_)
   refine⟨vt [],rfl,?_⟩
   refine ab (cM (vs:=[]) Try.func55 .nil ?_)
   refine⟨vt [],rfl,?_⟩
   refine ab (cM (vs:=[]) Try.func54 .nil ?_)
   refine⟨vt [],rfl,?_⟩
   refine ab (aa ?_)
   clear o108
   refine a8 rfl (mv (vp b81 0) (lw (vp b81 0) (aw rfl) (lx (af my rfl rfl rfl rfl) (lx (aB (ds:=[vi n,v111]) aK rfl bx116 rfl rfl) (lo ?_)))))
   have C120:=cg [7,10] (ch107.n.seq ((ch112.l rfl).seq (ch115.l rfl)))
   replace bx78:=bx78.ca C120
   replace o113:=o113.ce ch115
   refine aT (cs':=[vi n,v111]) aK rfl rfl bx78 rfl nq (AllOne.all (.cons rfl (.cons (bK o113.flat) .nil))) rfl ?_
   intro w117 ch118 bx119
   clear bx78
   refine ai 0 (ab (aD (vs:=[vg [vi n,v111],vi 0]) Try.func50 (.cell rfl (cF (ds:=[vi n,v111]) aK bx119 rfl rfl) (.tmp rfl .nil)) ?_))
   refine⟨vt [vg [vi n,v111],vi 0],rfl,?_⟩
   refine xp 8 rfl (λw=>aJ rfl rfl) (xp 9 rfl (λw=>aJ rfl rfl) (bB 10 rfl (by kernel_rfl) rfl ?_))
   have C124:=cg [7,9,10] (ch107.n.seq ((ch112.l rfl).seq ((ch115.l rfl).seq (ch118.l rfl))))
   replace bx10:=bx10.ca C124
   replace o113:=o113.ce ch118
   refine aT (cs':=[vi n,v111]) aK rfl rfl bx10 rfl nq (AllOne.all (.cons rfl (.cons (bK o113.flat) .nil))) rfl ?_
   intro w121 ch122 bx123
   clear bx10
   refine xp (v:=vi 0) 11 rfl (λw=>cE rfl) (cA (by kernel_rfl) (aD (vs:=[vg [vi n,v111],vi 0]) Try.func27 (.cell rfl (cF (ds:=[vi n,v111]) aK bx123 rfl rfl) (.tmp rfl .nil)) ?_))
   have C125:=cg [2,7,9,10] (ch107.n.seq ((ch112.l rfl).seq ((ch115.l rfl).seq ((ch118.l rfl).seq (ch122.l rfl)))))
   replace bH:=bH.ca C125
   replace o113:=o113.ce ch122
   have e0:((n,(E++([((0+n)-1,0)]:List Pt))):(Int)×(List Pt))=(cz n):=by
     (have hz:=nO hE (by omega) (by omega);simp only[Int.zero_add];exact hz)
   have e1:(0:Int)=(0):=by
     rfl
   exact⟨(fin w0 g109 (λn=>if n=7 then 1 else 0),v111),(cT (a:=(n,(E++([((0+n)-1,0)]:List Pt)))) (b:=0) (λ(z0:(Int)×(List Pt)) (z1:Int)=>Ending.returned (vt [vg [vi z0.1,v111],vi z1])) e0 e1),bH.fresh _,((congrArg (λ(z:(Int)×(List Pt))=>z.2) e0)▸(o113.glue (γ:=c0) (ren:=(λn=>if n=7 then 1 else 0)) (k:=1) bH.col rfl rfl))⟩
 ·
  refine aL (v:=vi n) (ae aj rfl bx5 rfl) (bB 1 rfl (by kernel_rfl) rfl (aC (α:=Int) g9 (is 3) (is 3) (3,0) rfl ([n]:List Int) bv aj (by decide) (by decide) (vs:=[(0,vi n)]) rfl rfl (.cons rfl .nil) ?_))
  intro g126 w127 v128 ch129 o130
  refine bB 4 rfl (by kernel_rfl) rfl (bW (v:=vi 0) (aN (vals:=[vi 1,v128,vi n,vi n]) Try.func51 il iD rfl) (iy w127 1 ([n]:List Int) v128 (o130.flat).ro n n (by exact(λk hk=>by simp only[List.mem_cons,List.not_mem_nil,or_false] at hk;rcases hk with rfl<;>omega)) (by omega) (by omega)) ?_)
  intro w131 hb132
  replace hb132:=aS hb132 g126
  refine bB 7 rfl (by kernel_rfl) rfl (bL (aN (vals:=[vi 0,vi n,Value.func (.func 54) #[] (List.toArray [vp b3 0])]) Try.func50 ir ip rfl) (av Try.func50 rfl nq (aa (a8 rfl (cB rfl (bP g126 (is 13) (13,0) rfl aK ?_))))))
  intro g136 w133 b135 ch134 bx137
  replace bx137:Bx g136 (is 13) w133 b135 [vi 0,vn]:=bx137
  refine ai 0 (ab (aa (aa (a8 rfl (mi 0 (lx (cK (m:=0) (n:=0) rfl rfl) (ab (ag rfl rfl (aq (aa (a8 rfl (mi n (lw (vg [vi n,vn]) (bS (vs:=[(0,vi n)]) rfl (by kernel_rfl)) ?_)))))))))))))
  refine lw (vg [vi n,vn]) (bS (vs:=[(0,vg [vi n,vn])]) rfl (by kernel_rfl)) (lo (cr g136 (is 14) (14,0) rfl rfl ?_))
  intro g141 w138 b140 ch139 bx142
  replace bx142:Bx g141 (is 14) w138 b140 [vi n,vn]:=bx142
  refine ma (vp b140 0) (ab (aa (a8 rfl (mv (Value.func (.func 54) #[] (List.toArray [vp b3 0])) (mv (vp b140 0) (lo (bL (hU (fid:=54) (vals:=[vp b140 0]) (caps:=[vp b3 0]) rfl Try.func54 od nj rfl) (av Try.func54 rfl nq (a8 rfl (mv (vp b140 0) ?_))))))))))
  have C143:=cg [] (ch129.n.seq (hb132.n.seq (ch134.n.seq ch139.n)))
  replace bx5:=bx5.ca C143
  refine lx (ae aj rfl bx5 rfl) (lo (bL (aN (vals:=[vp b140 0,vi 0,vi n]) Try.func55 mR o4 rfl) (av Try.func55 rfl nq (aa (aa (a8 rfl (mi n (lx (dA (m:=n) (n:=1) rfl rfl (by omega)) (mi 0 (ab (ao ?_)))))))))))
  refine aY (σ:=Value×(List Pt)×Nat×aG) (λ⟨E_v,E,k,gq⟩ f w=>bn w0 gq w/\f 0=vp b140 0/\f 1=vi 0/\f 2=vi n/\f 8=vi (n-1)/\f 9=vi ↑k/\Bx gq (is 1) w b3 [vi n]/\Bx gq (is 2) w b8 [vi 0,vn]/\Ow gq (is 3) (is 3) w v128 ([n]:List Int)/\Bx gq (is 13) w b135 [vi 0,vn]/\Bx gq (is 14) w b140 [vi n,E_v]/\Ow gq (is 7) (is 7) w E_v E/\(k:Int)<=(n-1:Int)/\(E=lM k)) (λ⟨E_v,E,k,gq⟩=>Int.toNat ((n-1:Int)-(k:Int))) (vn,[],0,g141) ?_ ?_
  have C146:=cg [] (hb132.n.seq (ch134.n.seq ch139.n))
  have C145:=ch11.n.seq (ch129.n.seq C146)
  have C144:=ch2.n.seq (ch7.n.seq C145)
  · exact⟨bH.ca C144,rfl,rfl,rfl,rfl,rfl,bx5,bx10.ca C145,o130.ca C146,bx137.cn ch139,bx142,Ow.nil,by omega,by rfl⟩
  clear bx5 bx10 o130 bx137 bx142 bH
  rintro⟨E_v,E,k,g149⟩ f147 w148 ⟨bH,zs0_c13,zs1_c13,zs2_c13,zs8_c13,zs9_c13,bx5,bx10,o130,bx137,bx142,o_E,hle_k,hE⟩ back1_c13
  have hEl:E.length=k:=by rw[hE];exact mK
  refine aa (a8 rfl (lx (bm (m:=↑k) (n:=n-1) zs9_c13 zs8_c13) (ab (aa ?_))))
  by_cases p1_c13:(k:Int)<(n-1)
  ·
   refine ah rfl (dt p1_c13) (aq (aa (ao (aa (a8 rfl (mz zs9_c13 (ai (k:Int) (ab (a8 rfl (mz zs0_c13 (mz zs1_c13 ?_)))))))))))
   refine mi ↑k (lx (aI (m:=0) (n:=↑k) rfl rfl (by omega)) (mz zs1_c13 (mi ↑k (lx (aI (m:=0) (n:=↑k) rfl rfl (by omega)) (lx (aI (m:=0+(k:Int)) (n:=1) rfl rfl (by omega)) (lo (bL (aN (vals:=[vp b140 0,vi (0+(k:Int)),vi ((0+(k:Int))+1)]) Try.func53 fB fF rfl) (av Try.func53 rfl nq (a8 rfl ?_)))))))))
   refine mv (vp b140 0) (mv (vp b140 0) (lw (vp b140 0) (aw rfl) (lx (af my rfl rfl rfl rfl) (lx (af cW rfl rfl rfl rfl) (lx (ae bG rfl bx142 rfl) (mi (0+(k:Int)) (mi ((0+(k:Int))+1) (lw (vg [vi (0+(k:Int)),vi ((0+(k:Int))+1)]) (bS (vs:=[(0,vi (0+(k:Int))),(1,vi ((0+(k:Int))+1))]) rfl (by kernel_rfl)) (lo ?_)))))))))
   refine aC (α:=Pt) g149 (is 15) (is 15) (15,0) rfl ([(0+(k:Int),(0+(k:Int))+1)]:List Pt) dc b7 (by decide) (by decide) (vs:=[(0,vg [vi (0+(k:Int)),vi ((0+(k:Int))+1)])]) rfl rfl (.cons rfl .nil) ?_
   intro g150 w151 v152 ch153 o154
   refine lo ?_
   replace o_E:=o_E.cn ch153
   refine bf (α:=Pt) (xs:=E) (ys:=([(0+(k:Int),(0+(k:Int))+1)]:List Pt)) g150 (J:=is 7) (S:=is 7) (7,0) rfl dc b7 (by decide) rfl rfl rfl o_E o154.flat (by decide) (by(simp;omega)) ?_
   intro g155 w156 v157 ch158 o159
   clear o_E
   refine lw (vp b140 0) (aw rfl) (lx (af my rfl rfl rfl rfl) (lx (af cW rfl rfl rfl rfl) (lo ?_)))
   replace bx142:=(bx142.cn ch153).ce ch158
   refine c8 (cs':=[vi n,v157]) bG rfl rfl bx142 (c5 o159.flat) nq (bK o159.flat) rfl ?_
   intro w160 ch161 bx162
   clear bx142
   refine ab (cM (vs:=[]) Try.func53 .nil ?_)
   refine⟨vt [],rfl,?_⟩
   refine ab (am ?_)
   clear o154
   refine a8 rfl (lx (aI (m:=↑k) (n:=1) zs9_c13 rfl (by omega)) (mi ((k:Int)+1) (ab ?_)))
   have C163:=cg [7,14] (ch153.n.seq ((ch158.l rfl).seq (ch161.l rfl)))
   refine back1_c13 (v157,(E++([(0+(k:Int),(0+(k:Int))+1)]:List Pt)),k+1,g155) _ _ ⟨bH.ca C163,zs0_c13,zs1_c13,zs2_c13,zs8_c13,rfl,bx5.ca C163,bx10.ca C163,o130.ca C163,bx137.ca C163,bx162,o159.ce ch161,by omega,?_⟩ ?_
   · show(E++([(0+(k:Int),(0+(k:Int))+1)]:List Pt))=lM (k+1)
     (simp only[Int.zero_add];exact ly hE)
   · show Int.toNat ((n-1:Int)-((k+1):Int))<Int.toNat ((n-1:Int)-(k:Int))
     omega
  refine ag rfl (df p1_c13) (aH rfl (a8 rfl (mz zs0_c13 (mz zs1_c13 (mz zs2_c13 (lx (aI (m:=0) (n:=n) rfl rfl (by omega)) (lx (dA (m:=0+n) (n:=1) rfl rfl (by omega)) (mz zs1_c13 (lo ?_)))))))))
  refine bL (aN (vals:=[vp b140 0,vi ((0+n)-1),vi 0]) Try.func53 fB fF rfl) (av Try.func53 rfl nq (a8 rfl (mv (vp b140 0) (mv (vp b140 0) (lw (vp b140 0) (aw rfl) (lx (af my rfl rfl rfl rfl) (lx (af cW rfl rfl rfl rfl) (lx (ae bG rfl bx142 rfl) (mi ((0+n)-1) ?_)))))))))
  refine mi 0 (lw (vg [vi ((0+n)-1),vi 0]) (bS (vs:=[(0,vi ((0+n)-1)),(1,vi 0)]) rfl (by kernel_rfl)) (lo (aC (α:=Pt) g149 (is 16) (is 16) (16,0) rfl ([((0+n)-1,0)]:List Pt) dc b7 (by decide) (by decide) (vs:=[(0,vg [vi ((0+n)-1),vi 0])]) rfl rfl (.cons rfl .nil) ?_)))
  intro g164 w165 v166 ch167 o168
  refine lo ?_
  replace o_E:=o_E.cn ch167
  refine bf (α:=Pt) (xs:=E) (ys:=([((0+n)-1,0)]:List Pt)) g164 (J:=is 7) (S:=is 7) (7,0) rfl dc b7 (by decide) rfl rfl rfl o_E o168.flat (by decide) (by(simp;omega)) ?_
  intro g169 w170 v171 ch172 o173
  clear o_E
  refine lw (vp b140 0) (aw rfl) (lx (af my rfl rfl rfl rfl) (lx (af cW rfl rfl rfl rfl) (lo ?_)))
  replace bx142:=(bx142.cn ch167).ce ch172
  refine c8 (cs':=[vi n,v171]) bG rfl rfl bx142 (c5 o173.flat) nq (bK o173.flat) rfl ?_
  intro w174 ch175 bx176
  clear bx142
  refine ab (cM (vs:=[]) Try.func53 .nil ?_)
  refine⟨vt [],rfl,?_⟩
  refine ab (cM (vs:=[]) Try.func55 .nil ?_)
  refine⟨vt [],rfl,?_⟩
  refine ab (cM (vs:=[]) Try.func54 .nil ?_)
  refine⟨vt [],rfl,?_⟩
  refine ab (aa ?_)
  clear o168
  refine a8 rfl (mv (vp b140 0) (lw (vp b140 0) (aw rfl) (lx (af my rfl rfl rfl rfl) (lx (aB (ds:=[vi n,v171]) aK rfl bx176 rfl rfl) (lo ?_)))))
  have C180:=cg [7,14] (ch167.n.seq ((ch172.l rfl).seq (ch175.l rfl)))
  replace bx137:=bx137.ca C180
  replace o173:=o173.ce ch175
  refine aT (cs':=[vi n,v171]) aK rfl rfl bx137 rfl nq (AllOne.all (.cons rfl (.cons (bK o173.flat) .nil))) rfl ?_
  intro w177 ch178 bx179
  clear bx137
  refine ai 0 (ab (aD (vs:=[vg [vi n,v171],vi 0]) Try.func50 (.cell rfl (cF (ds:=[vi n,v171]) aK bx179 rfl rfl) (.tmp rfl .nil)) ?_))
  refine⟨vt [vg [vi n,v171],vi 0],rfl,?_⟩
  refine xp 8 rfl (λw=>aJ rfl rfl) (xp 9 rfl (λw=>aJ rfl rfl) (bB 10 rfl (by kernel_rfl) rfl ?_))
  have C184:=cg [7,13,14] (ch167.n.seq ((ch172.l rfl).seq ((ch175.l rfl).seq (ch178.l rfl))))
  replace bx10:=bx10.ca C184
  replace o173:=o173.ce ch178
  refine aT (cs':=[vi n,v171]) aK rfl rfl bx10 rfl nq (AllOne.all (.cons rfl (.cons (bK o173.flat) .nil))) rfl ?_
  intro w181 ch182 bx183
  clear bx10
  refine xp (v:=vi 0) 11 rfl (λw=>cE rfl) (cA (by kernel_rfl) (aD (vs:=[vg [vi n,v171],vi 0]) Try.func27 (.cell rfl (cF (ds:=[vi n,v171]) aK bx183 rfl rfl) (.tmp rfl .nil)) ?_))
  have C185:=cg [2,7,13,14] (ch167.n.seq ((ch172.l rfl).seq ((ch175.l rfl).seq ((ch178.l rfl).seq (ch182.l rfl)))))
  replace bH:=bH.ca C185
  replace o173:=o173.ce ch182
  have e0:((n,(E++([((0+n)-1,0)]:List Pt))):(Int)×(List Pt))=(cz n):=by
    (have hz:=nO hE (by omega) (by omega);simp only[Int.zero_add];exact hz)
  have e1:(0:Int)=(0):=by
    rfl
  exact⟨(fin w0 g169 (λn=>if n=7 then 1 else 0),v171),(cT (a:=(n,(E++([((0+n)-1,0)]:List Pt)))) (b:=0) (λ(z0:(Int)×(List Pt)) (z1:Int)=>Ending.returned (vt [vg [vi z0.1,v171],vi z1])) e0 e1),bH.fresh _,((congrArg (λ(z:(Int)×(List Pt))=>z.2) e0)▸(o173.glue (γ:=c0) (ren:=(λn=>if n=7 then 1 else 0)) (k:=1) bH.col rfl rfl))⟩
set_option maxHeartbeats 4000000 in
theorem qg(w0:World)(n:Int)(hn:1<=n/\n<=20):
    Calls Try.prog 26 #[vi n] w0 (λee w=>∃xx:aG×Value,ee= .returned ((λ⟨δ,rv0⟩=>vt [vg [vi ((fk n).1),rv0],vi 0]) xx)/\(λ(⟨δ,rv0⟩:aG×Value) (w:World)=>eB w0 δ w/\Ow δ (is 1) (is 1) w rv0 ((fk n).2)) xx w):=by
 refine av Try.func26 rfl nq ?_
 have bH:=bn.start w0
 obtain⟨hn1,hn2⟩:=hn
 obtain⟨hnm0,hnm1⟩:=CS hn1 hn2
 refine aa (a8 rfl (cB rfl (cr c0 (is 1) (1,0) rfl rfl ?_)))
 intro g4 w1 b3 ch2 bx5
 replace bx5:Bx g4 (is 1) w1 b3 [vi n]:=bx5
 refine lo (bP g4 (is 2) (2,0) rfl aK ?_)
 intro g9 w6 b8 ch7 bx10
 replace bx10:Bx g9 (is 2) w6 b8 [vi 0,vn]:=bx10
 refine ai 0 (ab (aa (a8 rfl (ai 0 (ab (aa (aa (a8 rfl ?_))))))))
 replace bx5:=bx5.cn ch7
 refine lx (ae aj rfl bx5 rfl) (lx (qL (m:=n) (n:=3072) rfl rfl) (ab ?_))
 have p2:n<=3072:=by omega
 refine ah rfl (dt p2) (a8 rfl (lx (ae aj rfl bx5 rfl) (lx (ae aj rfl bx5 rfl) (lx (dA (m:=n) (n:=1) rfl rfl (by omega)) (lx (mc (m:=n) (n:=n-1) rfl rfl (by omega)) (lx (gS (m:=n*(n-1)) (n:=2) rfl rfl (by omega) (by omega) (by omega)) (ai ((n*(n-1))/2) (ab (aa (bV g9 [0,2,3,6,8,9,11] oY ?_))))))))))
 intro w12 ch11
 replace bx5:=bx5.cn ch11
 refine xh 0 [2,3,5,6] rfl (λw' hw'=>ae aj rfl (bx5.bel hw') rfl) (xh 2 [0,1,3,5,6] rfl (λw' hw'=>ae aj rfl (bx5.bel hw') rfl) (xp (v:=vi ((n*(n-1))/2)) 3 rfl (λw=>au rfl) (xp (v:=Value.func (.func 52) #[] (List.toArray [vp b3 0])) 6 rfl (λw=>jY (vals:=[vp b3 0]) rfl) ?_)))
 refine gc 1 5 rfl rfl (by kernel_rfl) rfl rfl ?_ ?_
 ·
  refine aC (α:=Int) g9 (is 3) (is 3) (3,0) rfl ([n]:List Int) bv aj (by decide) (by decide) (vs:=[(0,vi n)]) rfl rfl (.cons rfl .nil) ?_
  intro g13 w14 v15 ch16 o17
  refine gc 4 5 rfl rfl (by kernel_rfl) rfl rfl ?_ ?_
  ·
   refine bW (v:=vi 0) (aN (vals:=[vi 1,v15,vi n,vi ((n*(n-1))/2)]) Try.func51 il iD rfl) (iy w14 1 ([n]:List Int) v15 (o17.flat).ro n ((n*(n-1))/2) (by exact(λk hk=>by simp only[List.mem_cons,List.not_mem_nil,or_false] at hk;rcases hk with rfl<;>omega)) (by omega) (by omega)) ?_
   intro w18 hb19
   replace hb19:=aS hb19 g13
   replace bx5:=(bx5.cn ch16).cn hb19
   refine bB 5 rfl (by kernel_rfl) rfl (aL (v:=vi n) (ae aj rfl bx5 rfl) (bB 7 rfl (by kernel_rfl) rfl (bL (aN (vals:=[vi 0,vi n,Value.func (.func 52) #[] (List.toArray [vp b3 0])]) Try.func50 ir ip rfl) (av Try.func50 rfl nq (aa (a8 rfl (cB rfl (bP g13 (is 4) (4,0) rfl aK ?_))))))))
   intro g23 w20 b22 ch21 bx24
   replace bx24:Bx g23 (is 4) w20 b22 [vi 0,vn]:=bx24
   refine ai 0 (ab (aa (aa (a8 rfl (mi 0 (lx (cK (m:=0) (n:=0) rfl rfl) (ab (ag rfl rfl (aq (aa (a8 rfl (mi n (lw (vg [vi n,vn]) (bS (vs:=[(0,vi n)]) rfl (by kernel_rfl)) ?_)))))))))))))
   refine lw (vg [vi n,vn]) (bS (vs:=[(0,vg [vi n,vn])]) rfl (by kernel_rfl)) (lo (cr g23 (is 5) (5,0) rfl rfl ?_))
   intro g28 w25 b27 ch26 bx29
   replace bx29:Bx g28 (is 5) w25 b27 [vi n,vn]:=bx29
   refine ma (vp b27 0) (ab (aa (a8 rfl (mv (Value.func (.func 52) #[] (List.toArray [vp b3 0])) (mv (vp b27 0) (lo (bL (hU (fid:=52) (vals:=[vp b27 0]) (caps:=[vp b3 0]) rfl Try.func52 nT nU rfl) (av Try.func52 rfl nq (aa (a8 rfl ?_))))))))))
   replace bx5:=(bx5.cn ch21).cn ch26
   refine lx (ae aj rfl bx5 rfl) (mi 0 (ab (ao ?_)))
   refine aY (σ:=Value×(List Pt)×Nat×aG) (λ⟨E_v,E,i,gq⟩ f w=>bn w0 gq w/\f 0=vp b27 0/\f 1=vp b3 0/\f 5=vi n/\f 6=vi ↑i/\Bx gq (is 1) w b3 [vi n]/\Bx gq (is 2) w b8 [vi 0,vn]/\Ow gq (is 3) (is 3) w v15 ([n]:List Int)/\Bx gq (is 4) w b22 [vi 0,vn]/\Bx gq (is 5) w b27 [vi n,E_v]/\Ow gq (is 7) (is 7) w E_v E/\(i:Int)<=(n:Int)/\(E=fT n i)) (λ⟨E_v,E,i,gq⟩=>Int.toNat ((n:Int)-(i:Int))) (vn,[],0,g28) ?_ ?_
   have C32:=cg [] (hb19.n.seq (ch21.n.seq ch26.n))
   have C31:=ch11.n.seq (ch16.n.seq C32)
   have C30:=ch2.n.seq (ch7.n.seq C31)
   · exact⟨bH.ca C30,rfl,rfl,rfl,rfl,bx5,bx10.ca C31,o17.ca C32,bx24.cn ch26,bx29,Ow.nil,by omega,by rfl⟩
   clear bx5 bx10 o17 bx24 bx29 bH
   rintro⟨E_v,E,i,g35⟩ f33 w34 ⟨bH,zs0_c2,zs1_c2,zs5_c2,zs6_c2,bx5,bx10,o17,bx24,bx29,o_E,hle_i,hE⟩ back1_c2
   have hEl:E.length<=i*20:=by rw[hE];exact jo hn2 i
   refine aa (a8 rfl (lx (bm (m:=↑i) (n:=n) zs6_c2 zs5_c2) (ab (aa ?_))))
   by_cases p1_c2:(i:Int)<n
   ·
    refine ah rfl (dt p1_c2) (aq (aa (ao (aa (a8 rfl (mz zs6_c2 (ai (i:Int) (ab (aa (a8 rfl (mi ↑i (lx (aI (m:=↑i) (n:=1) rfl rfl (by omega)) ?_))))))))))))
    refine ai ((i:Int)+1) (ab (ao ?_))
    refine aY (σ:=Value×(List Pt)×Int×aG) (λ⟨F_v,F,kk,gq⟩ f w=>bn w0 gq w/\f 0=vp b27 0/\f 1=vp b3 0/\f 3=vi ↑i/\f 4=vi kk/\f 5=vi n/\f 6=vi ↑i/\Bx gq (is 1) w b3 [vi n]/\Bx gq (is 2) w b8 [vi 0,vn]/\Ow gq (is 3) (is 3) w v15 ([n]:List Int)/\Bx gq (is 4) w b22 [vi 0,vn]/\Bx gq (is 5) w b27 [vi n,F_v]/\Ow gq (is 7) (is 7) w F_v F/\(F=fT n i++iE i (kk-1-(i:Int)).toNat/\(i:Int)+1<=kk/\kk<=n)) (λ⟨F_v,F,kk,gq⟩=>(n-kk).toNat) (E_v,E,(i:Int)+1,g35) ?_ ?_
    · exact⟨bH,zs0_c2,zs1_c2,rfl,rfl,zs5_c2,zs6_c2,bx5,bx10,o17,bx24,bx29,o_E,by exact⟨hE.trans kS,by omega,by omega⟩⟩
    clear bx5 bx10 o17 bx24 bx29 o_E bH
    rintro⟨F_v,F,kk,g38⟩ f36 w37 ⟨bH,zs0_c2,zs1_c2,zs3_c2,zs4_c2,zs5_c2,zs6_c2,bx5,bx10,o17,bx24,bx29,o_F,hF0⟩ back4_c2
    obtain⟨hF,hF1,hF2⟩:=hF0
    have hFl:=pZ hn2 ‹_› hF hF2
    refine aa (aa (a8 rfl (mz zs4_c2 (lx (ae aj zs1_c2 bx5 rfl) (lx (bm (m:=kk) (n:=n) rfl rfl) (ab ?_))))))
    by_cases p4_c2:kk<n
    ·
     refine ah rfl (dt p4_c2) (aq (aa (ao (a8 rfl (mz zs0_c2 (mz zs3_c2 (mz zs4_c2 (lo (bL (aN (vals:=[vp b27 0,vi ↑i,vi kk]) Try.func53 fB fF rfl) ?_)))))))))
     refine av Try.func53 rfl nq (a8 rfl (mv (vp b27 0) (mv (vp b27 0) (lw (vp b27 0) (aw rfl) (lx (af my rfl rfl rfl rfl) (lx (af cW rfl rfl rfl rfl) (lx (ae bG rfl bx29 rfl) (mi ↑i (mi kk ?_)))))))))
     refine lw (vg [vi ↑i,vi kk]) (bS (vs:=[(0,vi ↑i),(1,vi kk)]) rfl (by kernel_rfl)) (lo (aC (α:=Pt) g38 (is 6) (is 6) (6,0) rfl ([((i:Int),kk)]:List Pt) dc b7 (by decide) (by decide) (vs:=[(0,vg [vi ↑i,vi kk])]) rfl rfl (.cons rfl .nil) ?_))
     intro g39 w40 v41 ch42 o43
     refine lo ?_
     replace o_F:=o_F.cn ch42
     refine bf (α:=Pt) (xs:=F) (ys:=([((i:Int),kk)]:List Pt)) g39 (J:=is 7) (S:=is 7) (7,0) rfl dc b7 (by decide) rfl rfl rfl o_F o43.flat (by decide) (by(simp;omega)) ?_
     intro g44 w45 v46 ch47 o48
     clear o_F
     refine lw (vp b27 0) (aw rfl) (lx (af my rfl rfl rfl rfl) (lx (af cW rfl rfl rfl rfl) (lo ?_)))
     replace bx29:=(bx29.cn ch42).ce ch47
     refine c8 (cs':=[vi n,v46]) bG rfl rfl bx29 (c5 o48.flat) nq (bK o48.flat) rfl ?_
     intro w49 ch50 bx51
     clear bx29
     refine ab (cM (vs:=[]) Try.func53 .nil ?_)
     refine⟨vt [],rfl,?_⟩
     refine ab (am ?_)
     clear o43
     refine a8 rfl (mz zs4_c2 (lx (aI (m:=kk) (n:=1) rfl rfl (by omega)) (ai (kk+1) (ab ?_))))
     have C52:=cg [5,7] (ch42.n.seq ((ch47.l rfl).seq (ch50.l rfl)))
     refine back4_c2 (v46,(F++([((i:Int),kk)]:List Pt)),kk+1,g44) _ _ ⟨bH.ca C52,zs0_c2,zs1_c2,zs3_c2,rfl,zs5_c2,zs6_c2,bx5.ca C52,bx10.ca C52,o17.ca C52,bx24.ca C52,bx51,o48.ce ch50,?_⟩ ?_
     · show(F++([((i:Int),kk)]:List Pt))=fT n i++iE i ((kk+1)-1-(i:Int)).toNat/\(i:Int)+1<=(kk+1)/\(kk+1)<=n
       exact⟨nY hF hF1,by omega,by omega⟩
     · show(n-(kk+1)).toNat<(n-kk).toNat
       omega
    refine ag rfl (df p4_c2) (aH rfl (am (a8 rfl (lx (aI (m:=↑i) (n:=1) zs6_c2 rfl (by omega)) (mi ((i:Int)+1) (ab ?_))))))
    refine back1_c2 (F_v,F,i+1,g38) _ _ ⟨bH,zs0_c2,zs1_c2,zs5_c2,rfl,bx5,bx10,o17,bx24,bx29,o_F,by omega,?_⟩ ?_
    · show F=fT n (i+1)
      exact pR hF hF2 ‹_›
    · show Int.toNat ((n:Int)-((i+1):Int))<Int.toNat ((n:Int)-(i:Int))
      omega
   refine ag rfl (df p1_c2) (aH rfl (cM (vs:=[]) Try.func52 .nil ?_))
   refine⟨vt [],rfl,?_⟩
   refine ab (aa (a8 rfl (mv (vp b27 0) (lw (vp b27 0) (aw rfl) (lx (af my rfl rfl rfl rfl) (lx (aB (ds:=[vi n,E_v]) aK rfl bx29 rfl rfl) (lo (aT (cs':=[vi n,E_v]) aK rfl rfl bx24 rfl nq (AllOne.all (.cons rfl (.cons (bK o_E.flat) .nil))) rfl ?_))))))))
   intro w53 ch54 bx55
   clear bx24
   refine ai 0 (ab (aD (vs:=[vg [vi n,E_v],vi 0]) Try.func50 (.cell rfl (cF (ds:=[vi n,E_v]) aK bx55 rfl rfl) (.tmp rfl .nil)) ?_))
   refine⟨vt [vg [vi n,E_v],vi 0],rfl,?_⟩
   refine xp 8 rfl (λw=>aJ rfl rfl) (xp 9 rfl (λw=>aJ rfl rfl) (bB 10 rfl (by kernel_rfl) rfl ?_))
   replace bx10:=bx10.ce ch54
   replace o_E:=o_E.ce ch54
   refine aT (cs':=[vi n,E_v]) aK rfl rfl bx10 rfl nq (AllOne.all (.cons rfl (.cons (bK o_E.flat) .nil))) rfl ?_
   intro w56 ch57 bx58
   clear bx10
   refine xp (v:=vi 0) 11 rfl (λw=>cE rfl) (cA (by kernel_rfl) (aD (vs:=[vg [vi n,E_v],vi 0]) Try.func26 (.cell rfl (cF (ds:=[vi n,E_v]) aK bx58 rfl rfl) (.tmp rfl .nil)) ?_))
   replace bH:=bH.ce ch54
   replace bH:=bH.ce ch57
   replace o_E:=o_E.ce ch57
   have e0:((n,E):(Int)×(List Pt))=(fk n):=by
     exact mS hE (by omega) (by omega)
   have e1:(0:Int)=(0):=by
     rfl
   exact⟨(fin w0 g35 (λn=>if n=7 then 1 else 0),E_v),(cT (a:=(n,E)) (b:=0) (λ(z0:(Int)×(List Pt)) (z1:Int)=>Ending.returned (vt [vg [vi z0.1,E_v],vi z1])) e0 e1),bH.fresh _,((congrArg (λ(z:(Int)×(List Pt))=>z.2) e0)▸(o_E.glue (γ:=c0) (ren:=(λn=>if n=7 then 1 else 0)) (k:=1) bH.col rfl rfl))⟩
  ·
   replace bx5:=bx5.cn ch16
   refine aL (v:=vi n) (ae aj rfl bx5 rfl) (bB 4 rfl (by kernel_rfl) rfl (bW (v:=vi 0) (aN (vals:=[vi 1,v15,vi n,vi ((n*(n-1))/2)]) Try.func51 il iD rfl) (iy w14 1 ([n]:List Int) v15 (o17.flat).ro n ((n*(n-1))/2) (by exact(λk hk=>by simp only[List.mem_cons,List.not_mem_nil,or_false] at hk;rcases hk with rfl<;>omega)) (by omega) (by omega)) ?_))
   intro w59 hb60
   replace hb60:=aS hb60 g13
   refine bB 7 rfl (by kernel_rfl) rfl (bL (aN (vals:=[vi 0,vi n,Value.func (.func 52) #[] (List.toArray [vp b3 0])]) Try.func50 ir ip rfl) (av Try.func50 rfl nq (aa (a8 rfl (cB rfl (bP g13 (is 8) (8,0) rfl aK ?_))))))
   intro g64 w61 b63 ch62 bx65
   replace bx65:Bx g64 (is 8) w61 b63 [vi 0,vn]:=bx65
   refine ai 0 (ab (aa (aa (a8 rfl (mi 0 (lx (cK (m:=0) (n:=0) rfl rfl) (ab (ag rfl rfl (aq (aa (a8 rfl (mi n (lw (vg [vi n,vn]) (bS (vs:=[(0,vi n)]) rfl (by kernel_rfl)) ?_)))))))))))))
   refine lw (vg [vi n,vn]) (bS (vs:=[(0,vg [vi n,vn])]) rfl (by kernel_rfl)) (lo (cr g64 (is 9) (9,0) rfl rfl ?_))
   intro g69 w66 b68 ch67 bx70
   replace bx70:Bx g69 (is 9) w66 b68 [vi n,vn]:=bx70
   refine ma (vp b68 0) (ab (aa (a8 rfl (mv (Value.func (.func 52) #[] (List.toArray [vp b3 0])) (mv (vp b68 0) (lo (bL (hU (fid:=52) (vals:=[vp b68 0]) (caps:=[vp b3 0]) rfl Try.func52 nT nU rfl) (av Try.func52 rfl nq (aa (a8 rfl ?_))))))))))
   have C71:=cg [] (hb60.n.seq (ch62.n.seq ch67.n))
   replace bx5:=bx5.ca C71
   refine lx (ae aj rfl bx5 rfl) (mi 0 (ab (ao ?_)))
   refine aY (σ:=Value×(List Pt)×Nat×aG) (λ⟨E_v,E,i,gq⟩ f w=>bn w0 gq w/\f 0=vp b68 0/\f 1=vp b3 0/\f 5=vi n/\f 6=vi ↑i/\Bx gq (is 1) w b3 [vi n]/\Bx gq (is 2) w b8 [vi 0,vn]/\Ow gq (is 3) (is 3) w v15 ([n]:List Int)/\Bx gq (is 8) w b63 [vi 0,vn]/\Bx gq (is 9) w b68 [vi n,E_v]/\Ow gq (is 7) (is 7) w E_v E/\(i:Int)<=(n:Int)/\(E=fT n i)) (λ⟨E_v,E,i,gq⟩=>Int.toNat ((n:Int)-(i:Int))) (vn,[],0,g69) ?_ ?_
   have C73:=cg [] (ch11.n.seq (ch16.n.seq (hb60.n.seq (ch62.n.seq ch67.n))))
   have C72:=ch2.n.seq (ch7.n.seq C73)
   · exact⟨bH.ca C72,rfl,rfl,rfl,rfl,bx5,bx10.ca C73,o17.ca C71,bx65.cn ch67,bx70,Ow.nil,by omega,by rfl⟩
   clear bx5 bx10 o17 bx65 bx70 bH
   rintro⟨E_v,E,i,g76⟩ f74 w75 ⟨bH,zs0_c5,zs1_c5,zs5_c5,zs6_c5,bx5,bx10,o17,bx65,bx70,o_E,hle_i,hE⟩ back1_c5
   have hEl:E.length<=i*20:=by rw[hE];exact jo hn2 i
   refine aa (a8 rfl (lx (bm (m:=↑i) (n:=n) zs6_c5 zs5_c5) (ab (aa ?_))))
   by_cases p1_c5:(i:Int)<n
   ·
    refine ah rfl (dt p1_c5) (aq (aa (ao (aa (a8 rfl (mz zs6_c5 (ai (i:Int) (ab (aa (a8 rfl (mi ↑i (lx (aI (m:=↑i) (n:=1) rfl rfl (by omega)) ?_))))))))))))
    refine ai ((i:Int)+1) (ab (ao ?_))
    refine aY (σ:=Value×(List Pt)×Int×aG) (λ⟨F_v,F,kk,gq⟩ f w=>bn w0 gq w/\f 0=vp b68 0/\f 1=vp b3 0/\f 3=vi ↑i/\f 4=vi kk/\f 5=vi n/\f 6=vi ↑i/\Bx gq (is 1) w b3 [vi n]/\Bx gq (is 2) w b8 [vi 0,vn]/\Ow gq (is 3) (is 3) w v15 ([n]:List Int)/\Bx gq (is 8) w b63 [vi 0,vn]/\Bx gq (is 9) w b68 [vi n,F_v]/\Ow gq (is 7) (is 7) w F_v F/\(F=fT n i++iE i (kk-1-(i:Int)).toNat/\(i:Int)+1<=kk/\kk<=n)) (λ⟨F_v,F,kk,gq⟩=>(n-kk).toNat) (E_v,E,(i:Int)+1,g76) ?_ ?_
    · exact⟨bH,zs0_c5,zs1_c5,rfl,rfl,zs5_c5,zs6_c5,bx5,bx10,o17,bx65,bx70,o_E,by exact⟨hE.trans kS,by omega,by omega⟩⟩
    clear bx5 bx10 o17 bx65 bx70 o_E bH
    rintro⟨F_v,F,kk,g79⟩ f77 w78 ⟨bH,zs0_c5,zs1_c5,zs3_c5,zs4_c5,zs5_c5,zs6_c5,bx5,bx10,o17,bx65,bx70,o_F,hF0⟩ back4_c5
    obtain⟨hF,hF1,hF2⟩:=hF0
    have hFl:=pZ hn2 ‹_› hF hF2
    refine aa (aa (a8 rfl (mz zs4_c5 (lx (ae aj zs1_c5 bx5 rfl) (lx (bm (m:=kk) (n:=n) rfl rfl) (ab ?_))))))
    by_cases p4_c5:kk<n
    ·
     refine ah rfl (dt p4_c5) (aq (aa (ao (a8 rfl (mz zs0_c5 (mz zs3_c5 (mz zs4_c5 (lo (bL (aN (vals:=[vp b68 0,vi ↑i,vi kk]) Try.func53 fB fF rfl) ?_)))))))))
     refine av Try.func53 rfl nq (a8 rfl (mv (vp b68 0) (mv (vp b68 0) (lw (vp b68 0) (aw rfl) (lx (af my rfl rfl rfl rfl) (lx (af cW rfl rfl rfl rfl) (lx (ae bG rfl bx70 rfl) (mi ↑i (mi kk ?_)))))))))
     refine lw (vg [vi ↑i,vi kk]) (bS (vs:=[(0,vi ↑i),(1,vi kk)]) rfl (by kernel_rfl)) (lo (aC (α:=Pt) g79 (is 10) (is 10) (10,0) rfl ([((i:Int),kk)]:List Pt) dc b7 (by decide) (by decide) (vs:=[(0,vg [vi ↑i,vi kk])]) rfl rfl (.cons rfl .nil) ?_))
     intro g80 w81 v82 ch83 o84
     refine lo ?_
     replace o_F:=o_F.cn ch83
     refine bf (α:=Pt) (xs:=F) (ys:=([((i:Int),kk)]:List Pt)) g80 (J:=is 7) (S:=is 7) (7,0) rfl dc b7 (by decide) rfl rfl rfl o_F o84.flat (by decide) (by(simp;omega)) ?_
     intro g85 w86 v87 ch88 o89
     clear o_F
     refine lw (vp b68 0) (aw rfl) (lx (af my rfl rfl rfl rfl) (lx (af cW rfl rfl rfl rfl) (lo ?_)))
     replace bx70:=(bx70.cn ch83).ce ch88
     refine c8 (cs':=[vi n,v87]) bG rfl rfl bx70 (c5 o89.flat) nq (bK o89.flat) rfl ?_
     intro w90 ch91 bx92
     clear bx70
     refine ab (cM (vs:=[]) Try.func53 .nil ?_)
     refine⟨vt [],rfl,?_⟩
     refine ab (am ?_)
     clear o84
     refine a8 rfl (mz zs4_c5 (lx (aI (m:=kk) (n:=1) rfl rfl (by omega)) (ai (kk+1) (ab ?_))))
     have C93:=cg [7,9] (ch83.n.seq ((ch88.l rfl).seq (ch91.l rfl)))
     refine back4_c5 (v87,(F++([((i:Int),kk)]:List Pt)),kk+1,g85) _ _ ⟨bH.ca C93,zs0_c5,zs1_c5,zs3_c5,rfl,zs5_c5,zs6_c5,bx5.ca C93,bx10.ca C93,o17.ca C93,bx65.ca C93,bx92,o89.ce ch91,?_⟩ ?_
     · show(F++([((i:Int),kk)]:List Pt))=fT n i++iE i ((kk+1)-1-(i:Int)).toNat/\(i:Int)+1<=(kk+1)/\(kk+1)<=n
       exact⟨nY hF hF1,by omega,by omega⟩
     · show(n-(kk+1)).toNat<(n-kk).toNat
       omega
    refine ag rfl (df p4_c5) (aH rfl (am (a8 rfl (lx (aI (m:=↑i) (n:=1) zs6_c5 rfl (by omega)) (mi ((i:Int)+1) (ab ?_))))))
    refine back1_c5 (F_v,F,i+1,g79) _ _ ⟨bH,zs0_c5,zs1_c5,zs5_c5,rfl,bx5,bx10,o17,bx65,bx70,o_F,by omega,?_⟩ ?_
    · show F=fT n (i+1)
      exact pR hF hF2 ‹_›
    · show Int.toNat ((n:Int)-((i+1):Int))<Int.toNat ((n:Int)-(i:Int))
      omega
   refine ag rfl (df p1_c5) (aH rfl (cM (vs:=[]) Try.func52 .nil ?_))
   refine⟨vt [],rfl,?_⟩
   refine ab (aa (a8 rfl (mv (vp b68 0) (lw (vp b68 0) (aw rfl) (lx (af my rfl rfl rfl rfl) (lx (aB (ds:=[vi n,E_v]) aK rfl bx70 rfl rfl) (lo (aT (cs':=[vi n,E_v]) aK rfl rfl bx65 rfl nq (AllOne.all (.cons rfl (.cons (bK o_E.flat) .nil))) rfl ?_))))))))
   intro w94 ch95 bx96
   clear bx65
   refine ai 0 (ab (aD (vs:=[vg [vi n,E_v],vi 0]) Try.func50 (.cell rfl (cF (ds:=[vi n,E_v]) aK bx96 rfl rfl) (.tmp rfl .nil)) ?_))
   refine⟨vt [vg [vi n,E_v],vi 0],rfl,?_⟩
   refine xp 8 rfl (λw=>aJ rfl rfl) (xp 9 rfl (λw=>aJ rfl rfl) (bB 10 rfl (by kernel_rfl) rfl ?_))
   replace bx10:=bx10.ce ch95
   replace o_E:=o_E.ce ch95
   refine aT (cs':=[vi n,E_v]) aK rfl rfl bx10 rfl nq (AllOne.all (.cons rfl (.cons (bK o_E.flat) .nil))) rfl ?_
   intro w97 ch98 bx99
   clear bx10
   refine xp (v:=vi 0) 11 rfl (λw=>cE rfl) (cA (by kernel_rfl) (aD (vs:=[vg [vi n,E_v],vi 0]) Try.func26 (.cell rfl (cF (ds:=[vi n,E_v]) aK bx99 rfl rfl) (.tmp rfl .nil)) ?_))
   replace bH:=bH.ce ch95
   replace bH:=bH.ce ch98
   replace o_E:=o_E.ce ch98
   have e0:((n,E):(Int)×(List Pt))=(fk n):=by
     exact mS hE (by omega) (by omega)
   have e1:(0:Int)=(0):=by
     rfl
   exact⟨(fin w0 g76 (λn=>if n=7 then 1 else 0),E_v),(cT (a:=(n,E)) (b:=0) (λ(z0:(Int)×(List Pt)) (z1:Int)=>Ending.returned (vt [vg [vi z0.1,E_v],vi z1])) e0 e1),bH.fresh _,((congrArg (λ(z:(Int)×(List Pt))=>z.2) e0)▸(o_E.glue (γ:=c0) (ren:=(λn=>if n=7 then 1 else 0)) (k:=1) bH.col rfl rfl))⟩
 ·
  refine aL (v:=vi n) (ae aj rfl bx5 rfl) (bB 1 rfl (by kernel_rfl) rfl (aC (α:=Int) g9 (is 3) (is 3) (3,0) rfl ([n]:List Int) bv aj (by decide) (by decide) (vs:=[(0,vi n)]) rfl rfl (.cons rfl .nil) ?_))
  intro g100 w101 v102 ch103 o104
  refine bB 4 rfl (by kernel_rfl) rfl (bW (v:=vi 0) (aN (vals:=[vi 1,v102,vi n,vi ((n*(n-1))/2)]) Try.func51 il iD rfl) (iy w101 1 ([n]:List Int) v102 (o104.flat).ro n ((n*(n-1))/2) (by exact(λk hk=>by simp only[List.mem_cons,List.not_mem_nil,or_false] at hk;rcases hk with rfl<;>omega)) (by omega) (by omega)) ?_)
  intro w105 hb106
  replace hb106:=aS hb106 g100
  refine bB 7 rfl (by kernel_rfl) rfl (bL (aN (vals:=[vi 0,vi n,Value.func (.func 52) #[] (List.toArray [vp b3 0])]) Try.func50 ir ip rfl) (av Try.func50 rfl nq (aa (a8 rfl (cB rfl (bP g100 (is 11) (11,0) rfl aK ?_))))))
  intro g110 w107 b109 ch108 bx111
  replace bx111:Bx g110 (is 11) w107 b109 [vi 0,vn]:=bx111
  refine ai 0 (ab (aa (aa (a8 rfl (mi 0 (lx (cK (m:=0) (n:=0) rfl rfl) (ab (ag rfl rfl (aq (aa (a8 rfl (mi n (lw (vg [vi n,vn]) (bS (vs:=[(0,vi n)]) rfl (by kernel_rfl)) ?_)))))))))))))
  refine lw (vg [vi n,vn]) (bS (vs:=[(0,vg [vi n,vn])]) rfl (by kernel_rfl)) (lo (cr g110 (is 12) (12,0) rfl rfl ?_))
  intro g115 w112 b114 ch113 bx116
  replace bx116:Bx g115 (is 12) w112 b114 [vi n,vn]:=bx116
  refine ma (vp b114 0) (ab (aa (a8 rfl (mv (Value.func (.func 52) #[] (List.toArray [vp b3 0])) (mv (vp b114 0) (lo (bL (hU (fid:=52) (vals:=[vp b114 0]) (caps:=[vp b3 0]) rfl Try.func52 nT nU rfl) (av Try.func52 rfl nq (aa (a8 rfl ?_))))))))))
  have C117:=cg [] (ch103.n.seq (hb106.n.seq (ch108.n.seq ch113.n)))
  replace bx5:=bx5.ca C117
  refine lx (ae aj rfl bx5 rfl) (mi 0 (ab (ao ?_)))
  refine aY (σ:=Value×(List Pt)×Nat×aG) (λ⟨E_v,E,i,gq⟩ f w=>bn w0 gq w/\f 0=vp b114 0/\f 1=vp b3 0/\f 5=vi n/\f 6=vi ↑i/\Bx gq (is 1) w b3 [vi n]/\Bx gq (is 2) w b8 [vi 0,vn]/\Ow gq (is 3) (is 3) w v102 ([n]:List Int)/\Bx gq (is 11) w b109 [vi 0,vn]/\Bx gq (is 12) w b114 [vi n,E_v]/\Ow gq (is 7) (is 7) w E_v E/\(i:Int)<=(n:Int)/\(E=fT n i)) (λ⟨E_v,E,i,gq⟩=>Int.toNat ((n:Int)-(i:Int))) (vn,[],0,g115) ?_ ?_
  have C120:=cg [] (hb106.n.seq (ch108.n.seq ch113.n))
  have C119:=ch11.n.seq (ch103.n.seq C120)
  have C118:=ch2.n.seq (ch7.n.seq C119)
  · exact⟨bH.ca C118,rfl,rfl,rfl,rfl,bx5,bx10.ca C119,o104.ca C120,bx111.cn ch113,bx116,Ow.nil,by omega,by rfl⟩
  clear bx5 bx10 o104 bx111 bx116 bH
  rintro⟨E_v,E,i,g123⟩ f121 w122 ⟨bH,zs0_c8,zs1_c8,zs5_c8,zs6_c8,bx5,bx10,o104,bx111,bx116,o_E,hle_i,hE⟩ back1_c8
  have hEl:E.length<=i*20:=by rw[hE];exact jo hn2 i
  refine aa (a8 rfl (lx (bm (m:=↑i) (n:=n) zs6_c8 zs5_c8) (ab (aa ?_))))
  by_cases p1_c8:(i:Int)<n
  ·
   refine ah rfl (dt p1_c8) (aq (aa (ao (aa (a8 rfl (mz zs6_c8 (ai (i:Int) (ab (aa (a8 rfl (mi ↑i (lx (aI (m:=↑i) (n:=1) rfl rfl (by omega)) ?_))))))))))))
   refine ai ((i:Int)+1) (ab (ao ?_))
   refine aY (σ:=Value×(List Pt)×Int×aG) (λ⟨F_v,F,kk,gq⟩ f w=>bn w0 gq w/\f 0=vp b114 0/\f 1=vp b3 0/\f 3=vi ↑i/\f 4=vi kk/\f 5=vi n/\f 6=vi ↑i/\Bx gq (is 1) w b3 [vi n]/\Bx gq (is 2) w b8 [vi 0,vn]/\Ow gq (is 3) (is 3) w v102 ([n]:List Int)/\Bx gq (is 11) w b109 [vi 0,vn]/\Bx gq (is 12) w b114 [vi n,F_v]/\Ow gq (is 7) (is 7) w F_v F/\(F=fT n i++iE i (kk-1-(i:Int)).toNat/\(i:Int)+1<=kk/\kk<=n)) (λ⟨F_v,F,kk,gq⟩=>(n-kk).toNat) (E_v,E,(i:Int)+1,g123) ?_ ?_
   · exact⟨bH,zs0_c8,zs1_c8,rfl,rfl,zs5_c8,zs6_c8,bx5,bx10,o104,bx111,bx116,o_E,by exact⟨hE.trans kS,by omega,by omega⟩⟩
   clear bx5 bx10 o104 bx111 bx116 o_E bH
   rintro⟨F_v,F,kk,g126⟩ f124 w125 ⟨bH,zs0_c8,zs1_c8,zs3_c8,zs4_c8,zs5_c8,zs6_c8,bx5,bx10,o104,bx111,bx116,o_F,hF0⟩ back4_c8
   obtain⟨hF,hF1,hF2⟩:=hF0
   have hFl:=pZ hn2 ‹_› hF hF2
   refine aa (aa (a8 rfl (mz zs4_c8 (lx (ae aj zs1_c8 bx5 rfl) (lx (bm (m:=kk) (n:=n) rfl rfl) (ab ?_))))))
   by_cases p4_c8:kk<n
   ·
    refine ah rfl (dt p4_c8) (aq (aa (ao (a8 rfl (mz zs0_c8 (mz zs3_c8 (mz zs4_c8 (lo (bL (aN (vals:=[vp b114 0,vi ↑i,vi kk]) Try.func53 fB fF rfl) ?_)))))))))
    refine av Try.func53 rfl nq (a8 rfl (mv (vp b114 0) (mv (vp b114 0) (lw (vp b114 0) (aw rfl) (lx (af my rfl rfl rfl rfl) (lx (af cW rfl rfl rfl rfl) (lx (ae bG rfl bx116 rfl) (mi ↑i (mi kk ?_)))))))))
    refine lw (vg [vi ↑i,vi kk]) (bS (vs:=[(0,vi ↑i),(1,vi kk)]) rfl (by kernel_rfl)) (lo (aC (α:=Pt) g126 (is 13) (is 13) (13,0) rfl ([((i:Int),kk)]:List Pt) dc b7 (by decide) (by decide) (vs:=[(0,vg [vi ↑i,vi kk])]) rfl rfl (.cons rfl .nil) ?_))
    intro g127 w128 v129 ch130 o131
    refine lo ?_
    replace o_F:=o_F.cn ch130
    refine bf (α:=Pt) (xs:=F) (ys:=([((i:Int),kk)]:List Pt)) g127 (J:=is 7) (S:=is 7) (7,0) rfl dc b7 (by decide) rfl rfl rfl o_F o131.flat (by decide) (by(simp;omega)) ?_
    intro g132 w133 v134 ch135 o136
    clear o_F
    refine lw (vp b114 0) (aw rfl) (lx (af my rfl rfl rfl rfl) (lx (af cW rfl rfl rfl rfl) (lo ?_)))
    replace bx116:=(bx116.cn ch130).ce ch135
    refine c8 (cs':=[vi n,v134]) bG rfl rfl bx116 (c5 o136.flat) nq (bK o136.flat) rfl ?_
    intro w137 ch138 bx139
    clear bx116
    refine ab (cM (vs:=[]) Try.func53 .nil ?_)
    refine⟨vt [],rfl,?_⟩
    refine ab (am ?_)
    clear o131
    refine a8 rfl (mz zs4_c8 (lx (aI (m:=kk) (n:=1) rfl rfl (by omega)) (ai (kk+1) (ab ?_))))
    have C140:=cg [7,12] (ch130.n.seq ((ch135.l rfl).seq (ch138.l rfl)))
    refine back4_c8 (v134,(F++([((i:Int),kk)]:List Pt)),kk+1,g132) _ _ ⟨bH.ca C140,zs0_c8,zs1_c8,zs3_c8,rfl,zs5_c8,zs6_c8,bx5.ca C140,bx10.ca C140,o104.ca C140,bx111.ca C140,bx139,o136.ce ch138,?_⟩ ?_
    · show(F++([((i:Int),kk)]:List Pt))=fT n i++iE i ((kk+1)-1-(i:Int)).toNat/\(i:Int)+1<=(kk+1)/\(kk+1)<=n
      exact⟨nY hF hF1,by omega,by omega⟩
    · show(n-(kk+1)).toNat<(n-kk).toNat
      omega
   refine ag rfl (df p4_c8) (aH rfl (am (a8 rfl (lx (aI (m:=↑i) (n:=1) zs6_c8 rfl (by omega)) (mi ((i:Int)+1) (ab ?_))))))
   refine back1_c8 (F_v,F,i+1,g126) _ _ ⟨bH,zs0_c8,zs1_c8,zs5_c8,rfl,bx5,bx10,o104,bx111,bx116,o_F,by omega,?_⟩ ?_
   · show F=fT n (i+1)
     exact pR hF hF2 ‹_›
   · show Int.toNat ((n:Int)-((i+1):Int))<Int.toNat ((n:Int)-(i:Int))
     omega
  refine ag rfl (df p1_c8) (aH rfl (cM (vs:=[]) Try.func52 .nil ?_))
  refine⟨vt [],rfl,?_⟩
  refine ab (aa (a8 rfl (mv (vp b114 0) (lw (vp b114 0) (aw rfl) (lx (af my rfl rfl rfl rfl) (lx (aB (ds:=[vi n,E_v]) aK rfl bx116 rfl rfl) (lo (aT (cs':=[vi n,E_v]) aK rfl rfl bx111 rfl nq (AllOne.all (.cons rfl (.cons (bK o_E.flat) .nil))) rfl ?_))))))))
  intro w141 ch142 bx143
  clear bx111
  refine ai 0 (ab (aD (vs:=[vg [vi n,E_v],vi 0]) Try.func50 (.cell rfl (cF (ds:=[vi n,E_v]) aK bx143 rfl rfl) (.tmp rfl .nil)) ?_))
  refine⟨vt [vg [vi n,E_v],vi 0],rfl,?_⟩
  refine xp 8 rfl (λw=>aJ rfl rfl) (xp 9 rfl (λw=>aJ rfl rfl) (bB 10 rfl (by kernel_rfl) rfl ?_))
  replace bx10:=bx10.ce ch142
  replace o_E:=o_E.ce ch142
  refine aT (cs':=[vi n,E_v]) aK rfl rfl bx10 rfl nq (AllOne.all (.cons rfl (.cons (bK o_E.flat) .nil))) rfl ?_
  intro w144 ch145 bx146
  clear bx10
  refine xp (v:=vi 0) 11 rfl (λw=>cE rfl) (cA (by kernel_rfl) (aD (vs:=[vg [vi n,E_v],vi 0]) Try.func26 (.cell rfl (cF (ds:=[vi n,E_v]) aK bx146 rfl rfl) (.tmp rfl .nil)) ?_))
  replace bH:=bH.ce ch142
  replace bH:=bH.ce ch145
  replace o_E:=o_E.ce ch145
  have e0:((n,E):(Int)×(List Pt))=(fk n):=by
    exact mS hE (by omega) (by omega)
  have e1:(0:Int)=(0):=by
    rfl
  exact⟨(fin w0 g123 (λn=>if n=7 then 1 else 0),E_v),(cT (a:=(n,E)) (b:=0) (λ(z0:(Int)×(List Pt)) (z1:Int)=>Ending.returned (vt [vg [vi z0.1,E_v],vi z1])) e0 e1),bH.fresh _,((congrArg (λ(z:(Int)×(List Pt))=>z.2) e0)▸(o_E.glue (γ:=c0) (ren:=(λn=>if n=7 then 1 else 0)) (k:=1) bH.col rfl rfl))⟩
end TL
