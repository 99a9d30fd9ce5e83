import Derived.Test.YtbpphaeianpdpaaPzTlP2
import Derived.Test.YtbpphaeianpdpaaPzTlGmA
import Derived.Test.YtbpphaeianpdpaaPzTlGenA
import Derived.Test.YtbpphaeianpdpaaPzTlPwA
import Derived.Test.YtbpphaeianpdpaaProg
import Derived.Test.YtbpphaeianpdpaaPzTlAli
set_option linter.all false
set_option maxRecDepth 20000
namespace TL
open Go Go.Proofs
theorem d6:Tp Try.prog 29 false 1 24 (.slice none 0 0):=Tp.of (by kernel_rfl)
theorem pO:Tp Try.prog 74 false 1 8 (.int .u64 0):=Tp.of (by kernel_rfl)
theorem eQ:Try.f23.body.isNone=false:=rfl
theorem f5:(Try.f23.name== "runtime.NumGoroutine")=false:=by decide+kernel
theorem kW:Try.f24.body.isNone=false:=rfl
theorem lY:(Try.f24.name== "runtime.NumGoroutine")=false:=by decide+kernel
theorem pN:Try.f25.body.isNone=false:=rfl
theorem qa:(Try.f25.name== "runtime.NumGoroutine")=false:=by decide+kernel
theorem eU(w0:World)(g:(Int)×(List Pt))(g_v:Value)(hg_v:Ro w0 g_v g.2)(h:Int)(hh:0<=h/\h<2*(g.2.length:Int))(hlen:g.2.length<=1000000):
    Calls Try.prog 23 #[vg [vi g.1,g_v],vi h] w0 (λee w=>ee= .returned (vi (aH g h))/\cl w0.heap.size w0 w):=by
 refine ar Try.func23 rfl nq ?_
 have bH:=aU.start w0
 have Rg:=hg_v.sl
 obtain⟨hh1,hh2⟩:=hh
 refine a7 (a6 rfl (cu rfl (cN c0 (is 1) (1,0) rfl rfl ?_)))
 intro g4 w1 b3 ch2 bx5
 replace bx5:Bx g4 (is 1) w1 b3 [vi g.1,g_v]:=bx5
 refine ai 0 (a8 (a7 (a6 rfl (lx (ad cT rfl rfl rfl rfl) (lx (ae bJ rfl bx5 rfl) (mi h (lx (fo (m:=h) (n:=2) rfl rfl (by omega) (by omega) (by omega)) (mi h (lx (jH (m:=h) (n:=2) rfl rfl (by omega) (by omega)) ?_)))))))))
 replace Rg:=Rg.cn ch2
 refine lx (aa (v:=g_v) (i:=h/2) fu rfl rfl Rg rfl (by omega) (by omega)) (lx (b5 (i:=h%2) iy rfl rfl rfl (by omega) (by omega) (Nat.mul_one _)) (lx (b9 (v:=g_v) (i:=h/2) ay rfl Rg (by omega) (by omega) (show Int.toNat (h%2)<2 by omega) (eL _ (by omega) (by omega))) (ai (pI (gI g.2 (h/2)) (h%2)) (a8 (au (vs:=[vi (pI (gI g.2 (h/2)) (h%2))]) Try.func23 (.tmp rfl .nil) ?_)))))
 have e0:(pI (gI g.2 (h/2)) (h%2):Int)=(aH g h):=by
   rfl
 replace bH:=bH.cn ch2
 exact⟨(congrArg (a₁:=pI (gI g.2 (h/2)) (h%2)) (λ(z0:Int)=>Ending.returned (vi z0)) e0),bH.below⟩
theorem nK(w0:World)(g:(Int)×(List Pt))(g_v:Value)(hg_v:Ro w0 g_v g.2)(h:Int)(hh:0<=h/\h<2*(g.2.length:Int))(hlen:g.2.length<=1000000):
    Calls Try.prog 24 #[vg [vi g.1,g_v],vi h] w0 (λee w=>ee= .returned (vi (dc g h))/\cl w0.heap.size w0 w):=by
 refine ar Try.func24 rfl nq ?_
 have bH:=aU.start w0
 have Rg:=hg_v.sl
 obtain⟨hh1,hh2⟩:=hh
 refine a7 (a6 rfl (cu rfl (cN c0 (is 1) (1,0) rfl rfl ?_)))
 intro g4 w1 b3 ch2 bx5
 replace bx5:Bx g4 (is 1) w1 b3 [vi g.1,g_v]:=bx5
 refine ai 0 (a8 (a7 (a6 rfl (lx (ad cT rfl rfl rfl rfl) (lx (ae bJ rfl bx5 rfl) (mi h (lx (fo (m:=h) (n:=2) rfl rfl (by omega) (by omega) (by omega)) (mi h (lx (jH (m:=h) (n:=2) rfl rfl (by omega) (by omega)) (lx (dA (m:=1) (n:=h%2) rfl rfl (by omega)) ?_))))))))))
 replace Rg:=Rg.cn ch2
 refine lx (aa (v:=g_v) (i:=h/2) fu rfl rfl Rg rfl (by omega) (by omega)) (lx (b5 (i:=1-(h%2)) iy rfl rfl rfl (by omega) (by omega) (Nat.mul_one _)) (lx (b9 (v:=g_v) (i:=h/2) ay rfl Rg (by omega) (by omega) (show Int.toNat (1-(h%2))<2 by omega) (eL _ (by omega) (by omega))) (ai (pI (gI g.2 (h/2)) (1-(h%2))) (a8 (au (vs:=[vi (pI (gI g.2 (h/2)) (1-(h%2)))]) Try.func24 (.tmp rfl .nil) ?_)))))
 have e0:(pI (gI g.2 (h/2)) (1-(h%2)):Int)=(dc g h):=by
   rfl
 replace bH:=bH.cn ch2
 exact⟨(congrArg (a₁:=pI (gI g.2 (h/2)) (1-(h%2))) (λ(z0:Int)=>Ending.returned (vi z0)) e0),bH.below⟩
set_option maxHeartbeats 2000000 in
theorem kT(w0:World)(a:Nat)(b:Nat):
    Calls Try.prog 18 #[Value.float .f64 a,Value.float .f64 b] w0 (λee w=>ee= .returned (vb (decide (a=b)))/\cl w0.heap.size w0 w):=by
 refine ar Try.func18 rfl nq ?_
 have bH:=aU.start w0
 refine a7 (a6 rfl (ma (vb false) (a8 (a7 (a6 rfl (mv (Value.float .f64 a) (lw (Value.int .u64 ((a:Nat):Int)) (iO (a:=a) Try.func52 (by kernel_rfl) (by kernel_rfl) (by kernel_rfl) (by kernel_rfl) rfl) (mv (Value.float .f64 b) (lw (Value.int .u64 ((b:Nat):Int)) (iO (a:=b) Try.func52 (by kernel_rfl) (by kernel_rfl) (by kernel_rfl) (by kernel_rfl) rfl) (lx (du (m:=((a:Nat):Int)) (n:=((b:Nat):Int)) rfl rfl) (ma (vb (decide (((a:Nat):Int)=((b:Nat):Int)))) (a8 ?_))))))))))))
 refine au (vs:=[vb (decide (((a:Nat):Int)=((b:Nat):Int)))]) Try.func18 (.tmp rfl .nil) ?_
 have e0:(decide (((a:Nat):Int)=((b:Nat):Int)):Bool)=(decide (a=b)):=by
   (rw[decide_eq_decide];omega)
 exact⟨(congrArg (a₁:=decide (((a:Nat):Int)=((b:Nat):Int))) (λ(z0:Bool)=>Ending.returned (vb z0)) e0),bH.below⟩
set_option maxHeartbeats 4000000 in
theorem pE(w0:World)(fs:(List Nat)×(List Int))(fs_v fs_v1:Value)(hfs_v:Ro w0 fs_v fs.1)(hfs_v1:Ro w0 fs_v1 fs.2)(g:(Int)×(List Pt))(g_v:Value)(hg_v:Ro w0 g_v g.2)(t:Int)(hby:∀x∈fs.2,k6 x):
    Calls Try.prog 21 #[vg [fs_v,fs_v1],vg [vi g.1,g_v],vi t] w0 (λee w=>∃xx:aA×Value,ee= .returned ((λ⟨δ,rv0⟩=>vt [rv0,vi ((bF fs g t).2)]) xx)/\(λ(⟨δ,rv0⟩:aA×Value) (w:World)=>eh w0 δ w/\Ow δ (is 1) (is 1) w rv0 ((bF fs g t).1)) xx w):=by
 refine ar Try.func21 rfl nq ?_
 have bH:=aU.start w0
 have Rfs:=hfs_v.sl
 have r_fs_v1:=hfs_v1.sl
 have Rg:=hg_v.sl
 refine a7 (a6 rfl (cu rfl (cN c0 (is 1) (1,0) rfl rfl ?_)))
 intro g4 w1 b3 ch2 bx5
 replace bx5:Bx g4 (is 1) w1 b3 [fs_v,fs_v1]:=bx5
 refine lo (cN g4 (is 2) (2,0) rfl rfl ?_)
 intro g9 w6 b8 ch7 bx10
 replace bx10:Bx g9 (is 2) w6 b8 [vi g.1,g_v]:=bx10
 refine ma vn (ai 0 (a8 (a7 (a7 (a6 rfl (lx (aR (ds:=[vi g.1,g_v]) bP rfl bx10 rfl rfl) ?_))))))
 replace Rg:=(Rg.cn ch2).cn ch7
 refine lo (aZ (v:=vb (bZ g)) (aE (vals:=[vg [vi g.1,g_v]]) Try.func29 kj kx rfl) (je w6 g g_v (Rg).ro) ?_)
 intro w11 hb12
 replace hb12:=av hb12 g9
 refine lx (cv (b:=(bZ g)) rfl) (mv (vb (!(bZ g))) ?_)
 by_cases q15:(bZ g)=true
 ·
  refine lv (vp b3 0) (wy (congrArg Bool.not q15)) (ad ei rfl rfl rfl rfl) ?_
  replace bx5:=(bx5.cn ch7).cn hb12
  refine lv (fs_v) (wy (congrArg Bool.not q15)) (ae d6 rfl bx5 rfl) ?_
  have C13:=cg [] (ch2.n.seq (ch7.n.seq hb12.n))
  replace Rfs:=Rfs.ca C13
  have len14:=(Rfs).small
  refine lv (vi (fs.1.length:Int)) (wy (congrArg Bool.not q15)) (aV cG rfl Rfs) (lv (vp b8 0) (wy (congrArg Bool.not q15)) (ad cT rfl rfl rfl rfl) ?_)
  replace bx10:=bx10.cn hb12
  refine lv (vi g.1) (wy (congrArg Bool.not q15)) (ae ay rfl bx10 rfl) (lv (vb (!(decide ((fs.1.length:Int)=g.1)))) (wy (congrArg Bool.not q15)) (ch (m:=(fs.1.length:Int)) (n:=g.1) rfl rfl) (lw (vb (!(decide ((fs.1.length:Int)=g.1)))) (aI rfl (congrArg Bool.not q15) rfl) (mv (vb (!(decide ((fs.1.length:Int)=g.1)))) ?_)))
  by_cases q23:(fs.1.length:Int)=g.1
  ·
   refine lv (vp b3 1) (wy (congrArg Bool.not (dt q23))) (ad ei rfl rfl rfl rfl) (lv (fs_v1) (wy (congrArg Bool.not (dt q23))) (ae aF rfl bx5 rfl) ?_)
   replace r_fs_v1:=r_fs_v1.ca C13
   have len15:=(r_fs_v1).small
   refine lv (vi (fs.2.length:Int)) (wy (congrArg Bool.not (dt q23))) (aV bM rfl r_fs_v1) (lv (vp b8 0) (wy (congrArg Bool.not (dt q23))) (ad cT rfl rfl rfl rfl) (lv (vi g.1) (wy (congrArg Bool.not (dt q23))) (ae ay rfl bx10 rfl) (lv (vb (!(decide ((fs.2.length:Int)=g.1)))) (wy (congrArg Bool.not (dt q23))) (ch (m:=(fs.2.length:Int)) (n:=g.1) rfl rfl) (lw (vb (!(decide ((fs.2.length:Int)=g.1)))) (aI rfl (congrArg Bool.not (dt q23)) rfl) (a8 ?_)))))
   by_cases p1:(fs.2.length:Int)=g.1
   ·
    refine ag rfl (congrArg Bool.not (dt p1)) (ak (a7 (a7 ?_)))
    have hsh:dP fs g:=⟨of_decide_eq_true ‹_›,by assumption,by assumption⟩
    have hm:=hsh.1
    have hm0:=hm
    obtain⟨hm1,hm2,hm3,hm4⟩:=hm0
    have hbl:=hsh.2.2
    have hfl:=hsh.2.1
    refine a6 rfl (mi t (lx (aW (m:=t) (n:=0) rfl rfl) (mv (vb (decide (t<0))) ?_)))
    by_cases q33:t<0
    ·
     refine ah (wn (dt q33)) (ah (wn (dt q33)) (ah (wn (dt q33)) (ah (wn (dt q33)) (lw (vb true) (aB rfl (dt q33) rfl) (a8 (af rfl rfl (a7 ?_)))))))
     clear bx5 bx10
     refine a6 rfl (ma vn (ai 2 (a8 (au (vs:=[vn,vi 2]) Try.func21 (.tmp rfl (.tmp rfl .nil)) ?_))))
     replace bH:=bH.ca C13
     have e0:([]:List Int)=((bF fs g t).1):=by
       rw[jM hsh (by omega)]
     have e1:(2:Int)=((bF fs g t).2):=by
       rw[jM hsh (by omega)]
     exact⟨(fin w0 g9 (λn=>0),vn),(bD (a:=[]) (b:=2) (λ(z0:List Int) (z1:Int)=>Ending.returned (vt [vn,vi z1])) e0 e1),bH.fresh _,(e0▸Ow.nil)⟩
    refine lv (vi t) (wy (df q33)) (ao rfl) (lv (vp b8 0) (wy (df q33)) (ad cT rfl rfl rfl rfl) (lv (vi g.1) (wy (df q33)) (ae ay rfl bx10 rfl) (lv (vb (decide (g.1<=t))) (wy (df q33)) (dm (m:=t) (n:=g.1) rfl rfl) (lw (vb (decide (g.1<=t))) (aI rfl (df q33) rfl) (a8 ?_)))))
    by_cases p3:g.1<=t
    ·
     refine af rfl (dt p3) (a7 ?_)
     clear bx5 bx10
     refine a6 rfl (ma vn (ai 2 (a8 (au (vs:=[vn,vi 2]) Try.func21 (.tmp rfl (.tmp rfl .nil)) ?_))))
     replace bH:=bH.ca C13
     have e0:([]:List Int)=((bF fs g t).1):=by
       rw[jM hsh (by omega)]
     have e1:(2:Int)=((bF fs g t).2):=by
       rw[jM hsh (by omega)]
     exact⟨(fin w0 g9 (λn=>0),vn),(bD (a:=[]) (b:=2) (λ(z0:List Int) (z1:Int)=>Ending.returned (vt [vn,vi z1])) e0 e1),bH.fresh _,(e0▸Ow.nil)⟩
    refine ag rfl (df p3) (ak (a7 (a7 (a6 rfl (lx (ad ei rfl rfl rfl rfl) (lx (ae d6 rfl bx5 rfl) (mi t (lx (aa (v:=fs_v) (i:=t) cG rfl rfl Rfs rfl (by omega) (by omega)) (lx (az (v:=fs_v) (i:=t) aL rfl Rfs (by omega) (by omega) (by decide) rfl) (lo (aZ (v:=vb (dx (gI fs.1 t) 9218868437227405311)) (aE (vals:=[Value.float .f64 (gI fs.1 t),vi 1]) Try.func25 pN qa rfl) (gu w11 (gI fs.1 t) 1 (by rfl)) ?_)))))))))))
    intro w16 hb17
    replace hb17:=av hb17 g9
    refine a8 ?_
    by_cases p5:(dx (gI fs.1 t) 9218868437227405311)=true
    ·
     refine af rfl p5 (a7 ?_)
     clear bx5 bx10
     refine a6 rfl (ma vn (ai 14 (a8 (au (vs:=[vn,vi 14]) Try.func21 (.tmp rfl (.tmp rfl .nil)) ?_))))
     have C18:=cg [] (ch2.n.seq (ch7.n.seq (hb12.n.seq hb17.n)))
     replace bH:=bH.ca C18
     have e0:([]:List Int)=((bF fs g t).1):=by
       rw[pM hsh (by omega) ‹_›]
     have e1:(14:Int)=((bF fs g t).2):=by
       rw[pM hsh (by omega) ‹_›]
     exact⟨(fin w0 g9 (λn=>0),vn),(bD (a:=[]) (b:=14) (λ(z0:List Int) (z1:Int)=>Ending.returned (vt [vn,vi z1])) e0 e1),bH.fresh _,(e0▸Ow.nil)⟩
    refine ag rfl (Bool.eq_false_iff.2 p5) (ak (a7 (a6 rfl (ma vn (a8 (a7 (a6 rfl (mi t (ai t (a8 (a7 (a7 (a6 rfl (ai 0 (a8 ?_)))))))))))))))
    refine al ?_
    refine aP (σ:=Value×(List Int)×Int×Nat×aA) (λ⟨l_v,l,v,i,gq⟩ f w=>aU w0 gq w/\f 3=vp b3 0/\f 4=vp b8 0/\f 8=l_v/\f 9=vi v/\f 10=vi ↑i/\Sl gq (is 0) w fs_v fs.1/\Sl gq (is 0) w fs_v1 fs.2/\Sl gq (is 0) w g_v g.2/\Bx gq (is 1) w b3 [fs_v,fs_v1]/\Bx gq (is 2) w b8 [vi g.1,g_v]/\Ow gq (is 3) (is 3) w l_v l/\(ka g fs.2 t v l i)) (λ⟨l_v,l,v,i,gq⟩=>g.1.toNat+1-i) (vn,[],t,0,g9) ?_ ?_
    have C19:=cg [] (ch2.n.seq (ch7.n.seq (hb12.n.seq hb17.n)))
    · exact⟨bH.ca C19,rfl,rfl,rfl,rfl,rfl,Rfs.cn hb17,r_fs_v1.cn hb17,(Rg.cn hb12).cn hb17,bx5.cn hb17,bx10.cn hb17,Ow.nil,by exact ka.start (by omega) (by omega)⟩
    clear Rfs r_fs_v1 Rg bx5 bx10 bH
    rintro⟨l_v,l,v,i,g22⟩ f20 w21 ⟨bH,zs3,zs4,zs8,zs9,zs10,Rfs,r_fs_v1,Rg,bx5,bx10,o_l,hb⟩ back10
    have hv0:=hb.v0
    have hv1:=hb.v1
    have hln:=hb.ln
    have hll:=hb.ll
    refine a7 (a7 (a6 rfl (mz zs10 (lx (ad cT rfl rfl zs4 rfl) (lx (ae ay rfl bx10 rfl) (lx (iQ (m:=↑i) (n:=g.1) rfl rfl) (a8 ?_)))))))
    by_cases p10:(i:Int)<=g.1
    ·
     refine af rfl (dt p10) ?_
     have hbv:=hby _ (bu (xs:=fs.2) (i:=v) (by omega) (by omega))
     unfold k6 at hbv
     refine ak (a7 (al (a7 (a6 rfl (lx (ad ei rfl rfl zs3 rfl) (lx (ae aF rfl bx5 rfl) (mz zs9 (lx (aa (v:=fs_v1) (i:=v) bM rfl rfl r_fs_v1 rfl (by omega) (by omega)) (lx (az (v:=fs_v1) (i:=v) ay rfl r_fs_v1 (by omega) (by omega) (by decide) rfl) (ai (gI fs.2 v) ?_))))))))))
     refine a8 (a7 (a7 (a6 rfl (mi (gI fs.2 v) (lx (du (m:=(gI fs.2 v)) (n:= -1) rfl rfl) (a8 ?_))))))
     by_cases p13:(gI fs.2 v)=(-1)
     ·
      refine af rfl (dt p13) (a7 ?_)
      clear bx5 bx10
      refine a6 rfl (mz zs8 (ma l_v (ai 0 (a8 (au (vs:=[l_v,vi 0]) Try.func21 (.tmp rfl (.tmp rfl .nil)) ?_)))))
      have e0:(l:List Int)=((bF fs g t).1):=by
        rw[dT hsh (by omega) ‹_›,hb.fin ‹_›]
      have e1:(0:Int)=((bF fs g t).2):=by
        rw[dT hsh (by omega) ‹_›,hb.fin ‹_›]
      exact⟨(fin w0 g22 (λn=>if n=3 then 1 else 0),l_v),(bD (a:=l) (b:=0) (λ(z0:List Int) (z1:Int)=>Ending.returned (vt [l_v,vi z1])) e0 e1),bH.fresh _,(e0▸(o_l.glue (γ:=c0) (ren:=(λn=>if n=3 then 1 else 0)) (k:=1) bH.col rfl rfl))⟩
     refine ag rfl (df p13) (ak (a7 (a7 (a6 rfl (mz zs10 (lx (ad cT rfl rfl zs4 rfl) (lx (ae ay rfl bx10 rfl) (lx (du (m:=↑i) (n:=g.1) rfl rfl) (mv (vb (decide ((i:Int)=g.1))) ?_)))))))))
     by_cases q64:(i:Int)=g.1
     ·
      refine ah (wn (dt q64)) (ah (wn (dt q64)) (lw (vb true) (aB rfl (dt q64) rfl) (mv (vb true) (ah (wn rfl) (ah (wn rfl) (ah (wn rfl) (ah (wn rfl) (ah (wn rfl) (ah (wn rfl) (lw (vb true) (aB rfl rfl rfl) (mv (vb true) (ah (wn rfl) (ah (wn rfl) (ah (wn rfl) (ah (wn rfl) (ah (wn rfl) (lw (vb true) (aB rfl rfl rfl) (a8 ?_))))))))))))))))))
      refine af rfl rfl (aD rfl (a7 ?_))
      clear bx5 bx10 o_l
      refine a6 rfl (ma vn (ai 14 (a8 (au (vs:=[vn,vi 14]) Try.func21 (.tmp rfl (.tmp rfl .nil)) ?_))))
      have e0:([]:List Int)=((bF fs g t).1):=by
        rw[dT hsh (by omega) ‹_›,hb.no ‹_› (by exact .inl (by omega))]
      have e1:(14:Int)=((bF fs g t).2):=by
        rw[dT hsh (by omega) ‹_›,hb.no ‹_› (by exact .inl (by omega))]
      exact⟨(fin w0 g22 (λn=>0),vn),(bD (a:=[]) (b:=14) (λ(z0:List Int) (z1:Int)=>Ending.returned (vt [vn,vi z1])) e0 e1),bH.fresh _,(e0▸Ow.nil)⟩
     refine lv (vi (gI fs.2 v)) (wy (df q64)) (ao rfl) (lv (vb (decide ((gI fs.2 v)<0))) (wy (df q64)) (aW (m:=(gI fs.2 v)) (n:=0) rfl rfl) (lw (vb (decide ((gI fs.2 v)<0))) (aI rfl (df q64) rfl) (mv (vb (decide ((gI fs.2 v)<0))) ?_)))
     by_cases q68:(gI fs.2 v)<0
     ·
      refine ah (wn (dt q68)) (ah (wn (dt q68)) (ah (wn (dt q68)) (ah (wn (dt q68)) (ah (wn (dt q68)) (ah (wn (dt q68)) (lw (vb true) (aB rfl (dt q68) rfl) (mv (vb true) (ah (wn rfl) (ah (wn rfl) (ah (wn rfl) (ah (wn rfl) (ah (wn rfl) (lw (vb true) (aB rfl rfl rfl) ?_)))))))))))))
      refine a8 (af rfl rfl (aD rfl (a7 ?_)))
      clear bx5 bx10 o_l
      refine a6 rfl (ma vn (ai 14 (a8 (au (vs:=[vn,vi 14]) Try.func21 (.tmp rfl (.tmp rfl .nil)) ?_))))
      have e0:([]:List Int)=((bF fs g t).1):=by
        rw[dT hsh (by omega) ‹_›,hb.no ‹_› (by exact .inr (.inl ‹_›))]
      have e1:(14:Int)=((bF fs g t).2):=by
        rw[dT hsh (by omega) ‹_›,hb.no ‹_› (by exact .inr (.inl ‹_›))]
      exact⟨(fin w0 g22 (λn=>0),vn),(bD (a:=[]) (b:=14) (λ(z0:List Int) (z1:Int)=>Ending.returned (vt [vn,vi z1])) e0 e1),bH.fresh _,(e0▸Ow.nil)⟩
     refine lv (vi (gI fs.2 v)) (wy (df q68)) (ao rfl) (lv (vp b8 1) (wy (df q68)) (ad cT rfl rfl zs4 rfl) (lv (g_v) (wy (df q68)) (ae bJ rfl bx10 rfl) ?_))
     have len23:=(Rg).small
     refine lv (vi (g.2.length:Int)) (wy (df q68)) (aV fu rfl Rg) (lv (vi (2*(g.2.length:Int))) (wy (df q68)) (jq (m:=2) (n:=(g.2.length:Int)) rfl rfl (by omega)) (lv (vb (decide ((2*(g.2.length:Int))<=(gI fs.2 v)))) (wy (df q68)) (dm (m:=(gI fs.2 v)) (n:=2*(g.2.length:Int)) rfl rfl) (lw (vb (decide ((2*(g.2.length:Int))<=(gI fs.2 v)))) (aI rfl (df q68) rfl) (mv (vb (decide ((2*(g.2.length:Int))<=(gI fs.2 v)))) ?_))))
     by_cases q76:(2*(g.2.length:Int))<=(gI fs.2 v)
     ·
      refine ah (wn (dt q76)) (ah (wn (dt q76)) (ah (wn (dt q76)) (ah (wn (dt q76)) (ah (wn (dt q76)) (lw (vb true) (aB rfl (dt q76) rfl) (a8 (af rfl rfl (aD rfl (a7 ?_)))))))))
      clear bx5 bx10 o_l
      refine a6 rfl (ma vn (ai 14 (a8 (au (vs:=[vn,vi 14]) Try.func21 (.tmp rfl (.tmp rfl .nil)) ?_))))
      have e0:([]:List Int)=((bF fs g t).1):=by
        rw[dT hsh (by omega) ‹_›,hb.no ‹_› (by exact .inr (.inr (.inl (by omega))))]
      have e1:(14:Int)=((bF fs g t).2):=by
        rw[dT hsh (by omega) ‹_›,hb.no ‹_› (by exact .inr (.inr (.inl (by omega))))]
      exact⟨(fin w0 g22 (λn=>0),vn),(bD (a:=[]) (b:=14) (λ(z0:List Int) (z1:Int)=>Ending.returned (vt [vn,vi z1])) e0 e1),bH.fresh _,(e0▸Ow.nil)⟩
     refine lv (vg [vi g.1,g_v]) (wy (df q76)) (aR (ds:=[vi g.1,g_v]) bP zs4 bx10 rfl rfl) (lv (vi (gI fs.2 v)) (wy (df q76)) (ao rfl) (cu (wy (df q76)) (aZ (v:=vi (dc g (gI fs.2 v))) (aE (vals:=[vg [vi g.1,g_v],vi (gI fs.2 v)]) Try.func24 kW lY rfl) (nK w21 g g_v (Rg).ro (gI fs.2 v) (by omega) (by omega)) ?_)))
     intro w24 hb25
     replace hb25:=av hb25 g22
     refine lv (vi v) (wy (df q76)) (ao zs9) (lv (vb (!(decide ((dc g (gI fs.2 v))=v)))) (wy (df q76)) (ch (m:=dc g (gI fs.2 v)) (n:=v) rfl rfl) (lw (vb (!(decide ((dc g (gI fs.2 v))=v)))) (aI rfl (df q76) rfl) (a8 ?_)))
     by_cases p15:(dc g (gI fs.2 v))=v
     ·
      refine ag rfl (congrArg Bool.not (dt p15)) (ak (a7 (a6 rfl (mi (gI fs.2 v) (lo (aN (α:=Int) g22 (is 3) (is 3) (3,0) rfl ([(gI fs.2 v)]:List Int) bM ay (by decide) (by decide) (vs:=[(0,vi (gI fs.2 v))]) rfl rfl (.cons rfl .nil) ?_))))))
      intro g26 w27 v28 ch29 o30
      refine mz zs8 (lo ?_)
      replace o_l:=(o_l.cn hb25).cn ch29
      refine bs (α:=Int) (xs:=([(gI fs.2 v)]:List Int)) (ys:=l) g26 (J:=is 3) (S:=is 3) (3,0) rfl bM ay (by decide) rfl rfl rfl o30 o_l.flat (by decide) (by(simp;omega)) ?_
      intro g31 w32 v33 ch34 o35
      clear o_l o30
      refine ma v33 (a8 (a6 rfl ?_))
      have C36:=cg [3] (hb25.n.seq (ch29.n.seq (ch34.l rfl)))
      replace bx10:=bx10.ca C36
      refine lx (aR (ds:=[vi g.1,g_v]) bP zs4 bx10 rfl rfl) (mi (gI fs.2 v) ?_)
      replace Rg:=Rg.ca C36
      refine lo (aZ (v:=vi (aH g (gI fs.2 v))) (aE (vals:=[vg [vi g.1,g_v],vi (gI fs.2 v)]) Try.func23 eQ f5 rfl) (eU w32 g g_v (Rg).ro (gI fs.2 v) (by omega) (by omega)) ?_)
      intro w37 hb38
      replace hb38:=av hb38 g31
      refine ai (aH g (gI fs.2 v)) (a8 (aq (a6 rfl (mz zs10 (lx (aY (m:=↑i) (n:=1) rfl rfl (by omega)) (ai ((i:Int)+1) (a8 ?_)))))))
      have C39:=cg [3] (hb25.n.seq (ch29.n.seq ((ch34.l rfl).seq hb38.n)))
      refine back10 (v33,(([(gI fs.2 v)]:List Int)++l),aH g (gI fs.2 v),i+1,g31) _ _ ⟨bH.ca C39,zs3,zs4,rfl,rfl,rfl,Rfs.ca C39,r_fs_v1.ca C39,Rg.cn hb38,bx5.ca C39,bx10.cn hb38,o35.cn hb38,?_⟩ ?_
      · show ka g fs.2 t (aH g (gI fs.2 v)) (([(gI fs.2 v)]:List Int)++l) (i+1)
        exact hb.next hm ‹_› ‹_› (by omega) (by omega) ‹_›
      · show g.1.toNat+1-(i+1)<g.1.toNat+1-i
        omega
     refine af rfl (congrArg Bool.not (df p15)) (aD rfl (a7 ?_))
     clear bx5 bx10 o_l
     refine a6 rfl (ma vn (ai 14 (a8 (au (vs:=[vn,vi 14]) Try.func21 (.tmp rfl (.tmp rfl .nil)) ?_))))
     replace bH:=bH.cn hb25
     have e0:([]:List Int)=((bF fs g t).1):=by
       rw[dT hsh (by omega) ‹_›,hb.no ‹_› (by exact .inr (.inr (.inr ‹_›)))]
     have e1:(14:Int)=((bF fs g t).2):=by
       rw[dT hsh (by omega) ‹_›,hb.no ‹_› (by exact .inr (.inr (.inr ‹_›)))]
     exact⟨(fin w0 g22 (λn=>0),vn),(bD (a:=[]) (b:=14) (λ(z0:List Int) (z1:Int)=>Ending.returned (vt [vn,vi z1])) e0 e1),bH.fresh _,(e0▸Ow.nil)⟩
    refine ag rfl (df p10) (aD rfl (a7 ?_))
    clear bx5 bx10 o_l
    refine a6 rfl (ma vn (ai 14 (a8 (au (vs:=[vn,vi 14]) Try.func21 (.tmp rfl (.tmp rfl .nil)) ?_))))
    have e0:([]:List Int)=((bF fs g t).1):=by
      (exfalso;omega)
    have e1:(14:Int)=((bF fs g t).2):=by
      (exfalso;omega)
    exact⟨(fin w0 g22 (λn=>0),vn),(bD (a:=[]) (b:=14) (λ(z0:List Int) (z1:Int)=>Ending.returned (vt [vn,vi z1])) e0 e1),bH.fresh _,(e0▸Ow.nil)⟩
   refine af rfl (congrArg Bool.not (df p1)) (a7 ?_)
   clear bx5 bx10
   refine a6 rfl (ma vn (ai 1 (a8 (au (vs:=[vn,vi 1]) Try.func21 (.tmp rfl (.tmp rfl .nil)) ?_))))
   replace bH:=bH.ca C13
   have e0:([]:List Int)=((bF fs g t).1):=by
     rw[gE (λh=>absurd h.2.2 ‹_›)]
   have e1:(1:Int)=((bF fs g t).2):=by
     rw[gE (λh=>absurd h.2.2 ‹_›)]
   exact⟨(fin w0 g9 (λn=>0),vn),(bD (a:=[]) (b:=1) (λ(z0:List Int) (z1:Int)=>Ending.returned (vt [vn,vi z1])) e0 e1),bH.fresh _,(e0▸Ow.nil)⟩
  refine ah (wn (congrArg Bool.not (df q23))) (ah (wn (congrArg Bool.not (df q23))) (ah (wn (congrArg Bool.not (df q23))) (ah (wn (congrArg Bool.not (df q23))) (ah (wn (congrArg Bool.not (df q23))) (ah (wn (congrArg Bool.not (df q23))) (lw (vb true) (aB rfl (congrArg Bool.not (df q23)) rfl) (a8 (af rfl rfl (a7 ?_)))))))))
  clear bx5 bx10
  refine a6 rfl (ma vn (ai 1 (a8 (au (vs:=[vn,vi 1]) Try.func21 (.tmp rfl (.tmp rfl .nil)) ?_))))
  replace bH:=bH.ca C13
  have e0:([]:List Int)=((bF fs g t).1):=by
    rw[gE (λh=>absurd h.2.1 ‹_›)]
  have e1:(1:Int)=((bF fs g t).2):=by
    rw[gE (λh=>absurd h.2.1 ‹_›)]
  exact⟨(fin w0 g9 (λn=>0),vn),(bD (a:=[]) (b:=1) (λ(z0:List Int) (z1:Int)=>Ending.returned (vt [vn,vi z1])) e0 e1),bH.fresh _,(e0▸Ow.nil)⟩
 refine ah (wn (congrArg Bool.not (Bool.eq_false_iff.2 q15))) (ah (wn (congrArg Bool.not (Bool.eq_false_iff.2 q15))) (ah (wn (congrArg Bool.not (Bool.eq_false_iff.2 q15))) (ah (wn (congrArg Bool.not (Bool.eq_false_iff.2 q15))) (ah (wn (congrArg Bool.not (Bool.eq_false_iff.2 q15))) (ah (wn (congrArg Bool.not (Bool.eq_false_iff.2 q15))) (lw (vb true) (aB rfl (congrArg Bool.not (Bool.eq_false_iff.2 q15)) rfl) (mv (vb true) (ah (wn rfl) (ah (wn rfl) (ah (wn rfl) (ah (wn rfl) (ah (wn rfl) (ah (wn rfl) (lw (vb true) (aB rfl rfl rfl) ?_))))))))))))))
 refine a8 (af rfl rfl (a7 ?_))
 clear bx5 bx10
 refine a6 rfl (ma vn (ai 1 (a8 (au (vs:=[vn,vi 1]) Try.func21 (.tmp rfl (.tmp rfl .nil)) ?_))))
 have C40:=cg [] (ch2.n.seq (ch7.n.seq hb12.n))
 replace bH:=bH.ca C40
 have e0:([]:List Int)=((bF fs g t).1):=by
   rw[gE (λh=>absurd (dt h.1) ‹_›)]
 have e1:(1:Int)=((bF fs g t).2):=by
   rw[gE (λh=>absurd (dt h.1) ‹_›)]
 exact⟨(fin w0 g9 (λn=>0),vn),(bD (a:=[]) (b:=1) (λ(z0:List Int) (z1:Int)=>Ending.returned (vt [vn,vi z1])) e0 e1),bH.fresh _,(e0▸Ow.nil)⟩
theorem rG(w0:World)(us:List Wd)(us_v:Value)(hus_v:Ro w0 us_v us):
    Calls Try.prog 11 #[us_v] w0 (λee w=>∃xx:aA×Value,ee= .returned ((λ⟨δ,rv0⟩=>rv0) xx)/\(λ(⟨δ,rv0⟩:aA×Value) (w:World)=>eh w0 δ w/\Ow δ (is 1) (is 1) w rv0 (am us)) xx w):=by
 refine ar Try.func11 rfl nq ?_
 have bH:=aU.start w0
 have Rus:=hus_v.sl
 refine a7 (a6 rfl (ma vn (a8 (a7 (a6 rfl (ma vn (a8 (a7 (a7 (a6 rfl (ai 0 (a8 (al ?_)))))))))))))
 refine aP (σ:=Value×(List Nat)×Nat×aA) (λ⟨l_v,l,k,gq⟩ f w=>aU w0 gq w/\f 0=us_v/\f 3=l_v/\f 4=vi ↑k/\Sl gq (is 0) w us_v us/\Ow gq (is 2) (is 2) w l_v l/\(k:Int)<=((us.length:Int):Int)/\(l=am (us.take k))) (λ⟨l_v,l,k,gq⟩=>Int.toNat (((us.length:Int):Int)-(k:Int))) (vn,[],0,c0) ?_ ?_
 · exact⟨bH,rfl,rfl,rfl,Rus,Ow.nil,by omega,by rfl⟩
 clear Rus bH
 rintro⟨l_v,l,k,g3⟩ f1 w2 ⟨bH,zs0,zs3,zs4,Rus,o_l,hle_k,hinv⟩ back3
 have hll:l.length<=k:=by rw[hinv,nt,List.length_take];omega
 refine a7 (a7 (a6 rfl (mz zs4 (mz zs0 ?_))))
 have len4:=(Rus).small
 refine lx (aV s7 rfl Rus) (lx (aW (m:=↑k) (n:=(us.length:Int)) rfl rfl) (a8 ?_))
 by_cases p3:(k:Int)<(us.length:Int)
 ·
  refine af rfl (dt p3) (ak (a7 (al (a6 rfl (mz zs3 (mz zs0 (mz zs4 (lx (aa (v:=us_v) (i:=↑k) s7 rfl rfl Rus rfl (by omega) (by omega)) (lx (az (v:=us_v) (i:=↑k) pO rfl Rus (by omega) (by omega) (by decide) rfl) ?_)))))))))
  refine lw (Value.float .f64 (((gI us ↑k)).n)) (dX (n:=((((gI us ↑k)).n:Nat):Int)) Try.func37 (by kernel_rfl) (by kernel_rfl) (by kernel_rfl) (by kernel_rfl) rfl) (lo (aN (α:=Nat) g3 (is 1) (is 1) (1,0) rfl [((gI us ↑k)).n] cG aL (by decide) (by decide) (vs:=[(0,Value.float .f64 (((gI us ↑k)).n))]) rfl rfl (.cons rfl .nil) ?_))
  intro g5 w6 v7 ch8 o9
  refine lo ?_
  replace o_l:=o_l.cn ch8
  refine bs (α:=Nat) (xs:=l) (ys:=([((gI us ↑k)).n])) g5 (J:=is 2) (S:=is 2) (2,0) rfl cG aL (by decide) rfl rfl rfl o_l o9.flat (by decide) (by(simp;omega)) ?_
  intro g10 w11 v12 ch13 o14
  clear o_l
  refine ma v12 (a8 (aq ?_))
  clear o9
  refine a6 rfl (mz zs4 (lx (aY (m:=↑k) (n:=1) rfl rfl (by omega)) (ai ((k:Int)+1) (a8 ?_))))
  replace bH:=bH.cn ch8
  refine back3 (v12,(l++[((gI us ↑k)).n]),k+1,g10) _ _ ⟨bH.ce ch13,zs0,rfl,rfl,(Rus.cn ch8).ce ch13,o14,by omega,?_⟩ ?_
  · show(l++[((gI us ↑k)).n])=am (us.take (k+1))
    exact od hinv ‹_›
  · show Int.toNat (((us.length:Int):Int)-((k+1):Int))<Int.toNat (((us.length:Int):Int)-(k:Int))
    omega
 refine ag rfl (df p3) (aD rfl (a7 (a6 rfl (mz zs3 (ma l_v (a8 (au (vs:=[l_v]) Try.func11 (.tmp rfl .nil) ?_)))))))
 have e0:(l:List Nat)=(am us):=by
   exact oM hinv ‹_›
 exact⟨(fin w0 g3 (λn=>if n=2 then 1 else 0),l_v),(congrArg (a₁:=l) (λ(z0:List Nat)=>Ending.returned (l_v)) e0),bH.fresh _,(e0▸(o_l.glue (γ:=c0) (ren:=(λn=>if n=2 then 1 else 0)) (k:=1) bH.col rfl rfl))⟩
theorem kh(w0:World):
    Calls Try.prog 36 #[] w0 (λee w=>∃xx:aA×Value,ee= .returned ((λ⟨δ,rv0⟩=>vg [vi (((3,[(0,1),(1,2),(0,2)]):b6).1),rv0]) xx)/\(λ(⟨δ,rv0⟩:aA×Value) (w:World)=>eh w0 δ w/\Ow δ (is 1) (is 1) w rv0 (((3,[(0,1),(1,2),(0,2)]):b6).2)) xx w):=by
 refine ar Try.func36 rfl nq ?_
 have bH:=aU.start w0
 refine a7 (a6 rfl (cu rfl (bR c0 (is 1) (1,0) rfl bP ?_)))
 intro g4 w1 b3 ch2 bx5
 replace bx5:Bx g4 (is 1) w1 b3 [vi 0,vn]:=bx5
 refine a8 (a7 (a6 rfl (lw (vg [vi 0,vi 1]) (bC (vs:=[(0,vi 0),(1,vi 1)]) rfl (by kernel_rfl)) (lw (vg [vi 1,vi 2]) (bC (vs:=[(0,vi 1),(1,vi 2)]) rfl (by kernel_rfl)) (lw (vg [vi 0,vi 2]) (bC (vs:=[(0,vi 0),(1,vi 2)]) rfl (by kernel_rfl)) (lo ?_))))))
 refine aN (α:=Pt) g4 (is 2) (is 2) (2,0) rfl [(0,1),(1,2),(0,2)] fu e9 (by decide) (by decide) (vs:=[(0,vg [vi 0,vi 1]),(1,vg [vi 1,vi 2]),(2,vg [vi 0,vi 2])]) rfl rfl (.cons rfl (.cons rfl (.cons rfl .nil))) ?_
 intro g6 w7 v8 ch9 o10
 refine lw (vg [vi 3,v8]) (bC (vs:=[(0,vi 3),(1,v8)]) rfl (by rw[Sl.form o10.flat];kernel_rfl)) (lo ?_)
 replace bx5:=bx5.cn ch9
 refine aQ (cs':=[vi 3,v8]) bP rfl rfl bx5 rfl nq (AllOne.all (.cons rfl (.cons (bf o10.flat) .nil))) rfl ?_
 intro w11 ch12 bx13
 clear bx5
 refine a8 (au (vs:=[vg [vi 3,v8]]) Try.func36 (.cell rfl (cX (ds:=[vi 3,v8]) bP bx13 rfl rfl) .nil) ?_)
 have C14:=cg [1] (ch2.n.seq (ch9.n.seq (ch12.l rfl)))
 replace bH:=bH.ca C14
 replace o10:=o10.ce ch12
 have e0:((3,[(0,1),(1,2),(0,2)]):(Int)×(List Pt))=(((3,[(0,1),(1,2),(0,2)]):b6)):=by
   rfl
 exact⟨(fin w0 g6 (λn=>if n=2 then 1 else 0),v8),(congrArg (a₁:=(3,[(0,1),(1,2),(0,2)])) (λ(z0:(Int)×(List Pt))=>Ending.returned (vg [vi z0.1,v8])) e0),bH.fresh _,((congrArg (λ(z:(Int)×(List Pt))=>z.2) e0)▸(o10.glue (γ:=c0) (ren:=(λn=>if n=2 then 1 else 0)) (k:=1) bH.col rfl rfl))⟩
end TL
