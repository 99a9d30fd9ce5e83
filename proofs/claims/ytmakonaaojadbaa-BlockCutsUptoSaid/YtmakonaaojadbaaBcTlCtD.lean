import Derived.Test.YtmakonaaojadbaaBcTlP4
import Derived.Test.YtmakonaaojadbaaBcTlGmA
import Derived.Test.YtmakonaaojadbaaBcTlGenA
import Derived.Test.YtmakonaaojadbaaBcTlErA
import Derived.Test.YtmakonaaojadbaaProg
import Derived.Test.YtmakonaaojadbaaBcTlAli
set_option linter.all false
set_option maxRecDepth 20000
namespace TL
open Go Go.Proofs
theorem iY(w0:World)(g:(Int)×(List Pt))(g_v:Value)(hg_v:Ro w0 g_v g.2)(hmay:aV g):
    Calls Try.prog 30 #[vg [vi g.1,g_v]] w0 (λee w=>∃xx:aG×Value,ee= .returned ((λ⟨δ,rv0⟩=>rv0) xx)/\(λ(⟨δ,rv0⟩:aG×Value) (w:World)=>fP w0 δ w/\Ow δ (is 1) (is 1) w rv0 (dX g)) xx w):=by
 refine aD Try.func30 rfl nq ?_
 have bH:=bx.start w0
 have Rg:=hg_v.sl
 have hm0:=hmay
 obtain⟨hm1,hm2,hm3,hm4⟩:=hm0
 refine ab (a8 rfl (dL rfl (dE c0 (is 1) (1,0) rfl rfl ?_)))
 intro g4 w1 b3 ch2 bx5
 replace bx5:Bx g4 (is 1) w1 b3 [vi g.1,g_v]:=bx5
 refine ma vn (ag (ab (a8 rfl (lx (ae dw rfl rfl rfl rfl) (lx (af ah rfl bx5 rfl) (lo (cN (α:=Int) (l:=g.1) (cp:=g.1) g4 (is 2) (is 2) (2,0) rfl (0:Int) ba ah rfl rfl rfl (by omega) (by omega) (by omega) (by omega) ?_)))))))
 intro g6 w7 v8 ch9 o10 _
 refine ma v8 (ag (ab (ab (a8 rfl (ai 0 (ag (ax ?_)))))))
 refine bn (σ:=Nat×(List Int)×aG) (λ⟨h,l,gq⟩ f w=>bx w0 gq w/\f 1=vp b3 0/\f 3=v8/\f 4=vi ↑h/\Sl gq (is 0) w g_v g.2/\Bx gq (is 1) w b3 [vi g.1,g_v]/\Ow gq (is 2) (is 2) w v8 l/\(h:Int)<=(2*(g.2.length:Int):Int)/\(jg l g h)) (λ⟨h,l,gq⟩=>Int.toNat ((2*(g.2.length:Int):Int)-(h:Int))) (0,(List.replicate (Int.toNat g.1) (0:Int)),g6) ?_ ?_
 replace bH:=bH.cn ch2
 · exact⟨bH.cn ch9,rfl,rfl,rfl,(Rg.cn ch2).cn ch9,bx5.cn ch9,o10,by omega,by exact jg.start g hm1⟩
 clear Rg bx5 o10 bH
 rintro⟨h,l,g13⟩ f11 w12 ⟨bH,zs1,zs3,zs4,Rg,bx5,o10,hle_h,hinv⟩ back3
 have hdl:=hinv.len
 refine ab (ab (a8 rfl (mz zs4 (lx (ae dw rfl rfl zs1 rfl) (lx (af bQ rfl bx5 rfl) ?_)))))
 have len14:=(Rg).small
 refine lx (bF eI rfl Rg) (lx (kv (m:=2) (n:=(g.2.length:Int)) rfl rfl (by omega)) (lx (bp (m:=↑h) (n:=2*(g.2.length:Int)) rfl rfl) (ag ?_)))
 by_cases p3:(h:Int)<(2*(g.2.length:Int))
 ·
  refine ao rfl (dt p3) ?_
  obtain⟨hf1,eY⟩:=mf hmay (h:=(h:Int)) (by omega) (by omega)
  have hbd:=hinv.bd hf1 eY
  refine ay (ab (ax (a8 rfl (mz zs3 (lx (aH (ds:=[vi g.1,g_v]) gQ zs1 bx5 rfl rfl) (mz zs4 (lo (cV (v:=vi (aq g (h:Int))) (bg (vals:=[vg [vi g.1,g_v],vi ↑h]) Try.func34 gS gF rfl) (gM w12 g g_v (Rg).ro (h:Int) (by omega) (by omega)) ?_))))))))
  intro w15 hb16
  replace hb16:=aZ hb16 g13
  replace o10:=o10.cn hb16
  refine lx (ad (v:=v8) (i:=aq g (h:Int)) ba rfl rfl o10.flat rfl (by omega) (by omega)) (lx (ap (v:=v8) (i:=aq g (h:Int)) ah rfl o10.flat (by omega) (by omega) (by decide) rfl) (lx (aF (m:=(gI l (aq g (h:Int)))) (n:=1) rfl rfl (by omega)) (lx (ad (v:=v8) (i:=aq g (h:Int)) ba rfl rfl o10.flat rfl (by omega) (by omega)) (lo (aA (i:=aq g (h:Int)) ((gI l (aq g (h:Int)))+1) ah rfl rfl o10 (by omega) (by omega) rfl ?_)))))
  intro w17 ch18 bx19
  clear o10
  refine ag (am (a8 rfl (mz zs4 (lx (aF (m:=↑h) (n:=1) rfl rfl (by omega)) (ai ((h:Int)+1) (ag ?_))))))
  replace bH:=bH.cn hb16
  refine back3 (h+1,(List.set l (Int.toNat (aq g (h:Int))) ((gI l (aq g (h:Int)))+1)),g13) _ _ ⟨bH.ce ch18,zs1,zs3,rfl,(Rg.cn hb16).ce ch18,(bx5.cn hb16).ce ch18,bx19,by omega,?_⟩ ?_
  · show jg (List.set l (Int.toNat (aq g (h:Int))) ((gI l (aq g (h:Int)))+1)) g (h+1)
    exact hinv.next hf1 eY
  · show Int.toNat ((2*(g.2.length:Int):Int)-((h+1):Int))<Int.toNat ((2*(g.2.length:Int):Int)-(h:Int))
    omega
 refine aj rfl (df p3) (aI rfl (ab ?_))
 clear bx5
 refine a8 rfl (mz zs3 (ma v8 (ag (aQ (vs:=[v8]) Try.func30 (.tmp rfl .nil) ?_))))
 have e0:(l:List Int)=(dX g):=by
   exact hinv.done (by omega)
 exact⟨(fin w0 g13 (λn=>if n=2 then 1 else 0),v8),(congrArg (a₁:=l) (λ(z0:List Int)=>Ending.returned (v8)) e0),bH.fresh _,(e0▸(o10.glue (γ:=c0) (ren:=(λn=>if n=2 then 1 else 0)) (k:=1) bH.col rfl rfl))⟩
end TL
