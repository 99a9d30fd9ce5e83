import Derived.Test.YtfpckpgnnplhnaaGreatSwTlSortS
import Derived.Test.YtfpckpgnnplhnaaGreatSwTlAli
set_option linter.all false
set_option maxRecDepth 20000
namespace TL
open Go Go.Proofs
theorem cS:Tp Tryz.prog 3 false 1 8 (.int .i64 0):=Tp.of (by kernel_rfl)
theorem bD:Tp Tryz.prog 74 false 1 24 (.slice none 0 0):=Tp.of (by kernel_rfl)
theorem aI:Tp Tryz.prog 78 true 4 32 (.agg #[.int .i64 0,.int .i64 0,.int .i64 0,.int .i64 0]):=Tp.of (by kernel_rfl)
theorem ym:Tryz.f84.body.isNone=false:=rfl
theorem B0:(Tryz.f84.name== "runtime.NumGoroutine")=false:=by decide+kernel
theorem wz:Tryz.f85.body.isNone=false:=rfl
theorem yd:(Tryz.f85.name== "runtime.NumGoroutine")=false:=by decide+kernel
theorem jN(w0:World)(p_b:Nat)(p0_v:Value)(p1_v:Value)(PB:List Bd)(hp1_v:Ro w0 p1_v PB)(hp_b:Bx c0 (is 0) w0 p_b [p0_v,p1_v])(h0:0<(PB.length:Int))(hl:(PB.length:Int)<=100000):
    Calls Tryz.prog 57 #[vp p_b 0] w0 (λee w=>∃xx:ax×Value,ee= .returned ((λ⟨δ,rv0⟩=>rv0) xx)/\(λ(⟨δ,rv0⟩:ax×Value) (w:World)=>dz w0 δ w/\Ow δ (is 1) (is 1) w rv0 (cz PB)) xx w):=by
 refine ah Tryz.func57 rfl nq ?_
 have bH:=aW.start w0
 have Rp1:=hp1_v.sl
 refine a7 (a6 rfl (ma vn (ab (a7 (a6 rfl (ma vn (ab (a7 (a7 (a6 rfl (mv (vp p_b 0) (lw (vp p_b 0) (ae rfl) (lx (aa dV rfl rfl rfl rfl) (lx (a8 bD rfl hp_b rfl) ?_))))))))))))))
 have len1:=(Rp1).small
 refine lx (bG cM rfl Rp1) (mi 0 (ab (aj ?_)))
 refine aR (σ:=Value×(List Int)×Nat×ax) (λ⟨l_v,l,k,gq⟩ f w=>aW w0 gq w/\f 3=l_v/\f 9=p1_v/\f 10=vi (PB.length:Int)/\f 11=vi ↑k/\Sl gq (is 0) w p1_v PB/\Bx gq (is 0) w p_b [p0_v,p1_v]/\Ow gq (is 3) (is 3) w l_v l/\(k:Int)<=((PB.length:Int):Int)/\(l=eE (PB.take k))) (λ⟨l_v,l,k,gq⟩=>Int.toNat (((PB.length:Int):Int)-(k:Int))) (vn,[],0,c0) ?_ ?_
 · exact⟨bH,rfl,rfl,rfl,rfl,Rp1,hp_b,Ow.nil,by omega,by rfl⟩
 rintro⟨l_v,l,k,g4⟩ f2 w3 ⟨bH,zs3,zs9,zs10,zs11,Rp1,hp_b,o_l,hle_k,hl0⟩ back3
 have hll:l.length=2*(PB.take k).length:=by rw[hl0];exact iF _
 rw[List.length_take] at hll
 refine a7 (a6 rfl (lx (br (m:=↑k) (n:=(PB.length:Int)) zs11 zs10) (ab (a7 ?_))))
 by_cases p3:(k:Int)<(PB.length:Int)
 ·
  refine ag rfl (dt p3) (am (a7 (aj (a7 (a6 rfl (lx (ad (v:=p1_v) (i:=↑k) cM rfl zs9 Rp1 zs11 (by omega) (by omega)) (lw (vg [vi ((gI PB ↑k).1),vi (((gI PB ↑k).2).1),vi ((((gI PB ↑k).2).2).1),vi ((((gI PB ↑k).2).2).2)]) (bW (v:=p1_v) (i:=↑k) aI rfl Rp1 (by omega) (by omega) rfl) (lo (aZ g4 (is 1) (1,0) rfl aI ?_)))))))))
  intro g8 w5 b7 ch6 bx9
  refine lo (aA (cs':=[vi ((gI PB ↑k).1),vi (((gI PB ↑k).2).1),vi ((((gI PB ↑k).2).2).1),vi ((((gI PB ↑k).2).2).2)]) aI rfl rfl bx9 rfl nq (AllOne.all (.cons rfl (.cons rfl (.cons rfl (.cons rfl .nil))))) rfl ?_)
  intro w10 ch11 bx12
  refine ab (a6 rfl (mz zs3 (lx (aa jg rfl rfl rfl rfl) (lx (a8 cS rfl bx12 rfl) (lx (aa jg rfl rfl rfl rfl) (lx (a8 cS rfl bx12 rfl) (lo (aq (α:=Int) g8 (is 2) (is 2) (2,0) rfl [(gI PB ↑k).1,((gI PB ↑k).2).1] bF cS (by decide) (by decide) (vs:=[(0,vi ((gI PB ↑k).1)),(1,vi (((gI PB ↑k).2).1))]) rfl rfl (.cons rfl (.cons rfl .nil)) ?_))))))))
  intro g13 w14 v15 ch16 o17
  refine lo ?_
  refine aS (α:=Int) (xs:=l) (ys:=([(gI PB ↑k).1,((gI PB ↑k).2).1])) g13 (J:=is 3) (S:=is 3) (3,0) rfl bF cS (by decide) rfl rfl rfl o_l.t o17.flat (by decide) (by(simp;omega)) ?_
  intro g19 w20 v21 ch22 o23
  refine ma v21 (ab (ak ?_))
  refine a6 rfl (lx (aJ (m:=↑k) (n:=1) zs11 rfl (by omega)) (mi ((k:Int)+1) (ab ?_)))
  refine back3 (v21,(l++[(gI PB ↑k).1,((gI PB ↑k).2).1]),k+1,g19) _ _ ⟨bH.t,rfl,zs9,zs10,rfl,Rp1.t,hp_b.t,o23,by omega,?_⟩ ?_
  · show(l++[(gI PB ↑k).1,((gI PB ↑k).2).1])=eE (PB.take (k+1))
    rw[hl0];exact mX ‹_›
  · show Int.toNat (_-_)<Int.toNat (_-_)
    omega
 refine af rfl (df p3) (aF rfl (a7 ?_))
 have hle:l=eE PB:=by rw[hl0,List.take_of_length_le (by omega)]
 refine a6 rfl (mz zs3 (lo (bB (σ:=Unit) (V:=λ_=>Value.tuple #[]) (aB (vals:=[l_v]) Tryz.func84 ym B0 rfl) (Aj o_l.t (by rw[hle];exact rm (by omega)) (ys:=Fv PB) (by rw[hle];rfl)) ?_)))
 rintro⟨⟩ w25 ⟨ch26,o27⟩
 refine ab (a7 (a6 rfl (mz zs3 (lo (bB (σ:=Value) (V:=λx=>x) (aB (vals:=[l_v]) Tryz.func85 wz yd rfl) (zd o27 (zT PB)) ?_)))))
 rintro v28 w29 ⟨ch30,o31⟩
 refine ma v28 (ab (az (vs:=[v28]) Tryz.func57 (.tmp rfl .nil) ?_))
 have e0:((cz PB):List Int)=(cz PB):=by
   rfl
 exact⟨(fin w0 g4 (λn=>if n=3 then 1 else 0),v28),(congrArg (a₁:=(cz PB)) (λ(z0:List Int)=>Ending.returned (v28)) e0),bH.t.fresh _,(e0▸(o31.glue (γ:=c0) (ren:=(λn=>if n=3 then 1 else 0)) (k:=1) bH.t.col rfl rfl))⟩
end TL
