import Derived.Test.YtfpckpgnnplhnaaGreatSwTlGmA
import Derived.Test.YtfpckpgnnplhnaaGreatSwTlGenA
import Derived.Test.YtfpckpgnnplhnaaGreatSwTlAli
set_option linter.all false
set_option maxRecDepth 20000
namespace TL
open Go Go.Proofs
theorem xA(w0:World)(block:List Int)(block_v:Value)(hblock_v:Ro w0 block_v block):
    Calls Tryz.prog 82 #[block_v] w0 (λee w=>∃xx:ax×Value,ee= .returned ((λ⟨δ,rv0⟩=>vt [rv0,vi ((bL block block.length).1.length:Int)]) xx)/\(λ(⟨δ,rv0⟩:ax×Value) (w:World)=>dz w0 δ w/\Ow δ (is 1) (is 1) w rv0 ((bL block block.length).2)) xx w):=by
 refine ah Tryz.func82 rfl nq ?_
 have bH:=aW.start w0
 have Rblock:=hblock_v.sl
 refine a7 (a6 rfl (ma vn (ai 0 (ab (a7 (a6 rfl (cy rfl (ep (K:=Int) c0 (is 1) (1,0) rfl ?_))))))))
 intro g1 w2 v3 ch4 m5
 refine ma v3 (ab (a7 (a6 rfl (mv block_v ?_))))
 have len6:=(Rblock).small
 refine lx (bG bF rfl Rblock.t) (lo (dF (α:=Int) (l:=(block.length:Int)) (cp:=(block.length:Int)) g1 (is 2) (is 2) (2,0) rfl (0:Int) bF ap rfl rfl rfl (by omega) (by omega) (by omega) (by omega) ?_))
 intro g7 w8 v9 ch10 o11 _
 refine ma v9 (ab (a7 (a7 (a6 rfl (mv block_v ?_)))))
 refine lx (bG bF rfl Rblock.t) (mi 0 (ab (aj ?_)))
 refine aR (σ:=Nat×(List Int)×((Int->Int)×List Int)×ax) (λ⟨k,out,mp,gq⟩ f w=>aW w0 gq w/\f 4=v3/\f 5=v9/\f 14=block_v/\f 15=vi (block.length:Int)/\f 16=vi ↑k/\Sl gq (is 0) w block_v block/\Md gq (is 1) w v3 mp.1 mp.2/\Ow gq (is 2) (is 2) w v9 out/\(k:Int)<=((block.length:Int):Int)/\(tR block mp out k)) (λ⟨k,out,mp,gq⟩=>Int.toNat (((block.length:Int):Int)-(k:Int))) (0,(List.replicate (Int.toNat (block.length:Int)) (0:Int)),((λ_=>0,[]):(Int->Int)×List (Int)),g7) ?_ ?_
 · exact⟨bH.t,rfl,rfl,rfl,rfl,rfl,Rblock.t,m5.t,o11,by omega,by exact tR.start⟩
 rintro⟨k,out,mp,g14⟩ f12 w13 ⟨bH,zs4,zs5,zs14,zs15,zs16,Rblock,m5,o11,hle_k,hn⟩ back4
 have hnl:=hn.lo
 refine a7 (a6 rfl (lx (br (m:=↑k) (n:=(block.length:Int)) zs16 zs15) (ab (a7 ?_))))
 by_cases p4:(k:Int)<(block.length:Int)
 ·
  refine ag rfl (dt p4) (am (a7 (aj (a7 (a6 rfl (mz zs16 (lx (ad (v:=block_v) (i:=↑k) bF rfl zs14 Rblock zs16 (by omega) (by omega)) (lx (aw (v:=block_v) (i:=↑k) ap rfl Rblock (by omega) (by omega) (by decide) rfl) (ai (k:Int) (ai (gI block ↑k) ?_))))))))))
  refine ab (a7 (a7 (a6 rfl (mz zs4 (mi (gI block ↑k) (lw (vt [vi (mp.1 (gI block ↑k)),vb (decide ((gI block ↑k)∈mp.2))]) (i8 (gI block ↑k) pV (be U3) ap rfl m5 rfl rfl) (mv (vt [vi (mp.1 (gI block ↑k)),vb (decide ((gI block ↑k)∈mp.2))]) (lx (ay rfl rfl) (lx (ay rfl rfl) (ai (mp.1 (gI block ↑k)) (ma (vb (decide ((gI block ↑k)∈mp.2))) (ab (a7 (a6 rfl ?_))))))))))))))
  refine mv (vb (decide ((gI block ↑k)∈mp.2))) (lx (fM (b:=decide ((gI block ↑k)∈mp.2)) rfl) (ab ?_))
  by_cases p7:(gI block ↑k)∈mp.2
  ·
   refine af rfl (congrArg Bool.not (dt p7)) (am (a6 rfl (mz zs5 (mi ↑k (mz zs4 (mi (gI block ↑k) (lw (vi (mp.1 (gI block ↑k))) (dx (gI block ↑k) pV (be U3) ap rfl m5.mp rfl rfl) (lx (ad (v:=v9) (i:=↑k) bF rfl rfl o11.flat rfl (by omega) (by omega)) (lo ?_)))))))))
   refine aU (i:=↑k) (mp.1 (gI block ↑k)) ap rfl rfl o11 (by omega) (by omega) rfl ?_
   intro w15 ch16 bx17
   refine ab (ak (a6 rfl (lx (aJ (m:=↑k) (n:=1) zs16 rfl (by omega)) (mi ((k:Int)+1) (ab ?_)))))
   refine back4 (k+1,(List.set out (Int.toNat ↑k) (mp.1 (gI block ↑k))),mp,g14) _ _ ⟨bH.t,zs4,zs5,zs14,zs15,rfl,Rblock.t,m5.t,bx17,by omega,?_⟩ ?_
   · show tR block mp (List.set out (Int.toNat ↑k) (mp.1 (gI block ↑k))) (k+1)
     exact hn.old ‹_› ‹_›
   · show Int.toNat (_-_)<Int.toNat (_-_)
     omega
  refine ag rfl (congrArg Bool.not (df p7)) (a6 rfl (mz zs4 (mi (gI block ↑k) (mz zs4 (lw (vi (mp.2.length:Int)) (jS pV rfl m5) (lo (eQ (m:=(mp.2.length:Int)) (gI block ↑k) pV (be U3) rfl m5 rfl rfl rfl ?_)))))))
  intro w18 ch19 m20
  refine ab (a6 rfl (mz zs5 (mi ↑k (mz zs4 (mi (gI block ↑k) (lw (vi (((λq=>if q=(gI block ↑k) then(mp.2.length:Int) else mp.1 q),if(gI block ↑k)∈mp.2 then mp.2 else mp.2++[(gI block ↑k)]).1 (gI block ↑k))) (dx (gI block ↑k) pV (be U3) ap rfl m20.mp rfl rfl) ?_))))))
  refine lx (ad (v:=v9) (i:=↑k) bF rfl rfl o11.t.flat rfl (by omega) (by omega)) (lo (aU (i:=↑k) (((λq=>if q=(gI block ↑k) then(mp.2.length:Int) else mp.1 q),if(gI block ↑k)∈mp.2 then mp.2 else mp.2++[(gI block ↑k)]).1 (gI block ↑k)) ap rfl rfl o11.t (by omega) (by omega) rfl ?_))
  intro w21 ch22 bx23
  refine ab (ak (a6 rfl (lx (aJ (m:=↑k) (n:=1) zs16 rfl (by omega)) (mi ((k:Int)+1) (ab ?_)))))
  refine back4 (k+1,(List.set out (Int.toNat ↑k) (((λq=>if q=(gI block ↑k) then(mp.2.length:Int) else mp.1 q),if(gI block ↑k)∈mp.2 then mp.2 else mp.2++[(gI block ↑k)]).1 (gI block ↑k))),((λq=>if q=(gI block ↑k) then(mp.2.length:Int) else mp.1 q),if(gI block ↑k)∈mp.2 then mp.2 else mp.2++[(gI block ↑k)]),g14) _ _ ⟨bH.t,zs4,zs5,zs14,zs15,rfl,Rblock.t,m20.t,bx23,by omega,?_⟩ ?_
  · show tR block ((λq=>if q=(gI block ↑k) then(mp.2.length:Int) else mp.1 q),if(gI block ↑k)∈mp.2 then mp.2 else mp.2++[(gI block ↑k)]) (List.set out (Int.toNat ↑k) (((λq=>if q=(gI block ↑k) then(mp.2.length:Int) else mp.1 q),if(gI block ↑k)∈mp.2 then mp.2 else mp.2++[(gI block ↑k)]).1 (gI block ↑k))) (k+1)
    exact hn.new ‹_› ‹_› rfl rfl
  · show Int.toNat (_-_)<Int.toNat (_-_)
    omega
 refine af rfl (df p4) (aF rfl (a7 (a6 rfl (mz zs5 (mz zs4 (lw (vi (mp.2.length:Int)) (jS pV rfl m5) (ma v9 (ai (mp.2.length:Int) (ab (az (vs:=[v9,vi (mp.2.length:Int)]) Tryz.func82 (.tmp rfl (.tmp rfl .nil)) ?_))))))))))
 have e0:(out:List Int)=((bL block block.length).2):=by
   exact(hn.done (by omega)).1
 have e1:((mp.2.length:Int):Int)=(((bL block block.length).1.length:Int)):=by
   exact(hn.done (by omega)).2
 exact⟨(fin w0 g14 (λn=>if n=2 then 1 else 0),v9),(cP (a:=out) (b:=(mp.2.length:Int)) (λ(z0:List Int) (z1:Int)=>Ending.returned (vt [v9,vi z1])) e0 e1),bH.t.fresh _,(e0▸(o11.t.glue (γ:=c0) (ren:=(λn=>if n=2 then 1 else 0)) (k:=1) bH.t.col rfl rfl))⟩
end TL
