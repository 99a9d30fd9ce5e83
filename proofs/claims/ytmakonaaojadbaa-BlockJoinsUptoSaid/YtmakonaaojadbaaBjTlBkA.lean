import Derived.Test.YtmakonaaojadbaaBjTlP3
import Derived.Test.YtmakonaaojadbaaBjTlGmA
import Derived.Test.YtmakonaaojadbaaBjTlGenA
import Derived.Test.YtmakonaaojadbaaProg
import Derived.Test.YtmakonaaojadbaaBjTlAli
set_option linter.all false
set_option maxRecDepth 20000
namespace TL
open Go Go.Proofs
theorem nF(w0:World)(block:List Int)(block_v:Value)(hblock_v:Ro w0 block_v block):
    Calls Try.prog 55 #[block_v] w0 (λee w=>∃xx:aC×Value,ee= .returned ((λ⟨δ,rv0⟩=>vt [rv0,vi ((ax block block.length).1.length:Int)]) xx)/\(λ(⟨δ,rv0⟩:aC×Value) (w:World)=>fi w0 δ w/\Ow δ (is 1) (is 1) w rv0 ((ax block block.length).2)) xx w):=by
 refine ar Try.func55 rfl nq ?_
 have bH:=bj.start w0
 have Rblock:=hblock_v.sl
 refine a6 (a0 rfl (ma vn (ai 0 (aa (a6 (a0 rfl (dG rfl (ic (K:=Int) c0 (is 1) (1,0) rfl ?_))))))))
 intro g1 w2 v3 ch4 m5
 refine ma v3 (aa (a6 (a0 rfl (mv block_v ?_))))
 replace Rblock:=Rblock.cn ch4
 have len6:=(Rblock).small
 refine lx (bC b6 rfl Rblock) (lo (cL (α:=Int) (l:=(block.length:Int)) (cp:=(block.length:Int)) g1 (is 2) (is 2) (2,0) rfl (0:Int) b6 ab rfl rfl rfl (by omega) (by omega) (by omega) (by omega) ?_))
 intro g7 w8 v9 ch10 o11 _
 refine ma v9 (aa (a6 (a6 (a0 rfl (mv block_v ?_)))))
 replace Rblock:=Rblock.cn ch10
 refine lx (bC b6 rfl Rblock) (mi 0 (aa (al ?_)))
 refine bd (σ:=Nat×(List Int)×((Int->Int)×List Int)×aC) (λ⟨k,out,mp,gq⟩ f w=>bj w0 gq w/\f 4=v3/\f 5=v9/\f 14=block_v/\f 15=vi (block.length:Int)/\f 16=vi ↑k/\Sl gq (is 0) w block_v block/\Md gq (is 1) w v3 mp.1 mp.2/\Ow gq (is 2) (is 2) w v9 out/\(k:Int)<=((block.length:Int):Int)/\(lC block mp out k)) (λ⟨k,out,mp,gq⟩=>Int.toNat (((block.length:Int):Int)-(k:Int))) (0,(List.replicate (Int.toNat (block.length:Int)) (0:Int)),((λ_=>0,[]):(Int->Int)×List (Int)),g7) ?_ ?_
 replace bH:=bH.cn ch4
 · exact⟨bH.cn ch10,rfl,rfl,rfl,rfl,rfl,Rblock,m5.cn ch10,o11,by omega,by exact lC.start⟩
 clear Rblock m5 o11 bH
 rintro⟨k,out,mp,g14⟩ f12 w13 ⟨bH,zs4,zs5,zs14,zs15,zs16,Rblock,m5,o11,hle_k,hn⟩ back4
 have hnl:=hn.lo
 refine a6 (a0 rfl (lx (aZ (m:=↑k) (n:=(block.length:Int)) zs16 zs15) (aa (a6 ?_))))
 by_cases p4:(k:Int)<(block.length:Int)
 ·
  refine af rfl (dt p4) (ap (a6 (al (a6 (a0 rfl (mz zs16 (lx (a9 (v:=block_v) (i:=↑k) b6 rfl zs14 Rblock zs16 (by omega) (by omega)) (lx (ah (v:=block_v) (i:=↑k) ab rfl Rblock (by omega) (by omega) (by decide) rfl) (ai (k:Int) (ai (gI block ↑k) ?_))))))))))
  refine aa (a6 (a6 (a0 rfl (mz zs4 (mi (gI block ↑k) (lw (vt [vi (mp.1 (gI block ↑k)),vb (decide ((gI block ↑k)∈mp.2))]) (jQ (gI block ↑k) g5 (bt U3) ab rfl m5 rfl rfl) (mv (vt [vi (mp.1 (gI block ↑k)),vb (decide ((gI block ↑k)∈mp.2))]) (lx (aH rfl rfl) (lx (aH rfl rfl) (ai (mp.1 (gI block ↑k)) (ma (vb (decide ((gI block ↑k)∈mp.2))) (aa (a6 (a0 rfl ?_))))))))))))))
  refine mv (vb (decide ((gI block ↑k)∈mp.2))) (lx (dQ (b:=decide ((gI block ↑k)∈mp.2)) rfl) (aa ?_))
  by_cases p7:(gI block ↑k)∈mp.2
  ·
   refine ae rfl (congrArg Bool.not (dt p7)) (ap (a0 rfl (mz zs5 (mi ↑k (mz zs4 (mi (gI block ↑k) (lw (vi (mp.1 (gI block ↑k))) (aQ (gI block ↑k) g5 (bt U3) ab rfl m5.mp rfl rfl) (lx (a9 (v:=v9) (i:=↑k) b6 rfl rfl o11.flat rfl (by omega) (by omega)) (lo ?_)))))))))
   refine av (i:=↑k) (mp.1 (gI block ↑k)) ab rfl rfl o11 (by omega) (by omega) rfl ?_
   intro w15 ch16 bx17
   clear o11
   refine aa (ag (a0 rfl (lx (aD (m:=↑k) (n:=1) zs16 rfl (by omega)) (mi ((k:Int)+1) (aa ?_)))))
   refine back4 (k+1,(List.set out (Int.toNat ↑k) (mp.1 (gI block ↑k))),mp,g14) _ _ ⟨bH.ce ch16,zs4,zs5,zs14,zs15,rfl,Rblock.ce ch16,m5.ce ch16,bx17,by omega,?_⟩ ?_
   · show lC block mp (List.set out (Int.toNat ↑k) (mp.1 (gI block ↑k))) (k+1)
     exact hn.old ‹_› ‹_›
   · show Int.toNat (((block.length:Int):Int)-((k+1):Int))<Int.toNat (((block.length:Int):Int)-(k:Int))
     omega
  refine af rfl (congrArg Bool.not (df p7)) (a0 rfl (mz zs4 (mi (gI block ↑k) (mz zs4 (lw (vi (mp.2.length:Int)) (iW g5 rfl m5) (lo (gB (m:=(mp.2.length:Int)) (gI block ↑k) g5 (bt U3) rfl m5 rfl rfl rfl ?_)))))))
  intro w18 ch19 m20
  clear m5
  refine aa (a0 rfl (mz zs5 (mi ↑k (mz zs4 (mi (gI block ↑k) (lw (vi (((λq=>if q=(gI block ↑k) then(mp.2.length:Int) else mp.1 q),if(gI block ↑k)∈mp.2 then mp.2 else mp.2++[(gI block ↑k)]).1 (gI block ↑k))) (aQ (gI block ↑k) g5 (bt U3) ab rfl m20.mp rfl rfl) ?_))))))
  replace o11:=o11.ce ch19
  refine lx (a9 (v:=v9) (i:=↑k) b6 rfl rfl o11.flat rfl (by omega) (by omega)) (lo (av (i:=↑k) (((λq=>if q=(gI block ↑k) then(mp.2.length:Int) else mp.1 q),if(gI block ↑k)∈mp.2 then mp.2 else mp.2++[(gI block ↑k)]).1 (gI block ↑k)) ab rfl rfl o11 (by omega) (by omega) rfl ?_))
  intro w21 ch22 bx23
  clear o11
  refine aa (ag (a0 rfl (lx (aD (m:=↑k) (n:=1) zs16 rfl (by omega)) (mi ((k:Int)+1) (aa ?_)))))
  replace bH:=bH.ce ch19
  refine back4 (k+1,(List.set out (Int.toNat ↑k) (((λq=>if q=(gI block ↑k) then(mp.2.length:Int) else mp.1 q),if(gI block ↑k)∈mp.2 then mp.2 else mp.2++[(gI block ↑k)]).1 (gI block ↑k))),((λq=>if q=(gI block ↑k) then(mp.2.length:Int) else mp.1 q),if(gI block ↑k)∈mp.2 then mp.2 else mp.2++[(gI block ↑k)]),g14) _ _ ⟨bH.ce ch22,zs4,zs5,zs14,zs15,rfl,(Rblock.ce ch19).ce ch22,m20.ce ch22,bx23,by omega,?_⟩ ?_
  · show lC block ((λq=>if q=(gI block ↑k) then(mp.2.length:Int) else mp.1 q),if(gI block ↑k)∈mp.2 then mp.2 else mp.2++[(gI block ↑k)]) (List.set out (Int.toNat ↑k) (((λq=>if q=(gI block ↑k) then(mp.2.length:Int) else mp.1 q),if(gI block ↑k)∈mp.2 then mp.2 else mp.2++[(gI block ↑k)]).1 (gI block ↑k))) (k+1)
    exact hn.new ‹_› ‹_› rfl rfl
  · show Int.toNat (((block.length:Int):Int)-((k+1):Int))<Int.toNat (((block.length:Int):Int)-(k:Int))
    omega
 refine ae rfl (df p4) (aF rfl (a6 (a0 rfl (mz zs5 (mz zs4 (lw (vi (mp.2.length:Int)) (iW g5 rfl m5) (ma v9 (ai (mp.2.length:Int) (aa (aA (vs:=[v9,vi (mp.2.length:Int)]) Try.func55 (.tmp rfl (.tmp rfl .nil)) ?_))))))))))
 have e0:(out:List Int)=((ax block block.length).2):=by
   exact(hn.done (by omega)).1
 have e1:((mp.2.length:Int):Int)=(((ax block block.length).1.length:Int)):=by
   exact(hn.done (by omega)).2
 exact⟨(fin w0 g14 (λn=>if n=2 then 1 else 0),v9),(dr (a:=out) (b:=(mp.2.length:Int)) (λ(z0:List Int) (z1:Int)=>Ending.returned (vt [v9,vi z1])) e0 e1),bH.fresh _,(e0▸(o11.glue (γ:=c0) (ren:=(λn=>if n=2 then 1 else 0)) (k:=1) bH.col rfl rfl))⟩
end TL
