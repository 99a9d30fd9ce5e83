import Derived.Test.YtkhfimgjcdeejaaTlP3
import Derived.Test.YtkhfimgjcdeejaaTlGmA
import Derived.Test.YtkhfimgjcdeejaaTlGmN
import Derived.Test.YtkhfimgjcdeejaaProg
import Derived.Test.YtkhfimgjcdeejaaTlAli
set_option linter.all false
set_option maxRecDepth 20000
namespace TL
open Go Go.Proofs
theorem fN:Try.prog.follows .mixedOrders=true:=by kernel_rfl
theorem mf:Tp Try.prog 88 true 4 32 (.agg #[.int .i64 0,.int .i64 0,.int .i64 0,.int .i64 0]):=Tp.of (by kernel_rfl)
theorem pc:Try.f42.body.isNone=false:=rfl
theorem po:(Try.f42.name== "runtime.NumGoroutine")=false:=by decide+kernel
set_option maxHeartbeats 4000000 in
theorem nE(w0:World)(ps:List Pt)(ps_v:Value)(hps_v:Ro w0 ps_v ps)(hok:dy ps)(h0:0<ps.length):
    Calls Try.prog 30 #[ps_v] w0 (λee w=>ee= .returned (vb (decide (fc ps)))/\cW w0.heap.size w0 w):=by
 refine aI Try.func30 rfl nq ?_
 have bH:=bo.start w0
 have Rps:=hps_v.sl
 have hok2:=hok
 obtain⟨hl1,hl2⟩:=hok
 refine a6 (a5 rfl (ma (vb false) (a8 (a6 (a5 rfl (mv ps_v ?_))))))
 have len1:=(Rps).small
 refine lx (bE bZ rfl Rps) (lx (cX (m:=(ps.length:Int)) (n:=1) rfl rfl (by omega)) (ai ((ps.length:Int)-1) (a8 (a6 (a6 (a5 rfl (ai 0 (a8 (ao ?_)))))))))
 refine bf (σ:=Nat×aW) (λ⟨i,gq⟩ f w=>bo w0 gq w/\f 0=ps_v/\f 3=vi ((ps.length:Int)-1)/\f 4=vi ↑i/\Sl gq (is 0) w ps_v ps/\(i:Int)<=((ps.length:Int)-1:Int)/\(∀j:Nat,j<i->gI ps ↑j≠gI ps ((j:Int)+1))) (λ⟨i,gq⟩=>List.length ps-i) (0,c0) ?_ ?_
 · exact⟨bH,rfl,rfl,rfl,Rps,by omega,by intro j hj;omega⟩
 clear Rps bH
 rintro⟨i,g4⟩ f2 w3 ⟨bH,zs0,zs3,zs4,Rps,hle_i,hinv0⟩ back3
 refine a6 (a6 (a5 rfl (mz zs4 (mz zs3 (lx (b6 (m:=↑i) (n:=(ps.length:Int)-1) rfl rfl) (a8 ?_))))))
 by_cases p3:(i:Int)<((ps.length:Int)-1)
 ·
  refine ae rfl (dt p3) (am (a6 (ao (a6 (bv g4 rfl fN (by kernel_rfl) ?_)))))
  intro w6 ch5
  refine qz zs0 (qz zs4 ?_)
  replace Rps:=Rps.cn ch5
  refine qx (λw' hw'=>ab (v:=ps_v) (i:=↑i) bZ rfl rfl (Rps.bel hw') rfl (by omega) (by omega)) (qv (vg [vi ((gI ps ↑i).1),vi ((gI ps ↑i).2)]) (λw' hw'=>aM (v:=ps_v) (i:=↑i) ah rfl (Rps.bel hw') (by omega) (by omega) rfl) (qz zs0 (qz zs4 (qx (λw' hw'=>aQ (m:=↑i) (n:=1) rfl rfl (by omega)) (qx (λw' hw'=>ab (v:=ps_v) (i:=(i:Int)+1) bZ rfl rfl (Rps.bel hw') rfl (by omega) (by omega)) (qv (vg [vi ((gI ps ((i:Int)+1)).1),vi ((gI ps ((i:Int)+1)).2)]) (λw' hw'=>aM (v:=ps_v) (i:=(i:Int)+1) ah rfl (Rps.bel hw') (by omega) (by omega) rfl) ?_))))))
  refine qv (vb (decide ((gI ps ↑i)=(gI ps ((i:Int)+1))))) (λw' hw'=>fb (bs:=[decide (((gI ps ↑i).1)=((gI ps ((i:Int)+1)).1)),decide (((gI ps ↑i).2)=((gI ps ((i:Int)+1)).2))]) cq (by kernel_rfl) (by kernel_rfl) rfl rfl (.cons (by decide+kernel) aG rfl rfl (.int U3) (.cons (by decide+kernel) aG rfl rfl (.int U3) .nil)) (by simp[Prod.ext_iff,Bool.decide_and,Bool.and_assoc])) (bM ?_)
  intro w7 hc8
  replace hc8:=aj hc8 g4
  by_cases p5:(gI ps ↑i)=(gI ps ((i:Int)+1))
  ·
   refine ae rfl (dt p5) (a6 (a5 rfl (ma (vb false) (a8 (av (vs:=[vb false]) Try.func30 (.tmp rfl .nil) ?_)))))
   have e0:(false:Bool)=(decide (fc ps)):=by
     exact vm (i:=i) (by omega) ‹_›
   replace bH:=bH.cn ch5
   replace bH:=bH.cn hc8
   exact⟨rb e0,bH.below⟩
  refine af rfl (df p5) (am (ak (a5 rfl (mz zs4 (lx (aQ (m:=↑i) (n:=1) rfl rfl (by omega)) (ai ((i:Int)+1) (a8 ?_)))))))
  replace bH:=bH.cn ch5
  refine back3 (i+1,g4) _ _ ⟨bH.cn hc8,zs0,zs3,rfl,Rps.cn hc8,by omega,?_⟩ ?_
  · show∀j:Nat,j<(i+1)->gI ps ↑j≠gI ps ((j:Int)+1)
    intro j hj
    by_cases e0:j=i
    · subst e0;assumption
    · exact hinv0 j (by omega)
  · show List.length ps-(i+1)<List.length ps-i
    omega
 refine af rfl (df p3) (aO rfl (a6 (a6 ?_)))
 have hd0:∀j:Nat,(j:Int)<(ps.length:Int)-1->gI ps ↑j≠gI ps ((j:Int)+1):=λj hj=>hinv0 j (by omega)
 refine a5 rfl (ai 0 (a8 (ao ?_)))
 refine bf (σ:=Nat×aW) (λ⟨v,gq⟩ f w=>bo w0 gq w/\f 0=ps_v/\f 3=vi ((ps.length:Int)-1)/\f 5=vi ↑v/\Sl gq (is 0) w ps_v ps/\(v:Int)<=((ps.length:Int)-1:Int)/\(∀j_:Nat,j_<v->∀k_:Nat,j_<k_->(k_:Int)<(ps.length:Int)-1->¬fw ps j_ k_)) (λ⟨v,gq⟩=>List.length ps-v) (0,g4) ?_ ?_
 · exact⟨bH,zs0,zs3,rfl,Rps,by omega,by intro j hj;omega⟩
 clear Rps bH
 rintro⟨v,g11⟩ f9 w10 ⟨bH,zs0,zs3,zs5,Rps,hle_v,hinv⟩ back8
 refine a6 (a6 (a5 rfl (mz zs5 (mz zs3 (lx (b6 (m:=↑v) (n:=(ps.length:Int)-1) rfl rfl) (a8 ?_))))))
 by_cases p8:(v:Int)<((ps.length:Int)-1)
 ·
  refine ae rfl (dt p8) (am (a6 (ao (a6 (a5 rfl (mz zs5 (lx (aQ (m:=↑v) (n:=1) rfl rfl (by omega)) (ai ((v:Int)+1) (a8 (ao ?_))))))))))
  refine bf (σ:=Nat×aW) (λ⟨k,gq⟩ f w=>bo w0 gq w/\f 0=ps_v/\f 3=vi ((ps.length:Int)-1)/\f 5=vi ↑v/\f 6=vi ↑k/\Sl gq (is 0) w ps_v ps/\(k:Int)<=((ps.length:Int)-1:Int)/\((∀j_:Nat,v<j_->j_<k->¬fw ps v j_)/\v<k)) (λ⟨k,gq⟩=>List.length ps-k) (v+1,g11) ?_ ?_
  · exact⟨bH,zs0,zs3,zs5,rfl,Rps,by omega,by exact⟨λj h1 h2=>by omega,by omega⟩⟩
  clear Rps bH
  rintro⟨k,g14⟩ f12 w13 ⟨bH,zs0,zs3,zs5,zs6,Rps,hle_k,hk⟩ back11
  refine a6 (a6 (a5 rfl (mz zs6 (mz zs3 (lx (b6 (m:=↑k) (n:=(ps.length:Int)-1) rfl rfl) (a8 ?_))))))
  by_cases p11:(k:Int)<((ps.length:Int)-1)
  ·
   refine ae rfl (dt p11) ?_
   have hb1:=(hl2 _ (ba (xs:=ps) (i:=↑v) (by omega) (by omega))).bd
   have hb2:=(hl2 _ (ba (xs:=ps) (i:=(v:Int)+1) (by omega) (by omega))).bd
   have hb3:=(hl2 _ (ba (xs:=ps) (i:=↑k) (by omega) (by omega))).bd
   have hb4:=(hl2 _ (ba (xs:=ps) (i:=(k:Int)+1) (by omega) (by omega))).bd
   have hrm:=mG hb1 hb2 hb3 hb4
   refine am (a6 (ao (a6 (bv g14 rfl fN (by kernel_rfl) ?_))))
   intro w16 ch15
   refine qz zs0 (qz zs5 ?_)
   replace Rps:=Rps.cn ch15
   refine qx (λw' hw'=>ab (v:=ps_v) (i:=↑v) bZ rfl rfl (Rps.bel hw') rfl (by omega) (by omega)) (qv (vg [vi ((gI ps ↑v).1),vi ((gI ps ↑v).2)]) (λw' hw'=>aM (v:=ps_v) (i:=↑v) ah rfl (Rps.bel hw') (by omega) (by omega) rfl) (qz zs0 (qz zs5 (qx (λw' hw'=>aQ (m:=↑v) (n:=1) rfl rfl (by omega)) (qx (λw' hw'=>ab (v:=ps_v) (i:=(v:Int)+1) bZ rfl rfl (Rps.bel hw') rfl (by omega) (by omega)) (qv (vg [vi ((gI ps ((v:Int)+1)).1),vi ((gI ps ((v:Int)+1)).2)]) (λw' hw'=>aM (v:=ps_v) (i:=(v:Int)+1) ah rfl (Rps.bel hw') (by omega) (by omega) rfl) (qz zs0 (qz zs6 ?_))))))))
   refine qx (λw' hw'=>ab (v:=ps_v) (i:=↑k) bZ rfl rfl (Rps.bel hw') rfl (by omega) (by omega)) (qv (vg [vi ((gI ps ↑k).1),vi ((gI ps ↑k).2)]) (λw' hw'=>aM (v:=ps_v) (i:=↑k) ah rfl (Rps.bel hw') (by omega) (by omega) rfl) (qz zs0 (qz zs6 (qx (λw' hw'=>aQ (m:=↑k) (n:=1) rfl rfl (by omega)) (qx (λw' hw'=>ab (v:=ps_v) (i:=(k:Int)+1) bZ rfl rfl (Rps.bel hw') rfl (by omega) (by omega)) (qv (vg [vi ((gI ps ((k:Int)+1)).1),vi ((gI ps ((k:Int)+1)).2)]) (λw' hw'=>aM (v:=ps_v) (i:=(k:Int)+1) ah rfl (Rps.bel hw') (by omega) (by omega) rfl) ?_))))))
   refine cb (v:=vi (bU (gI ps ↑v) (gI ps ((v:Int)+1)) (gI ps ↑k) (gI ps ((k:Int)+1)))) rfl (λw' hw'=>az (vals:=[vg [vi ((gI ps ↑v).1),vi ((gI ps ↑v).2)],vg [vi ((gI ps ((v:Int)+1)).1),vi ((gI ps ((v:Int)+1)).2)],vg [vi ((gI ps ↑k).1),vi ((gI ps ↑k).2)],vg [vi ((gI ps ((k:Int)+1)).1),vi ((gI ps ((k:Int)+1)).2)]]) Try.func42 pc po rfl) (λw' hw'=>(ll w' (gI ps ↑v) (gI ps ((v:Int)+1)) (gI ps ↑k) (gI ps ((k:Int)+1)) ‹_› ‹_› ‹_› ‹_›).mono λe w2 h2=>⟨h2.1,hw'.trans (h2.2.mono hw'.size)⟩) ?_
   refine qv (vi (bU (gI ps ↑v) (gI ps ((v:Int)+1)) (gI ps ↑k) (gI ps ((k:Int)+1)))) (λw' hw'=>bi rfl) (bM ?_)
   intro w17 hc18
   replace hc18:=aj hc18 g14
   refine a6 (a5 rfl (mz zs6 (mz zs5 (lx (aQ (m:=↑v) (n:=1) rfl rfl (by omega)) (lx (cu (m:=↑k) (n:=(v:Int)+1) rfl rfl) (ma (vb (decide ((k:Int)=((v:Int)+1)))) (a8 (a6 (bv g14 rfl fN (by kernel_rfl) ?_)))))))))
   intro w20 ch19
   refine qz zs5 (qx (λw' hw'=>cu (m:=↑v) (n:=0) rfl rfl) (qm (vb (decide ((v:Int)=0))) ?_))
   by_cases q65:(v:Int)=0
   ·
    refine aR (v:=vi ↑k) (wy (dt q65)) (λw' hw'=>aw zs6) (aR (v:=vi ((ps.length:Int)-1)) (wy (dt q65)) (λw' hw'=>aw zs3) (aR (v:=vi (((ps.length:Int)-1)-1)) (wy (dt q65)) (λw' hw'=>cX (m:=(ps.length:Int)-1) (n:=1) rfl rfl (by omega)) (aR (v:=vb (decide ((k:Int)=(((ps.length:Int)-1)-1)))) (wy (dt q65)) (λw' hw'=>cu (m:=↑k) (n:=((ps.length:Int)-1)-1) rfl rfl) (qv (vb (decide ((k:Int)=(((ps.length:Int)-1)-1)))) (λw' hw'=>aD rfl (dt q65) rfl) (qm (vb (decide ((k:Int)=(((ps.length:Int)-1)-1)))) ?_)))))
    by_cases q71:(k:Int)=(((ps.length:Int)-1)-1)
    ·
     refine aR (v:=vi ((ps.length:Int)-1)) (wy (dt q71)) (λw' hw'=>aw zs3) (aR (v:=vb (decide (3<=((ps.length:Int)-1)))) (wy (dt q71)) (λw' hw'=>fW (m:=(ps.length:Int)-1) (n:=3) rfl rfl) (qv (vb (decide (3<=((ps.length:Int)-1)))) (λw' hw'=>aD rfl (dt q71) rfl) (qm (vb (decide (3<=((ps.length:Int)-1)))) ?_)))
     by_cases q75:3<=((ps.length:Int)-1)
     ·
      refine aR (v:=ps_v) (wy (dt q75)) (λw' hw'=>aw zs0) ?_
      replace Rps:=(Rps.cn hc18).cn ch19
      refine aR (v:=Value.pointer (some (aU ps_v 2 (Int.toNat 0)))) (wy (dt q75)) (λw' hw'=>ab (α:=Pt) (xs:=ps) (v:=ps_v) (i:=0) bZ rfl rfl (Rps.bel hw') rfl (by omega) (by omega)) (aR (v:=vg [vi ((gI ps 0).1),vi ((gI ps 0).2)]) (wy (dt q75)) (λw' hw'=>aM (α:=Pt) (xs:=ps) (v:=ps_v) (i:=0) ah rfl (Rps.bel hw') (by omega) (by omega) rfl) (aR (v:=ps_v) (wy (dt q75)) (λw' hw'=>aw zs0) (aR (v:=vi ((ps.length:Int)-1)) (wy (dt q75)) (λw' hw'=>aw zs3) ?_)))
      refine aR (v:=Value.pointer (some (aU ps_v 2 (Int.toNat ((ps.length:Int)-1))))) (wy (dt q75)) (λw' hw'=>ab (α:=Pt) (xs:=ps) (v:=ps_v) (i:=(ps.length:Int)-1) bZ rfl rfl (Rps.bel hw') rfl (by omega) (by omega)) (aR (v:=vg [vi ((gI ps ((ps.length:Int)-1)).1),vi ((gI ps ((ps.length:Int)-1)).2)]) (wy (dt q75)) (λw' hw'=>aM (α:=Pt) (xs:=ps) (v:=ps_v) (i:=(ps.length:Int)-1) ah rfl (Rps.bel hw') (by omega) (by omega) rfl) ?_)
      refine aR (v:=vb (decide ((gI ps 0)=(gI ps ((ps.length:Int)-1))))) (wy (dt q75)) (λw' hw'=>fb (bs:=[decide (((gI ps 0).1)=((gI ps ((ps.length:Int)-1)).1)),decide (((gI ps 0).2)=((gI ps ((ps.length:Int)-1)).2))]) cq (by kernel_rfl) (by kernel_rfl) rfl rfl (.cons (by decide+kernel) aG rfl rfl (.int U3) (.cons (by decide+kernel) aG rfl rfl (.int U3) .nil)) (by simp[Prod.ext_iff,Bool.decide_and,Bool.and_assoc])) (qv (vb (decide ((gI ps 0)=(gI ps ((ps.length:Int)-1))))) (λw' hw'=>aD rfl (dt q75) rfl) (qv (vb (decide ((gI ps 0)=(gI ps ((ps.length:Int)-1))))) (λw' hw'=>bi rfl) (bM ?_)))
      intro w21 hc22
      replace hc22:=aj hc22 g14
      refine a6 (a5 rfl (mv (vb (decide ((k:Int)=((v:Int)+1)))) (mv (vb (decide ((k:Int)=((v:Int)+1)))) ?_)))
      by_cases q86:(k:Int)=((v:Int)+1)
      ·
       refine aa (wn (dt q86)) (lw (vb true) (aD rfl (dt q86) rfl) (mv (vb true) (lv (vi (bU (gI ps ↑v) (gI ps ((v:Int)+1)) (gI ps ↑k) (gI ps ((k:Int)+1)))) (wy rfl) (aw rfl) (lv (vb (!(decide ((bU (gI ps ↑v) (gI ps ((v:Int)+1)) (gI ps ↑k) (gI ps ((k:Int)+1)))=2)))) (wy rfl) (dz (m:=bU (gI ps ↑v) (gI ps ((v:Int)+1)) (gI ps ↑k) (gI ps ((k:Int)+1))) (n:=2) rfl rfl) (lw (vb (!(decide ((bU (gI ps ↑v) (gI ps ((v:Int)+1)) (gI ps ↑k) (gI ps ((k:Int)+1)))=2)))) (aD rfl rfl rfl) (mv (vb (!(decide ((bU (gI ps ↑v) (gI ps ((v:Int)+1)) (gI ps ↑k) (gI ps ((k:Int)+1)))=2)))) ?_))))))
       by_cases q93:(bU (gI ps ↑v) (gI ps ((v:Int)+1)) (gI ps ↑k) (gI ps ((k:Int)+1)))=2
       ·
        refine lv (vb (decide ((k:Int)=((v:Int)+1)))) (wy (congrArg Bool.not (dt q93))) (aw rfl) (lv (vb (!(decide ((k:Int)=((v:Int)+1))))) (wy (congrArg Bool.not (dt q93))) (cm (b:=decide ((k:Int)=((v:Int)+1))) rfl) (lv (vb (!(decide ((k:Int)=((v:Int)+1))))) (wy (congrArg Bool.not (dt q93))) (aw rfl) (aa (wn (congrArg Bool.not (dt q86))) (aa (wn (congrArg Bool.not (dt q86))) (lv (vb false) (wy (congrArg Bool.not (dt q93))) (aB rfl (congrArg Bool.not (dt q86)) rfl) (lv (vb false) (wy (congrArg Bool.not (dt q93))) (aw rfl) (aa (wn rfl) (aa (wn rfl) ?_))))))))
        refine lv (vb false) (wy (congrArg Bool.not (dt q93))) (aB rfl rfl rfl) (lw (vb false) (aB rfl (congrArg Bool.not (dt q93)) rfl) (a8 (af rfl rfl (am (ak (a5 rfl (mz zs6 (lx (aQ (m:=↑k) (n:=1) rfl rfl (by omega)) (ai ((k:Int)+1) ?_)))))))))
        refine a8 ?_
        have C23:=cg [] (ch15.n.seq (hc18.n.seq (ch19.n.seq hc22.n)))
        refine back11 (k+1,g14) _ _ ⟨bH.ca C23,zs0,zs3,zs5,rfl,Rps.cn hc22,by omega,?_⟩ ?_
        · show(∀j_:Nat,v<j_->j_<(k+1)->¬fw ps v j_)/\v<(k+1)
          refine⟨λj h1 h2=>?_,by omega⟩
          by_cases e0:j=k
          · subst e0
            exact nw (by exact jF ‹_›) (by rw[<-hrm];assumption)
          · exact hk.1 j h1 (by omega)
        · show List.length ps-(k+1)<List.length ps-k
          omega
       refine aa (wn (congrArg Bool.not (df q93))) (aa (wn (congrArg Bool.not (df q93))) (aa (wn (congrArg Bool.not (df q93))) (aa (bg rfl rfl rfl) (aa (bg rfl rfl rfl) (aa (wn (congrArg Bool.not (df q93))) (aa (wn (congrArg Bool.not (df q93))) (aa (bg rfl rfl rfl) (aa (bg rfl rfl rfl) (aa (wn (congrArg Bool.not (df q93))) ?_)))))))))
       refine lw (vb true) (aD rfl (congrArg Bool.not (df q93)) rfl) (a8 (ae rfl rfl (a6 (a5 rfl (ma (vb false) (a8 (av (vs:=[vb false]) Try.func30 (.tmp rfl .nil) ?_)))))))
       have e0:(false:Bool)=(decide (fc ps)):=by
         exact eY (i:=v) (k:=k) (by omega) (by omega) hk.2 (by exact rS hok2 (by omega) (by omega) (by exact jF ‹_›) (by rw[<-hrm];assumption))
       have C24:=cg [] (ch15.n.seq (hc18.n.seq (ch19.n.seq hc22.n)))
       replace bH:=bH.ca C24
       exact⟨rb e0,bH.below⟩
      refine lv (vb (decide ((gI ps 0)=(gI ps ((ps.length:Int)-1))))) (wy (df q86)) (aw rfl) (lw (vb (decide ((gI ps 0)=(gI ps ((ps.length:Int)-1))))) (aB rfl (df q86) rfl) (mv (vb (decide ((gI ps 0)=(gI ps ((ps.length:Int)-1))))) ?_))
      by_cases q89:(gI ps 0)=(gI ps ((ps.length:Int)-1))
      ·
       refine lv (vi (bU (gI ps ↑v) (gI ps ((v:Int)+1)) (gI ps ↑k) (gI ps ((k:Int)+1)))) (wy (dt q89)) (aw rfl) (lv (vb (!(decide ((bU (gI ps ↑v) (gI ps ((v:Int)+1)) (gI ps ↑k) (gI ps ((k:Int)+1)))=2)))) (wy (dt q89)) (dz (m:=bU (gI ps ↑v) (gI ps ((v:Int)+1)) (gI ps ↑k) (gI ps ((k:Int)+1))) (n:=2) rfl rfl) (lw (vb (!(decide ((bU (gI ps ↑v) (gI ps ((v:Int)+1)) (gI ps ↑k) (gI ps ((k:Int)+1)))=2)))) (aD rfl (dt q89) rfl) (mv (vb (!(decide ((bU (gI ps ↑v) (gI ps ((v:Int)+1)) (gI ps ↑k) (gI ps ((k:Int)+1)))=2)))) ?_)))
       by_cases q93:(bU (gI ps ↑v) (gI ps ((v:Int)+1)) (gI ps ↑k) (gI ps ((k:Int)+1)))=2
       ·
        refine lv (vb (decide ((k:Int)=((v:Int)+1)))) (wy (congrArg Bool.not (dt q93))) (aw rfl) (lv (vb (!(decide ((k:Int)=((v:Int)+1))))) (wy (congrArg Bool.not (dt q93))) (cm (b:=decide ((k:Int)=((v:Int)+1))) rfl) (lv (vb (!(decide ((k:Int)=((v:Int)+1))))) (wy (congrArg Bool.not (dt q93))) (aw rfl) (lv (vb (decide ((gI ps 0)=(gI ps ((ps.length:Int)-1))))) (wy (congrArg Bool.not (df q86))) (aw rfl) (lv (vb (!(decide ((gI ps 0)=(gI ps ((ps.length:Int)-1)))))) (wy (congrArg Bool.not (df q86))) (cm (b:=decide ((gI ps 0)=(gI ps ((ps.length:Int)-1)))) rfl) ?_))))
        refine lv (vb (!(decide ((gI ps 0)=(gI ps ((ps.length:Int)-1)))))) (wy (congrArg Bool.not (dt q93))) (aD rfl (congrArg Bool.not (df q86)) rfl) (lv (vb (!(decide ((gI ps 0)=(gI ps ((ps.length:Int)-1)))))) (wy (congrArg Bool.not (dt q93))) (aw rfl) (aa (wn (congrArg Bool.not (dt q89))) (aa (wn (congrArg Bool.not (dt q89))) (lv (vb false) (wy (congrArg Bool.not (dt q93))) (aB rfl (congrArg Bool.not (dt q89)) rfl) (lw (vb false) (aB rfl (congrArg Bool.not (dt q93)) rfl) (a8 (af rfl rfl (am (ak ?_)))))))))
        refine a5 rfl (mz zs6 (lx (aQ (m:=↑k) (n:=1) rfl rfl (by omega)) (ai ((k:Int)+1) (a8 ?_))))
        have C25:=cg [] (ch15.n.seq (hc18.n.seq (ch19.n.seq hc22.n)))
        refine back11 (k+1,g14) _ _ ⟨bH.ca C25,zs0,zs3,zs5,rfl,Rps.cn hc22,by omega,?_⟩ ?_
        · show(∀j_:Nat,v<j_->j_<(k+1)->¬fw ps v j_)/\v<(k+1)
          refine⟨λj h1 h2=>?_,by omega⟩
          by_cases e0:j=k
          · subst e0
            exact nw (by exact s5 ‹_› ‹_› ‹_› ‹_›) (by rw[<-hrm];assumption)
          · exact hk.1 j h1 (by omega)
        · show List.length ps-(k+1)<List.length ps-k
          omega
       refine aa (wn (congrArg Bool.not (df q93))) (aa (wn (congrArg Bool.not (df q93))) (aa (wn (congrArg Bool.not (df q93))) (aa (bg rfl rfl rfl) (aa (bg rfl rfl rfl) (aa (wn (congrArg Bool.not (df q93))) (aa (wn (congrArg Bool.not (df q93))) (aa (bg rfl rfl rfl) (aa (bg rfl rfl rfl) (aa (wn (congrArg Bool.not (df q93))) ?_)))))))))
       refine lw (vb true) (aD rfl (congrArg Bool.not (df q93)) rfl) (a8 (ae rfl rfl (a6 (a5 rfl (ma (vb false) (a8 (av (vs:=[vb false]) Try.func30 (.tmp rfl .nil) ?_)))))))
       have e0:(false:Bool)=(decide (fc ps)):=by
         exact eY (i:=v) (k:=k) (by omega) (by omega) hk.2 (by exact rS hok2 (by omega) (by omega) (by exact s5 ‹_› ‹_› ‹_› ‹_›) (by rw[<-hrm];assumption))
       have C26:=cg [] (ch15.n.seq (hc18.n.seq (ch19.n.seq hc22.n)))
       replace bH:=bH.ca C26
       exact⟨rb e0,bH.below⟩
      refine aa (wn (df q89)) (aa (wn (df q89)) (lw (vb false) (aB rfl (df q89) rfl) (mv (vb false) (lv (vb (decide ((k:Int)=((v:Int)+1)))) (wy rfl) (aw rfl) (lv (vb (!(decide ((k:Int)=((v:Int)+1))))) (wy rfl) (cm (b:=decide ((k:Int)=((v:Int)+1))) rfl) (lv (vb (!(decide ((k:Int)=((v:Int)+1))))) (wy rfl) (aw rfl) (lv (vb (decide ((gI ps 0)=(gI ps ((ps.length:Int)-1))))) (wy (congrArg Bool.not (df q86))) (aw rfl) ?_)))))))
      refine lv (vb (!(decide ((gI ps 0)=(gI ps ((ps.length:Int)-1)))))) (wy (congrArg Bool.not (df q86))) (cm (b:=decide ((gI ps 0)=(gI ps ((ps.length:Int)-1)))) rfl) (lv (vb (!(decide ((gI ps 0)=(gI ps ((ps.length:Int)-1)))))) (wy rfl) (aD rfl (congrArg Bool.not (df q86)) rfl) (lv (vb (!(decide ((gI ps 0)=(gI ps ((ps.length:Int)-1)))))) (wy rfl) (aw rfl) (lv (vi (bU (gI ps ↑v) (gI ps ((v:Int)+1)) (gI ps ↑k) (gI ps ((k:Int)+1)))) (wy (congrArg Bool.not (df q89))) (aw rfl) ?_)))
      refine lv (vb (!(decide ((bU (gI ps ↑v) (gI ps ((v:Int)+1)) (gI ps ↑k) (gI ps ((k:Int)+1)))=0)))) (wy (congrArg Bool.not (df q89))) (dz (m:=bU (gI ps ↑v) (gI ps ((v:Int)+1)) (gI ps ↑k) (gI ps ((k:Int)+1))) (n:=0) rfl rfl) (lv (vb (!(decide ((bU (gI ps ↑v) (gI ps ((v:Int)+1)) (gI ps ↑k) (gI ps ((k:Int)+1)))=0)))) (wy rfl) (aD rfl (congrArg Bool.not (df q89)) rfl) (lw (vb (!(decide ((bU (gI ps ↑v) (gI ps ((v:Int)+1)) (gI ps ↑k) (gI ps ((k:Int)+1)))=0)))) (aB rfl rfl rfl) (a8 ?_)))
      by_cases p16:(bU (gI ps ↑v) (gI ps ((v:Int)+1)) (gI ps ↑k) (gI ps ((k:Int)+1)))=0
      ·
       refine af rfl (congrArg Bool.not (dt p16)) (am (ak (a5 rfl (mz zs6 (lx (aQ (m:=↑k) (n:=1) rfl rfl (by omega)) (ai ((k:Int)+1) (a8 ?_)))))))
       have C27:=cg [] (ch15.n.seq (hc18.n.seq (ch19.n.seq hc22.n)))
       refine back11 (k+1,g14) _ _ ⟨bH.ca C27,zs0,zs3,zs5,rfl,Rps.cn hc22,by omega,?_⟩ ?_
       · show(∀j_:Nat,v<j_->j_<(k+1)->¬fw ps v j_)/\v<(k+1)
         refine⟨λj h1 h2=>?_,by omega⟩
         by_cases e0:j=k
         · subst e0
           exact oZ (by exact pU ‹_› ‹_›) (by rw[<-hrm];assumption)
         · exact hk.1 j h1 (by omega)
       · show List.length ps-(k+1)<List.length ps-k
         omega
      refine ae rfl (congrArg Bool.not (df p16)) (a6 (a5 rfl (ma (vb false) (a8 (av (vs:=[vb false]) Try.func30 (.tmp rfl .nil) ?_)))))
      have e0:(false:Bool)=(decide (fc ps)):=by
        exact eY (i:=v) (k:=k) (by omega) (by omega) hk.2 (by exact tB (by exact pU ‹_› ‹_›) (by rw[<-hrm];assumption))
      have C28:=cg [] (ch15.n.seq (hc18.n.seq (ch19.n.seq hc22.n)))
      replace bH:=bH.ca C28
      exact⟨rb e0,bH.below⟩
     refine aq (wn (df q75)) (aq (wn (df q75)) (aq (wn (df q75)) (aq (wn (df q75)) (aq (wn (df q75)) (aq (wn (df q75)) (aq (wn (df q75)) (aq (wn (df q75)) (qv (vb false) (λw' hw'=>aB rfl (df q75) rfl) (qv (vb false) (λw' hw'=>bi rfl) ?_)))))))))
     refine bM ?_
     intro w29 hc30
     replace hc30:=aj hc30 g14
     refine a6 (a5 rfl (mv (vb (decide ((k:Int)=((v:Int)+1)))) (mv (vb (decide ((k:Int)=((v:Int)+1)))) ?_)))
     by_cases q86:(k:Int)=((v:Int)+1)
     ·
      refine aa (wn (dt q86)) (lw (vb true) (aD rfl (dt q86) rfl) (mv (vb true) (lv (vi (bU (gI ps ↑v) (gI ps ((v:Int)+1)) (gI ps ↑k) (gI ps ((k:Int)+1)))) (wy rfl) (aw rfl) (lv (vb (!(decide ((bU (gI ps ↑v) (gI ps ((v:Int)+1)) (gI ps ↑k) (gI ps ((k:Int)+1)))=2)))) (wy rfl) (dz (m:=bU (gI ps ↑v) (gI ps ((v:Int)+1)) (gI ps ↑k) (gI ps ((k:Int)+1))) (n:=2) rfl rfl) (lw (vb (!(decide ((bU (gI ps ↑v) (gI ps ((v:Int)+1)) (gI ps ↑k) (gI ps ((k:Int)+1)))=2)))) (aD rfl rfl rfl) (mv (vb (!(decide ((bU (gI ps ↑v) (gI ps ((v:Int)+1)) (gI ps ↑k) (gI ps ((k:Int)+1)))=2)))) ?_))))))
      by_cases q93:(bU (gI ps ↑v) (gI ps ((v:Int)+1)) (gI ps ↑k) (gI ps ((k:Int)+1)))=2
      ·
       refine lv (vb (decide ((k:Int)=((v:Int)+1)))) (wy (congrArg Bool.not (dt q93))) (aw rfl) (lv (vb (!(decide ((k:Int)=((v:Int)+1))))) (wy (congrArg Bool.not (dt q93))) (cm (b:=decide ((k:Int)=((v:Int)+1))) rfl) (lv (vb (!(decide ((k:Int)=((v:Int)+1))))) (wy (congrArg Bool.not (dt q93))) (aw rfl) (aa (wn (congrArg Bool.not (dt q86))) (aa (wn (congrArg Bool.not (dt q86))) (lv (vb false) (wy (congrArg Bool.not (dt q93))) (aB rfl (congrArg Bool.not (dt q86)) rfl) (lv (vb false) (wy (congrArg Bool.not (dt q93))) (aw rfl) (aa (wn rfl) (aa (wn rfl) ?_))))))))
       refine lv (vb false) (wy (congrArg Bool.not (dt q93))) (aB rfl rfl rfl) (lw (vb false) (aB rfl (congrArg Bool.not (dt q93)) rfl) (a8 (af rfl rfl (am (ak (a5 rfl (mz zs6 (lx (aQ (m:=↑k) (n:=1) rfl rfl (by omega)) (ai ((k:Int)+1) ?_)))))))))
       refine a8 ?_
       have C32:=cg [] (hc18.n.seq (ch19.n.seq hc30.n))
       have C31:=ch15.n.seq C32
       refine back11 (k+1,g14) _ _ ⟨bH.ca C31,zs0,zs3,zs5,rfl,Rps.ca C32,by omega,?_⟩ ?_
       · show(∀j_:Nat,v<j_->j_<(k+1)->¬fw ps v j_)/\v<(k+1)
         refine⟨λj h1 h2=>?_,by omega⟩
         by_cases e0:j=k
         · subst e0
           exact nw (by exact jF ‹_›) (by rw[<-hrm];assumption)
         · exact hk.1 j h1 (by omega)
       · show List.length ps-(k+1)<List.length ps-k
         omega
      refine aa (wn (congrArg Bool.not (df q93))) (aa (wn (congrArg Bool.not (df q93))) (aa (wn (congrArg Bool.not (df q93))) (aa (bg rfl rfl rfl) (aa (bg rfl rfl rfl) (aa (wn (congrArg Bool.not (df q93))) (aa (wn (congrArg Bool.not (df q93))) (aa (bg rfl rfl rfl) (aa (bg rfl rfl rfl) (aa (wn (congrArg Bool.not (df q93))) ?_)))))))))
      refine lw (vb true) (aD rfl (congrArg Bool.not (df q93)) rfl) (a8 (ae rfl rfl (a6 (a5 rfl (ma (vb false) (a8 (av (vs:=[vb false]) Try.func30 (.tmp rfl .nil) ?_)))))))
      have e0:(false:Bool)=(decide (fc ps)):=by
        exact eY (i:=v) (k:=k) (by omega) (by omega) hk.2 (by exact rS hok2 (by omega) (by omega) (by exact jF ‹_›) (by rw[<-hrm];assumption))
      have C33:=cg [] (ch15.n.seq (hc18.n.seq (ch19.n.seq hc30.n)))
      replace bH:=bH.ca C33
      exact⟨rb e0,bH.below⟩
     refine lv (vb false) (wy (df q86)) (aw rfl) (lw (vb false) (aB rfl (df q86) rfl) (mv (vb false) (aa (wn rfl) (aa (wn rfl) (lw (vb false) (aB rfl rfl rfl) (mv (vb false) (lv (vb (decide ((k:Int)=((v:Int)+1)))) (wy rfl) (aw rfl) (lv (vb (!(decide ((k:Int)=((v:Int)+1))))) (wy rfl) (cm (b:=decide ((k:Int)=((v:Int)+1))) rfl) (lv (vb (!(decide ((k:Int)=((v:Int)+1))))) (wy rfl) (aw rfl) (lv (vb false) (wy (congrArg Bool.not (df q86))) (aw rfl) ?_))))))))))
     refine lv (vb true) (wy (congrArg Bool.not (df q86))) (cm (b:=false) rfl) (lv (vb true) (wy rfl) (aD rfl (congrArg Bool.not (df q86)) rfl) (lv (vb true) (wy rfl) (aw rfl) (lv (vi (bU (gI ps ↑v) (gI ps ((v:Int)+1)) (gI ps ↑k) (gI ps ((k:Int)+1)))) (wy rfl) (aw rfl) (lv (vb (!(decide ((bU (gI ps ↑v) (gI ps ((v:Int)+1)) (gI ps ↑k) (gI ps ((k:Int)+1)))=0)))) (wy rfl) (dz (m:=bU (gI ps ↑v) (gI ps ((v:Int)+1)) (gI ps ↑k) (gI ps ((k:Int)+1))) (n:=0) rfl rfl) (lv (vb (!(decide ((bU (gI ps ↑v) (gI ps ((v:Int)+1)) (gI ps ↑k) (gI ps ((k:Int)+1)))=0)))) (wy rfl) (aD rfl rfl rfl) ?_)))))
     refine lw (vb (!(decide ((bU (gI ps ↑v) (gI ps ((v:Int)+1)) (gI ps ↑k) (gI ps ((k:Int)+1)))=0)))) (aB rfl rfl rfl) (a8 ?_)
     by_cases p16:(bU (gI ps ↑v) (gI ps ((v:Int)+1)) (gI ps ↑k) (gI ps ((k:Int)+1)))=0
     ·
      refine af rfl (congrArg Bool.not (dt p16)) (am (ak (a5 rfl (mz zs6 (lx (aQ (m:=↑k) (n:=1) rfl rfl (by omega)) (ai ((k:Int)+1) (a8 ?_)))))))
      have C35:=cg [] (hc18.n.seq (ch19.n.seq hc30.n))
      have C34:=ch15.n.seq C35
      refine back11 (k+1,g14) _ _ ⟨bH.ca C34,zs0,zs3,zs5,rfl,Rps.ca C35,by omega,?_⟩ ?_
      · show(∀j_:Nat,v<j_->j_<(k+1)->¬fw ps v j_)/\v<(k+1)
        refine⟨λj h1 h2=>?_,by omega⟩
        by_cases e0:j=k
        · subst e0
          exact oZ (by exact q7 ‹_› ‹_›) (by rw[<-hrm];assumption)
        · exact hk.1 j h1 (by omega)
      · show List.length ps-(k+1)<List.length ps-k
        omega
     refine ae rfl (congrArg Bool.not (df p16)) (a6 (a5 rfl (ma (vb false) (a8 (av (vs:=[vb false]) Try.func30 (.tmp rfl .nil) ?_)))))
     have e0:(false:Bool)=(decide (fc ps)):=by
       exact eY (i:=v) (k:=k) (by omega) (by omega) hk.2 (by exact tB (by exact q7 ‹_› ‹_›) (by rw[<-hrm];assumption))
     have C36:=cg [] (ch15.n.seq (hc18.n.seq (ch19.n.seq hc30.n)))
     replace bH:=bH.ca C36
     exact⟨rb e0,bH.below⟩
    refine aq (wn (df q71)) (aq (wn (df q71)) (qv (vb false) (λw' hw'=>aB rfl (df q71) rfl) (qm (vb false) (aq (wn rfl) (aq (wn rfl) (aq (wn rfl) (aq (wn rfl) (aq (wn rfl) (aq (wn rfl) ?_)))))))))
    refine aq (wn rfl) (aq (wn rfl) (qv (vb false) (λw' hw'=>aB rfl rfl rfl) (qv (vb false) (λw' hw'=>bi rfl) (bM ?_))))
    intro w37 hc38
    replace hc38:=aj hc38 g14
    refine a6 (a5 rfl (mv (vb (decide ((k:Int)=((v:Int)+1)))) (mv (vb (decide ((k:Int)=((v:Int)+1)))) ?_)))
    by_cases q86:(k:Int)=((v:Int)+1)
    ·
     refine aa (wn (dt q86)) (lw (vb true) (aD rfl (dt q86) rfl) (mv (vb true) (lv (vi (bU (gI ps ↑v) (gI ps ((v:Int)+1)) (gI ps ↑k) (gI ps ((k:Int)+1)))) (wy rfl) (aw rfl) (lv (vb (!(decide ((bU (gI ps ↑v) (gI ps ((v:Int)+1)) (gI ps ↑k) (gI ps ((k:Int)+1)))=2)))) (wy rfl) (dz (m:=bU (gI ps ↑v) (gI ps ((v:Int)+1)) (gI ps ↑k) (gI ps ((k:Int)+1))) (n:=2) rfl rfl) (lw (vb (!(decide ((bU (gI ps ↑v) (gI ps ((v:Int)+1)) (gI ps ↑k) (gI ps ((k:Int)+1)))=2)))) (aD rfl rfl rfl) (mv (vb (!(decide ((bU (gI ps ↑v) (gI ps ((v:Int)+1)) (gI ps ↑k) (gI ps ((k:Int)+1)))=2)))) ?_))))))
     by_cases q93:(bU (gI ps ↑v) (gI ps ((v:Int)+1)) (gI ps ↑k) (gI ps ((k:Int)+1)))=2
     ·
      refine lv (vb (decide ((k:Int)=((v:Int)+1)))) (wy (congrArg Bool.not (dt q93))) (aw rfl) (lv (vb (!(decide ((k:Int)=((v:Int)+1))))) (wy (congrArg Bool.not (dt q93))) (cm (b:=decide ((k:Int)=((v:Int)+1))) rfl) (lv (vb (!(decide ((k:Int)=((v:Int)+1))))) (wy (congrArg Bool.not (dt q93))) (aw rfl) (aa (wn (congrArg Bool.not (dt q86))) (aa (wn (congrArg Bool.not (dt q86))) (lv (vb false) (wy (congrArg Bool.not (dt q93))) (aB rfl (congrArg Bool.not (dt q86)) rfl) (lv (vb false) (wy (congrArg Bool.not (dt q93))) (aw rfl) (aa (wn rfl) (aa (wn rfl) ?_))))))))
      refine lv (vb false) (wy (congrArg Bool.not (dt q93))) (aB rfl rfl rfl) (lw (vb false) (aB rfl (congrArg Bool.not (dt q93)) rfl) (a8 (af rfl rfl (am (ak (a5 rfl (mz zs6 (lx (aQ (m:=↑k) (n:=1) rfl rfl (by omega)) (ai ((k:Int)+1) ?_)))))))))
      refine a8 ?_
      have C40:=cg [] (hc18.n.seq (ch19.n.seq hc38.n))
      have C39:=ch15.n.seq C40
      refine back11 (k+1,g14) _ _ ⟨bH.ca C39,zs0,zs3,zs5,rfl,Rps.ca C40,by omega,?_⟩ ?_
      · show(∀j_:Nat,v<j_->j_<(k+1)->¬fw ps v j_)/\v<(k+1)
        refine⟨λj h1 h2=>?_,by omega⟩
        by_cases e0:j=k
        · subst e0
          exact nw (by exact jF ‹_›) (by rw[<-hrm];assumption)
        · exact hk.1 j h1 (by omega)
      · show List.length ps-(k+1)<List.length ps-k
        omega
     refine aa (wn (congrArg Bool.not (df q93))) (aa (wn (congrArg Bool.not (df q93))) (aa (wn (congrArg Bool.not (df q93))) (aa (bg rfl rfl rfl) (aa (bg rfl rfl rfl) (aa (wn (congrArg Bool.not (df q93))) (aa (wn (congrArg Bool.not (df q93))) (aa (bg rfl rfl rfl) (aa (bg rfl rfl rfl) (aa (wn (congrArg Bool.not (df q93))) ?_)))))))))
     refine lw (vb true) (aD rfl (congrArg Bool.not (df q93)) rfl) (a8 (ae rfl rfl (a6 (a5 rfl (ma (vb false) (a8 (av (vs:=[vb false]) Try.func30 (.tmp rfl .nil) ?_)))))))
     have e0:(false:Bool)=(decide (fc ps)):=by
       exact eY (i:=v) (k:=k) (by omega) (by omega) hk.2 (by exact rS hok2 (by omega) (by omega) (by exact jF ‹_›) (by rw[<-hrm];assumption))
     have C41:=cg [] (ch15.n.seq (hc18.n.seq (ch19.n.seq hc38.n)))
     replace bH:=bH.ca C41
     exact⟨rb e0,bH.below⟩
    refine lv (vb false) (wy (df q86)) (aw rfl) (lw (vb false) (aB rfl (df q86) rfl) (mv (vb false) (aa (wn rfl) (aa (wn rfl) (lw (vb false) (aB rfl rfl rfl) (mv (vb false) (lv (vb (decide ((k:Int)=((v:Int)+1)))) (wy rfl) (aw rfl) (lv (vb (!(decide ((k:Int)=((v:Int)+1))))) (wy rfl) (cm (b:=decide ((k:Int)=((v:Int)+1))) rfl) (lv (vb (!(decide ((k:Int)=((v:Int)+1))))) (wy rfl) (aw rfl) (lv (vb false) (wy (congrArg Bool.not (df q86))) (aw rfl) ?_))))))))))
    refine lv (vb true) (wy (congrArg Bool.not (df q86))) (cm (b:=false) rfl) (lv (vb true) (wy rfl) (aD rfl (congrArg Bool.not (df q86)) rfl) (lv (vb true) (wy rfl) (aw rfl) (lv (vi (bU (gI ps ↑v) (gI ps ((v:Int)+1)) (gI ps ↑k) (gI ps ((k:Int)+1)))) (wy rfl) (aw rfl) (lv (vb (!(decide ((bU (gI ps ↑v) (gI ps ((v:Int)+1)) (gI ps ↑k) (gI ps ((k:Int)+1)))=0)))) (wy rfl) (dz (m:=bU (gI ps ↑v) (gI ps ((v:Int)+1)) (gI ps ↑k) (gI ps ((k:Int)+1))) (n:=0) rfl rfl) (lv (vb (!(decide ((bU (gI ps ↑v) (gI ps ((v:Int)+1)) (gI ps ↑k) (gI ps ((k:Int)+1)))=0)))) (wy rfl) (aD rfl rfl rfl) ?_)))))
    refine lw (vb (!(decide ((bU (gI ps ↑v) (gI ps ((v:Int)+1)) (gI ps ↑k) (gI ps ((k:Int)+1)))=0)))) (aB rfl rfl rfl) (a8 ?_)
    by_cases p16:(bU (gI ps ↑v) (gI ps ((v:Int)+1)) (gI ps ↑k) (gI ps ((k:Int)+1)))=0
    ·
     refine af rfl (congrArg Bool.not (dt p16)) (am (ak (a5 rfl (mz zs6 (lx (aQ (m:=↑k) (n:=1) rfl rfl (by omega)) (ai ((k:Int)+1) (a8 ?_)))))))
     have C43:=cg [] (hc18.n.seq (ch19.n.seq hc38.n))
     have C42:=ch15.n.seq C43
     refine back11 (k+1,g14) _ _ ⟨bH.ca C42,zs0,zs3,zs5,rfl,Rps.ca C43,by omega,?_⟩ ?_
     · show(∀j_:Nat,v<j_->j_<(k+1)->¬fw ps v j_)/\v<(k+1)
       refine⟨λj h1 h2=>?_,by omega⟩
       by_cases e0:j=k
       · subst e0
         exact oZ (by exact n9 ‹_› ‹_›) (by rw[<-hrm];assumption)
       · exact hk.1 j h1 (by omega)
     · show List.length ps-(k+1)<List.length ps-k
       omega
    refine ae rfl (congrArg Bool.not (df p16)) (a6 (a5 rfl (ma (vb false) (a8 (av (vs:=[vb false]) Try.func30 (.tmp rfl .nil) ?_)))))
    have e0:(false:Bool)=(decide (fc ps)):=by
      exact eY (i:=v) (k:=k) (by omega) (by omega) hk.2 (by exact tB (by exact n9 ‹_› ‹_›) (by rw[<-hrm];assumption))
    have C44:=cg [] (ch15.n.seq (hc18.n.seq (ch19.n.seq hc38.n)))
    replace bH:=bH.ca C44
    exact⟨rb e0,bH.below⟩
   refine aq (wn (df q65)) (aq (wn (df q65)) (aq (wn (df q65)) (aq (wn (df q65)) (qv (vb false) (λw' hw'=>aB rfl (df q65) rfl) (qm (vb false) (aq (wn rfl) (aq (wn rfl) (qv (vb false) (λw' hw'=>aB rfl rfl rfl) (qm (vb false) ?_)))))))))
   refine aq (wn rfl) (aq (wn rfl) (aq (wn rfl) (aq (wn rfl) (aq (wn rfl) (aq (wn rfl) (aq (wn rfl) (aq (wn rfl) (qv (vb false) (λw' hw'=>aB rfl rfl rfl) (qv (vb false) (λw' hw'=>bi rfl) ?_)))))))))
   refine bM ?_
   intro w45 hc46
   replace hc46:=aj hc46 g14
   refine a6 (a5 rfl (mv (vb (decide ((k:Int)=((v:Int)+1)))) (mv (vb (decide ((k:Int)=((v:Int)+1)))) ?_)))
   by_cases q86:(k:Int)=((v:Int)+1)
   ·
    refine aa (wn (dt q86)) (lw (vb true) (aD rfl (dt q86) rfl) (mv (vb true) (lv (vi (bU (gI ps ↑v) (gI ps ((v:Int)+1)) (gI ps ↑k) (gI ps ((k:Int)+1)))) (wy rfl) (aw rfl) (lv (vb (!(decide ((bU (gI ps ↑v) (gI ps ((v:Int)+1)) (gI ps ↑k) (gI ps ((k:Int)+1)))=2)))) (wy rfl) (dz (m:=bU (gI ps ↑v) (gI ps ((v:Int)+1)) (gI ps ↑k) (gI ps ((k:Int)+1))) (n:=2) rfl rfl) (lw (vb (!(decide ((bU (gI ps ↑v) (gI ps ((v:Int)+1)) (gI ps ↑k) (gI ps ((k:Int)+1)))=2)))) (aD rfl rfl rfl) (mv (vb (!(decide ((bU (gI ps ↑v) (gI ps ((v:Int)+1)) (gI ps ↑k) (gI ps ((k:Int)+1)))=2)))) ?_))))))
    by_cases q93:(bU (gI ps ↑v) (gI ps ((v:Int)+1)) (gI ps ↑k) (gI ps ((k:Int)+1)))=2
    ·
     refine lv (vb (decide ((k:Int)=((v:Int)+1)))) (wy (congrArg Bool.not (dt q93))) (aw rfl) (lv (vb (!(decide ((k:Int)=((v:Int)+1))))) (wy (congrArg Bool.not (dt q93))) (cm (b:=decide ((k:Int)=((v:Int)+1))) rfl) (lv (vb (!(decide ((k:Int)=((v:Int)+1))))) (wy (congrArg Bool.not (dt q93))) (aw rfl) (aa (wn (congrArg Bool.not (dt q86))) (aa (wn (congrArg Bool.not (dt q86))) (lv (vb false) (wy (congrArg Bool.not (dt q93))) (aB rfl (congrArg Bool.not (dt q86)) rfl) (lv (vb false) (wy (congrArg Bool.not (dt q93))) (aw rfl) (aa (wn rfl) (aa (wn rfl) ?_))))))))
     refine lv (vb false) (wy (congrArg Bool.not (dt q93))) (aB rfl rfl rfl) (lw (vb false) (aB rfl (congrArg Bool.not (dt q93)) rfl) (a8 (af rfl rfl (am (ak (a5 rfl (mz zs6 (lx (aQ (m:=↑k) (n:=1) rfl rfl (by omega)) (ai ((k:Int)+1) ?_)))))))))
     refine a8 ?_
     have C48:=cg [] (hc18.n.seq (ch19.n.seq hc46.n))
     have C47:=ch15.n.seq C48
     refine back11 (k+1,g14) _ _ ⟨bH.ca C47,zs0,zs3,zs5,rfl,Rps.ca C48,by omega,?_⟩ ?_
     · show(∀j_:Nat,v<j_->j_<(k+1)->¬fw ps v j_)/\v<(k+1)
       refine⟨λj h1 h2=>?_,by omega⟩
       by_cases e0:j=k
       · subst e0
         exact nw (by exact jF ‹_›) (by rw[<-hrm];assumption)
       · exact hk.1 j h1 (by omega)
     · show List.length ps-(k+1)<List.length ps-k
       omega
    refine aa (wn (congrArg Bool.not (df q93))) (aa (wn (congrArg Bool.not (df q93))) (aa (wn (congrArg Bool.not (df q93))) (aa (bg rfl rfl rfl) (aa (bg rfl rfl rfl) (aa (wn (congrArg Bool.not (df q93))) (aa (wn (congrArg Bool.not (df q93))) (aa (bg rfl rfl rfl) (aa (bg rfl rfl rfl) (aa (wn (congrArg Bool.not (df q93))) ?_)))))))))
    refine lw (vb true) (aD rfl (congrArg Bool.not (df q93)) rfl) (a8 (ae rfl rfl (a6 (a5 rfl (ma (vb false) (a8 (av (vs:=[vb false]) Try.func30 (.tmp rfl .nil) ?_)))))))
    have e0:(false:Bool)=(decide (fc ps)):=by
      exact eY (i:=v) (k:=k) (by omega) (by omega) hk.2 (by exact rS hok2 (by omega) (by omega) (by exact jF ‹_›) (by rw[<-hrm];assumption))
    have C49:=cg [] (ch15.n.seq (hc18.n.seq (ch19.n.seq hc46.n)))
    replace bH:=bH.ca C49
    exact⟨rb e0,bH.below⟩
   refine lv (vb false) (wy (df q86)) (aw rfl) (lw (vb false) (aB rfl (df q86) rfl) (mv (vb false) (aa (wn rfl) (aa (wn rfl) (lw (vb false) (aB rfl rfl rfl) (mv (vb false) (lv (vb (decide ((k:Int)=((v:Int)+1)))) (wy rfl) (aw rfl) (lv (vb (!(decide ((k:Int)=((v:Int)+1))))) (wy rfl) (cm (b:=decide ((k:Int)=((v:Int)+1))) rfl) (lv (vb (!(decide ((k:Int)=((v:Int)+1))))) (wy rfl) (aw rfl) (lv (vb false) (wy (congrArg Bool.not (df q86))) (aw rfl) ?_))))))))))
   refine lv (vb true) (wy (congrArg Bool.not (df q86))) (cm (b:=false) rfl) (lv (vb true) (wy rfl) (aD rfl (congrArg Bool.not (df q86)) rfl) (lv (vb true) (wy rfl) (aw rfl) (lv (vi (bU (gI ps ↑v) (gI ps ((v:Int)+1)) (gI ps ↑k) (gI ps ((k:Int)+1)))) (wy rfl) (aw rfl) (lv (vb (!(decide ((bU (gI ps ↑v) (gI ps ((v:Int)+1)) (gI ps ↑k) (gI ps ((k:Int)+1)))=0)))) (wy rfl) (dz (m:=bU (gI ps ↑v) (gI ps ((v:Int)+1)) (gI ps ↑k) (gI ps ((k:Int)+1))) (n:=0) rfl rfl) (lv (vb (!(decide ((bU (gI ps ↑v) (gI ps ((v:Int)+1)) (gI ps ↑k) (gI ps ((k:Int)+1)))=0)))) (wy rfl) (aD rfl rfl rfl) ?_)))))
   refine lw (vb (!(decide ((bU (gI ps ↑v) (gI ps ((v:Int)+1)) (gI ps ↑k) (gI ps ((k:Int)+1)))=0)))) (aB rfl rfl rfl) (a8 ?_)
   by_cases p16:(bU (gI ps ↑v) (gI ps ((v:Int)+1)) (gI ps ↑k) (gI ps ((k:Int)+1)))=0
   ·
    refine af rfl (congrArg Bool.not (dt p16)) (am (ak (a5 rfl (mz zs6 (lx (aQ (m:=↑k) (n:=1) rfl rfl (by omega)) (ai ((k:Int)+1) (a8 ?_)))))))
    have C51:=cg [] (hc18.n.seq (ch19.n.seq hc46.n))
    have C50:=ch15.n.seq C51
    refine back11 (k+1,g14) _ _ ⟨bH.ca C50,zs0,zs3,zs5,rfl,Rps.ca C51,by omega,?_⟩ ?_
    · show(∀j_:Nat,v<j_->j_<(k+1)->¬fw ps v j_)/\v<(k+1)
      refine⟨λj h1 h2=>?_,by omega⟩
      by_cases e0:j=k
      · subst e0
        exact oZ (by exact oP ‹_› ‹_›) (by rw[<-hrm];assumption)
      · exact hk.1 j h1 (by omega)
    · show List.length ps-(k+1)<List.length ps-k
      omega
   refine ae rfl (congrArg Bool.not (df p16)) (a6 (a5 rfl (ma (vb false) (a8 (av (vs:=[vb false]) Try.func30 (.tmp rfl .nil) ?_)))))
   have e0:(false:Bool)=(decide (fc ps)):=by
     exact eY (i:=v) (k:=k) (by omega) (by omega) hk.2 (by exact tB (by exact oP ‹_› ‹_›) (by rw[<-hrm];assumption))
   have C52:=cg [] (ch15.n.seq (hc18.n.seq (ch19.n.seq hc46.n)))
   replace bH:=bH.ca C52
   exact⟨rb e0,bH.below⟩
  refine af rfl (df p11) (aO rfl (ak (a5 rfl (mz zs5 (lx (aQ (m:=↑v) (n:=1) rfl rfl (by omega)) (ai ((v:Int)+1) (a8 ?_)))))))
  refine back8 (v+1,g14) _ _ ⟨bH,zs0,zs3,rfl,Rps,by omega,?_⟩ ?_
  · show∀j_:Nat,j_<(v+1)->∀k_:Nat,j_<k_->(k_:Int)<(ps.length:Int)-1->¬fw ps j_ k_
    intro j hj
    by_cases e0:j=v
    · subst e0;exact λk' h1 h2=>hk.1 k' h1 (by omega)
    · exact hinv j (by omega)
  · show List.length ps-(v+1)<List.length ps-v
    omega
 refine af rfl (df p8) (aO rfl (a6 (a5 rfl (ma (vb true) (a8 (av (vs:=[vb true]) Try.func30 (.tmp rfl .nil) ?_))))))
 have e0:(true:Bool)=(decide (fc ps)):=by
   exact tw hd0 hinv ‹_›
 exact⟨rb e0,bH.below⟩
theorem ii(w0:World)(ps:List Pt)(ps_v:Value)(hps_v:Ro w0 ps_v ps)(h0:0<ps.length)(hlen:ps.length<=4096):
    Calls Try.prog 55 #[ps_v] w0 (λee w=>∃xx:aW×Value,ee= .returned ((λ⟨δ,rv0⟩=>rv0) xx)/\(λ(⟨δ,rv0⟩:aW×Value) (w:World)=>gw w0 δ w/\Ow δ (is 1) (is 1) w rv0 (aA ps)) xx w):=by
 refine aI Try.func55 rfl nq ?_
 have bH:=bo.start w0
 have Rps:=hps_v.sl
 refine a6 (a5 rfl (ma vn (a8 (a6 (a6 (a5 rfl (mv ps_v ?_)))))))
 have len1:=(Rps).small
 refine lx (bE bZ rfl Rps) (lx (cu (m:=(ps.length:Int)) (n:=1) rfl rfl) (a8 ?_))
 by_cases p1:(ps.length:Int)=1
 ·
  refine ae rfl (dt p1) (a6 (dc c0 [0,1,2,3,4,5,6,8] fN ?_))
  intro w3 ch2
  refine xp (v:=ps_v) 0 rfl (λw=>aw rfl) ?_
  replace Rps:=Rps.cn ch2
  refine xv 1 [0,3,4,5] rfl (ab (v:=ps_v) (i:=0) bZ rfl rfl Rps rfl (by omega) (by omega)) (xv (v:=vg [vi ((gI ps 0).1),vi ((gI ps 0).2)]) 2 [1,0,3,4,5] rfl (aM (v:=ps_v) (i:=0) ah rfl Rps (by omega) (by omega) rfl) (xp (v:=ps_v) 3 rfl (λw=>aw rfl) (xv 4 [3,2,1,0] rfl (ab (v:=ps_v) (i:=0) bZ rfl rfl Rps rfl (by omega) (by omega)) (xv (v:=vg [vi ((gI ps 0).1),vi ((gI ps 0).2)]) 5 [4,3,2,1,0] rfl (aM (v:=ps_v) (i:=0) ah rfl Rps (by omega) (by omega) rfl) ?_))))
  refine xp (v:=vg [vi ((gI ps 0).1),vi ((gI ps 0).2),vi ((gI ps 0).1),vi ((gI ps 0).2)]) 6 rfl (λw=>bz (vs:=[(0,vg [vi ((gI ps 0).1),vi ((gI ps 0).2)]),(1,vg [vi ((gI ps 0).1),vi ((gI ps 0).2)])]) rfl (by kernel_rfl)) (cf 7 rfl (by kernel_rfl) rfl (aC (α:=Pt×Pt) c0 (is 1) (is 1) (1,0) rfl ([((gI ps 0),(gI ps 0))]:List (Pt×Pt)) fI mf (by decide) (by decide) (vs:=[(0,vg [vi ((gI ps 0).1),vi ((gI ps 0).2),vi ((gI ps 0).1),vi ((gI ps 0).2)])]) rfl rfl (.cons rfl .nil) ?_))
  intro g4 w5 v6 ch7 o8
  refine xp (v:=v6) 8 rfl (λw=>bi rfl) (eQ (by kernel_rfl) (av (vs:=[v6]) Try.func55 (.tmp rfl .nil) ?_))
  replace bH:=bH.cn ch2
  replace bH:=bH.cn ch7
  have e0:(([((gI ps 0),(gI ps 0))]:List (Pt×Pt)):List (Pt×Pt))=(aA ps):=by
    exact rc ‹_›
  exact⟨(kQ w0 g4 (λn=>if n=1 then 1 else 0),v6),(congrArg (a₁:=([((gI ps 0),(gI ps 0))]:List (Pt×Pt))) (λ(z0:List (Pt×Pt))=>Ending.returned (v6)) e0),bH.fresh _,(e0▸(o8.glue (γ:=c0) (ren:=(λn=>if n=1 then 1 else 0)) (k:=1) bH.col rfl rfl))⟩
 refine af rfl (df p1) (am (a6 (a5 rfl (ma vn (a8 (a6 (a6 (a5 rfl (ai 0 (a8 (ao ?_)))))))))))
 refine bf (σ:=Value×(List (Pt×Pt))×Nat×aW) (λ⟨l_v,l,i,gq⟩ f w=>bo w0 gq w/\f 0=ps_v/\f 3=l_v/\f 4=vi ↑i/\Sl gq (is 0) w ps_v ps/\Ow gq (is 3) (is 3) w l_v l/\(l=jh ps i/\(i=0\/i+1<=ps.length))) (λ⟨l_v,l,i,gq⟩=>List.length ps-i) (vn,[],0,c0) ?_ ?_
 · exact⟨bH,rfl,rfl,rfl,Rps,Ow.nil,by exact⟨rfl,by omega⟩⟩
 clear Rps bH
 rintro⟨l_v,l,i,g11⟩ f9 w10 ⟨bH,zs0,zs3,zs4,Rps,o_l,hinv⟩ back5
 have hll:l.length=i:=by rw[hinv.1];exact km ps _
 have hi1:=hinv.2
 refine a6 (a6 (a5 rfl (mz zs4 (lx (aQ (m:=↑i) (n:=1) rfl rfl (by omega)) (mz zs0 (lx (bE bZ rfl Rps) (lx (b6 (m:=(i:Int)+1) (n:=(ps.length:Int)) rfl rfl) (a8 ?_))))))))
 by_cases p5:((i:Int)+1)<(ps.length:Int)
 ·
  refine ae rfl (dt p5) (am (a6 (ao (dc g11 [0,1,2,3,4,5,6,7,8,9,10,13] fN ?_))))
  intro w13 ch12
  refine xp (v:=l_v) 0 rfl (λw=>aw zs3) (xp (v:=ps_v) 1 rfl (λw=>aw zs0) (xp (v:=vi ↑i) 2 rfl (λw=>aw zs4) ?_))
  replace Rps:=Rps.cn ch12
  refine xv 3 [2,1,0,5,6,7,8,9] rfl (ab (v:=ps_v) (i:=↑i) bZ rfl rfl Rps rfl (by omega) (by omega)) (xv (v:=vg [vi ((gI ps ↑i).1),vi ((gI ps ↑i).2)]) 4 [3,2,1,0,5,6,7,8,9] rfl (aM (v:=ps_v) (i:=↑i) ah rfl Rps (by omega) (by omega) rfl) (xp (v:=ps_v) 5 rfl (λw=>aw zs0) (xp (v:=vi ↑i) 6 rfl (λw=>aw zs4) (xp 7 rfl (λw=>aQ (m:=↑i) (n:=1) rfl rfl (by omega)) (xv 8 [7,6,5,4,3,2,1,0] rfl (ab (v:=ps_v) (i:=(i:Int)+1) bZ rfl rfl Rps rfl (by omega) (by omega)) ?_)))))
  refine xv (v:=vg [vi ((gI ps ((i:Int)+1)).1),vi ((gI ps ((i:Int)+1)).2)]) 9 [8,7,6,5,4,3,2,1,0] rfl (aM (v:=ps_v) (i:=(i:Int)+1) ah rfl Rps (by omega) (by omega) rfl) (xp (v:=vg [vi ((gI ps ↑i).1),vi ((gI ps ↑i).2),vi ((gI ps ((i:Int)+1)).1),vi ((gI ps ((i:Int)+1)).2)]) 10 rfl (λw=>bz (vs:=[(0,vg [vi ((gI ps ↑i).1),vi ((gI ps ↑i).2)]),(1,vg [vi ((gI ps ((i:Int)+1)).1),vi ((gI ps ((i:Int)+1)).2)])]) rfl (by kernel_rfl)) (cf 11 rfl (by kernel_rfl) rfl ?_))
  refine aC (α:=Pt×Pt) g11 (is 2) (is 2) (2,0) rfl ([((gI ps ↑i),(gI ps ((i:Int)+1)))]:List (Pt×Pt)) fI mf (by decide) (by decide) (vs:=[(0,vg [vi ((gI ps ↑i).1),vi ((gI ps ↑i).2),vi ((gI ps ((i:Int)+1)).1),vi ((gI ps ((i:Int)+1)).2)])]) rfl rfl (.cons rfl .nil) ?_
  intro g14 w15 v16 ch17 o18
  refine cf 12 rfl (by kernel_rfl) rfl ?_
  replace o_l:=(o_l.cn ch12).cn ch17
  refine b9 (α:=Pt×Pt) (xs:=l) (ys:=([((gI ps ↑i),(gI ps ((i:Int)+1)))]:List (Pt×Pt))) g14 (J:=is 3) (S:=is 3) (3,0) rfl fI mf (by decide) rfl rfl rfl o_l o18.flat (by decide) (by(simp;omega)) ?_
  intro g19 w20 v21 ch22 o23
  clear o_l
  refine xp (v:=v21) 13 rfl (λw=>bi rfl) (eQ (by kernel_rfl) (ak ?_))
  clear o18
  refine a5 rfl (mz zs4 (lx (aQ (m:=↑i) (n:=1) rfl rfl (by omega)) (ai ((i:Int)+1) (a8 ?_))))
  have C24:=cg [3] (ch12.n.seq (ch17.n.seq (ch22.l rfl)))
  refine back5 (v21,(l++([((gI ps ↑i),(gI ps ((i:Int)+1)))]:List (Pt×Pt))),i+1,g19) _ _ ⟨bH.ca C24,zs0,rfl,rfl,(Rps.cn ch17).ce ch22,o23,?_⟩ ?_
  · show(l++([((gI ps ↑i),(gI ps ((i:Int)+1)))]:List (Pt×Pt)))=jh ps (i+1)/\((i+1)=0\/(i+1)+1<=ps.length)
    exact⟨by rw[jh,hinv.1],by omega⟩
  · show List.length ps-(i+1)<List.length ps-i
    omega
 refine af rfl (df p5) (aO rfl (a6 (a5 rfl (mz zs3 (ma l_v (a8 (av (vs:=[l_v]) Try.func55 (.tmp rfl .nil) ?_)))))))
 have e0:(l:List (Pt×Pt))=(aA ps):=by
   (unfold aA;rw[if_neg (by omega),hinv.1];congr 1;omega)
 exact⟨(kQ w0 g11 (λn=>if n=3 then 1 else 0),l_v),(congrArg (a₁:=l) (λ(z0:List (Pt×Pt))=>Ending.returned (l_v)) e0),bH.fresh _,(e0▸(o_l.glue (γ:=c0) (ren:=(λn=>if n=3 then 1 else 0)) (k:=1) bH.col rfl rfl))⟩
theorem vB(w0:World)(l:List Pt)(l_v:Value)(hl_v:Ro w0 l_v l)(p:Pt):
    Calls Try.prog 56 #[l_v,vg [vi p.1,vi p.2]] w0 (λee w=>ee= .returned (vb (decide (p∈l)))/\cW w0.heap.size w0 w):=by
 refine aI Try.func56 rfl nq ?_
 have bH:=bo.start w0
 have Rl:=hl_v.sl
 refine a6 (a5 rfl (cj rfl (bA c0 (is 1) (1,0) rfl rfl ?_)))
 intro g4 w1 b3 ch2 bx5
 replace bx5:Bx g4 (is 1) w1 b3 [vi p.1,vi p.2]:=bx5
 refine ma (vb false) (a8 (a6 (a6 (a5 rfl (ai 0 (a8 (ao ?_)))))))
 refine bf (σ:=Nat×aW) (λ⟨i,gq⟩ f w=>bo w0 gq w/\f 0=l_v/\f 3=vp b3 0/\f 5=vi ↑i/\Sl gq (is 0) w l_v l/\Bx gq (is 1) w b3 [vi p.1,vi p.2]/\(i:Int)<=((l.length:Int):Int)/\(∀j:Nat,j<i->gI l ↑j≠p)) (λ⟨i,gq⟩=>Int.toNat (((l.length:Int):Int)-(i:Int))) (0,g4) ?_ ?_
 · exact⟨bH.cn ch2,rfl,rfl,rfl,Rl.cn ch2,bx5,by omega,by intro j hj;omega⟩
 clear Rl bx5 bH
 rintro⟨i,g8⟩ f6 w7 ⟨bH,zs0,zs3,zs5,Rl,bx5,hle_i,hinv⟩ back2
 refine a6 (a6 (a5 rfl (mz zs5 (mz zs0 ?_))))
 have len9:=(Rl).small
 refine lx (bE bZ rfl Rl) (lx (b6 (m:=↑i) (n:=(l.length:Int)) rfl rfl) (a8 ?_))
 by_cases p2:(i:Int)<(l.length:Int)
 ·
  refine ae rfl (dt p2) (am (a6 (ao (a6 (bv g8 rfl fN (by kernel_rfl) ?_)))))
  intro w11 ch10
  refine qz zs0 (qz zs5 ?_)
  replace Rl:=Rl.cn ch10
  refine qx (λw' hw'=>ab (v:=l_v) (i:=↑i) bZ rfl rfl (Rl.bel hw') rfl (by omega) (by omega)) (qv (vg [vi ((gI l ↑i).1),vi ((gI l ↑i).2)]) (λw' hw'=>aM (v:=l_v) (i:=↑i) ah rfl (Rl.bel hw') (by omega) (by omega) rfl) ?_)
  replace bx5:=bx5.cn ch10
  refine qx (λw' hw'=>ad (ds:=[vi p.1,vi p.2]) ah zs3 (bx5.bel hw') rfl rfl) (qv (vb (decide ((gI l ↑i)=p))) (λw' hw'=>fb (bs:=[decide (((gI l ↑i).1)=p.1),decide (((gI l ↑i).2)=p.2)]) cq (by kernel_rfl) (by kernel_rfl) rfl rfl (.cons (by decide+kernel) aG rfl rfl (.int U3) (.cons (by decide+kernel) aG rfl rfl (.int U3) .nil)) (by simp[Prod.ext_iff,Bool.decide_and,Bool.and_assoc])) (bM ?_))
  intro w12 hc13
  replace hc13:=aj hc13 g8
  by_cases p4:(gI l ↑i)=p
  ·
   refine ae rfl (dt p4) (a6 ?_)
   clear bx5
   refine a5 rfl (ma (vb true) (a8 (av (vs:=[vb true]) Try.func56 (.tmp rfl .nil) ?_)))
   have e0:(true:Bool)=(decide (p∈l)):=by
     exact(dt (by rw[<-(show gI l ↑i=p by assumption)];exact ba (by omega) ‹_›)).symm
   replace bH:=bH.cn ch10
   replace bH:=bH.cn hc13
   exact⟨rb e0,bH.below⟩
  refine af rfl (df p4) (am (ak (a5 rfl (mz zs5 (lx (aQ (m:=↑i) (n:=1) rfl rfl (by omega)) (ai ((i:Int)+1) (a8 ?_)))))))
  replace bH:=bH.cn ch10
  refine back2 (i+1,g8) _ _ ⟨bH.cn hc13,zs0,zs3,rfl,Rl.cn hc13,bx5.cn hc13,by omega,?_⟩ ?_
  · show∀j:Nat,j<(i+1)->gI l ↑j≠p
    intro j hj
    by_cases e0:j=i
    · subst e0;assumption
    · exact hinv j (by omega)
  · show Int.toNat (((l.length:Int):Int)-((i+1):Int))<Int.toNat (((l.length:Int):Int)-(i:Int))
    omega
 refine af rfl (df p2) (aO rfl (a6 ?_))
 clear bx5
 refine a5 rfl (ma (vb false) (a8 (av (vs:=[vb false]) Try.func56 (.tmp rfl .nil) ?_)))
 have e0:(false:Bool)=(decide (p∈l)):=by
   exact(df (λhm=>by obtain⟨j,hj,e⟩:=List.mem_iff_getElem.1 hm;exact hinv j (by omega) (by simp[gI,hj,e]))).symm
 exact⟨rb e0,bH.below⟩
end TL
