import Derived.Test.YtfpckpgnnplhnaaGreatSwTlSpA
import Derived.Test.YtfpckpgnnplhnaaGreatSwTlSpW
import Derived.Test.YtfpckpgnnplhnaaGreatSwTlBkC
import Derived.Test.YtfpckpgnnplhnaaGreatSwTlGenA
import Derived.Test.YtfpckpgnnplhnaaGreatSwTlAli
set_option linter.all false
set_option maxRecDepth 20000
namespace TL
open Go Go.Proofs
theorem yY:Tryz.f99.body.isNone=false:=rfl
theorem xQ:(Tryz.f99.name== "runtime.NumGoroutine")=false:=by decide+kernel
theorem ou:Tryz.f100.body.isNone=false:=rfl
theorem oQ:(Tryz.f100.name== "runtime.NumGoroutine")=false:=by decide+kernel
theorem vP:Tryz.f133.body.isNone=false:=rfl
theorem vw:(Tryz.f133.name== "runtime.NumGoroutine")=false:=by decide+kernel
theorem uS:Tryz.f134.body.isNone=false:=rfl
theorem uN:(Tryz.f134.name== "runtime.NumGoroutine")=false:=by decide+kernel
theorem u9(w0:World)(g:(Int)×(List Pt))(g_v:Value)(hg_v:Ro w0 g_v g.2):
    Calls Tryz.prog 100 #[vg [vi g.1,g_v]] w0 (λee w=>∃xx:ax×Value,ee= .returned ((λ⟨δ,rv0⟩=>rv0) xx)/\(λ(⟨δ,rv0⟩:ax×Value) (w:World)=>dz w0 δ w/\Ow δ (is 1) (is 1) w rv0 (cx g)) xx w):=by
 refine ah Tryz.func100 rfl nq ?_
 have bH:=aW.start w0
 have Rg:=hg_v.sl
 refine a7 (a6 rfl (cy rfl (bU c0 (is 1) (1,0) rfl rfl ?_)))
 intro g4 w1 b3 ch2 bx5
 refine ma vn (ab (a7 (a6 rfl (lx (av (ds:=[vi g.1,g_v]) aK rfl bx5 rfl rfl) ?_))))
 refine lo (bB (aB (vals:=[vg [vi g.1,g_v]]) Tryz.func133 vP vw rfl) (Cr w1 g g_v Rg.t.ro) ?_)
 rintro⟨d7,v9,v11⟩ w6 ⟨fr8,o10,o12⟩
 obtain⟨g13,ch14,G13⟩:=hU g4 fr8 (λn=>if n=1 then 2 else if n=2 then 3 else 0)
 replace o10:=o10.gl G13 2
 replace o12:=o12.gl G13 3
 refine mv (vt [vg [vi (((cV g).1).1),v9],v11,vi ((cV g).2.2)]) (lx (ay rfl rfl) (lx (ay rfl rfl) (lx (ay rfl rfl) (lo (aZ g13 (is 4) (4,0) rfl aK ?_)))))
 intro g18 w15 b17 ch16 bx19
 refine lo ?_
 refine aA (cs':=[vi (((cV g).1).1),v9]) aK rfl rfl bx19 rfl nq (AllOne.all (.cons rfl (.cons (aM o10.t.flat) .nil))) rfl ?_
 intro w20 ch21 bx22
 refine ma v11 (ai ((cV g).2.2) (ab (a7 ?_)))
 refine a6 rfl (lx (av (ds:=[vi (((cV g).1).1),v9]) aK rfl bx22 rfl rfl) ?_)
 refine lo (bB (aB (vals:=[vg [vi (((cV g).1).1),v9]]) Tryz.func134 uS uN rfl) (sy w20 ((cV g).1) v9 (o10.t.flat).ro) ?_)
 rintro⟨d24,v26,v28⟩ w23 ⟨fr25,o27,o29⟩
 obtain⟨g30,ch31,G30⟩:=hU g18 fr25 (λn=>if n=1 then 5 else if n=2 then 6 else 0)
 replace o27:=o27.gl G30 5
 replace o29:=o29.gl G30 6
 refine mv (vt [vg [v26,v28,vi ((((di ((cV g).1)).1).2).2)],vi ((di ((cV g).1)).2)]) (lx (ay rfl rfl) (lx (ay rfl rfl) (lo (aZ g30 (is 7) (7,0) rfl eC ?_))))
 intro g35 w32 b34 ch33 bx36
 refine lo ?_
 refine aA (cs':=[v26,v28,vi ((((di ((cV g).1)).1).2).2)]) eC rfl rfl bx36 rfl nq (AllOne.all (.cons (aM o27.t.flat) (.cons (aM o29.t.flat) (.cons rfl .nil)))) rfl ?_
 intro w37 ch38 bx39
 refine ai ((di ((cV g).1)).2) (ab (a7 ?_))
 refine a6 rfl (lx (aa l8 rfl rfl rfl rfl) (lx (a8 bS rfl bx39 rfl) (ma v28 (ab (az (vs:=[v28]) Tryz.func100 (.tmp rfl .nil) ?_)))))
 have e0:((((di ((cV g).1)).1).2).1:List Int)=(cx g):=by
   rfl
 exact⟨(fin w0 g35 (λn=>if n=6 then 1 else 0),v28),(congrArg (a₁:=(((di ((cV g).1)).1).2).1) (λ(z0:List Int)=>Ending.returned (v28)) e0),bH.t.fresh _,(e0▸(o29.t.glue (γ:=c0) (ren:=(λn=>if n=6 then 1 else 0)) (k:=1) bH.t.col rfl rfl))⟩
theorem sP(w0:World)(g:(Int)×(List Pt))(g_v:Value)(hg_v:Ro w0 g_v g.2):
    Calls Tryz.prog 87 #[vg [vi g.1,g_v]] w0 (λee w=>ee= .returned (vb (j8 g))/\eK w0.heap.size w0 w):=by
 refine ah Tryz.func87 rfl nq ?_
 have bH:=aW.start w0
 have Rg:=hg_v.sl
 refine a7 (a6 rfl (cy rfl (bU c0 (is 1) (1,0) rfl rfl ?_)))
 intro g4 w1 b3 ch2 bx5
 refine ma (vb false) (ab (a7 (a6 rfl (lx (aa dK rfl rfl rfl rfl) (lx (a8 ap rfl bx5 rfl) (lx (eX (m:=g.1) (n:=2) rfl rfl) (mv (vb (decide (2<g.1))) ?_)))))))
 by_cases q6:2<g.1
 ·
  refine lv (vg [vi g.1,g_v]) (wy (dt q6)) (av (ds:=[vi g.1,g_v]) aK rfl bx5 rfl rfl) ?_
  refine cy (wy (dt q6)) (bI (v:=vb (so g)) (aB (vals:=[vg [vi g.1,g_v]]) Tryz.func99 yY xQ rfl) (q5 w1 g g_v Rg.t.ro) ?_)
  intro w6 hb7
  replace hb7:=aG hb7 g4
  refine lw (vb (so g)) (bh rfl (dt q6) rfl) (mv (vb (so g)) ?_)
  by_cases q10:(so g)=true
  ·
   refine lv (vg [vi g.1,g_v]) (wy q10) (av (ds:=[vi g.1,g_v]) aK rfl bx5.t rfl rfl) ?_
   refine cy (wy q10) (bB (aB (vals:=[vg [vi g.1,g_v]]) Tryz.func100 ou oQ rfl) (u9 w6 g g_v Rg.t.ro) ?_)
   rintro⟨d9,v11⟩ w8 ⟨fr10,o12⟩
   obtain⟨g13,ch14,G13⟩:=hU g4 fr10 (λn=>if n=1 then 2 else 0)
   replace o12:=o12.gl G13 2
   have len15:=(o12.flat).small
   refine lv (vi (List.length (cx g):Int)) (wy q10) (bG bF rfl o12.flat) (lv (vb (decide ((List.length (cx g):Int)=0))) (wy q10) (dd (m:=(List.length (cx g):Int)) (n:=0) rfl rfl) (lw (vb (decide ((List.length (cx g):Int)=0))) (bh rfl q10 rfl) (ma (vb (decide ((List.length (cx g):Int)=0))) (ab (az (vs:=[vb (decide ((List.length (cx g):Int)=0))]) Tryz.func87 (.tmp rfl .nil) ?_)))))
   have e0:(decide ((List.length (cx g):Int)=0):Bool)=(j8 g):=by
     (unfold j8;simp_all;done)
   exact⟨(congrArg (a₁:=decide ((List.length (cx g):Int)=0)) (λ(z0:Bool)=>Ending.returned (vb z0)) e0),bH.t.below⟩
  refine au (wn (Bool.eq_false_iff.2 q10)) (au (wn (Bool.eq_false_iff.2 q10)) (au (wn (Bool.eq_false_iff.2 q10)) (au (wn (Bool.eq_false_iff.2 q10)) (lw (vb false) (bo rfl (Bool.eq_false_iff.2 q10) rfl) (ma (vb false) (ab (az (vs:=[vb false]) Tryz.func87 (.tmp rfl .nil) ?_)))))))
  have e0:(false:Bool)=(j8 g):=by
    (unfold j8;simp_all;done)
  exact⟨rb e0,bH.t.below⟩
 refine au (wn (df q6)) (au (wn (df q6)) (lw (vb false) (bo rfl (df q6) rfl) (mv (vb false) (au (wn rfl) (au (wn rfl) (au (wn rfl) (au (wn rfl) (lw (vb false) (bo rfl rfl rfl) (ma (vb false) (ab (az (vs:=[vb false]) Tryz.func87 (.tmp rfl .nil) ?_)))))))))))
 have e0:(false:Bool)=(j8 g):=by
   (unfold j8;rw[df (by omega)];rfl)
 exact⟨rb e0,bH.t.below⟩
end TL
