import Derived.Test.YtbpphaeianpdpaaPmTlP2
import Derived.Test.YtbpphaeianpdpaaPmTlGmA
import Derived.Test.YtbpphaeianpdpaaPmTlGenA
import Derived.Test.YtbpphaeianpdpaaPmTlPwA
import Derived.Test.YtbpphaeianpdpaaProg
import Derived.Test.YtbpphaeianpdpaaPmTlAli
set_option linter.all false
set_option maxRecDepth 20000
namespace TL
open Go Go.Proofs
theorem cE:Try.prog.follows .mixedOrders=true:=by kernel_rfl
theorem gV:Tp Try.prog 4 false 1 1 (.bool false):=Tp.of (by kernel_rfl)
theorem c9:Tp Try.prog 29 false 1 24 (.slice none 0 0):=Tp.of (by kernel_rfl)
theorem bb:Tp Try.prog 33 true 2 48 (.agg #[.slice none 0 0,.slice none 0 0]):=Tp.of (by kernel_rfl)
theorem bf:Tp Try.prog 79 true 2 16 (.agg #[.float .f64 0,.int .i64 0]):=Tp.of (by kernel_rfl)
theorem bN:Tp Try.prog 81 false 1 24 (.slice none 0 0):=Tp.of (by kernel_rfl)
theorem ic:iB Try.prog 77 "Len" =some (40,false,81):=by kernel_rfl
theorem dl:iB Try.prog 77 "Less" =some (122,false,81):=by kernel_rfl
theorem lJ:iB Try.prog 77 "Pop" =some (123,true,81):=by kernel_rfl
theorem kn:iB Try.prog 77 "Push" =some (124,true,81):=by kernel_rfl
theorem dp:iB Try.prog 77 "Swap" =some (125,false,81):=by kernel_rfl
theorem gc:Try.f25.body.isNone=false:=rfl
theorem gm:(Try.f25.name== "runtime.NumGoroutine")=false:=by decide+kernel
theorem oA:Try.f27.body.isNone=false:=rfl
theorem nM:(Try.f27.name== "runtime.NumGoroutine")=false:=by decide+kernel
theorem iy:Try.f34.body.isNone=false:=rfl
theorem iP:(Try.f34.name== "runtime.NumGoroutine")=false:=by decide+kernel
theorem nN:Try.f38.body.isNone=false:=rfl
theorem o4:(Try.f38.name== "runtime.NumGoroutine")=false:=by decide+kernel
theorem nI:Try.f39.body.isNone=false:=rfl
theorem pz:(Try.f39.name== "runtime.NumGoroutine")=false:=by decide+kernel
theorem iX:Try.f40.body.isNone=false:=rfl
theorem j7:(Try.f40.name== "runtime.NumGoroutine")=false:=by decide+kernel
theorem oP:Try.f41.body.isNone=false:=rfl
theorem pq:(Try.f41.name== "runtime.NumGoroutine")=false:=by decide+kernel
theorem nC:Try.f42.body.isNone=false:=rfl
theorem nV:(Try.f42.name== "runtime.NumGoroutine")=false:=by decide+kernel
theorem pi:Try.f64.body.isNone=false:=rfl
theorem pj:(Try.f64.name== "runtime.NumGoroutine")=false:=by decide+kernel
theorem oO:Try.f65.body.isNone=false:=rfl
theorem pD:(Try.f65.name== "runtime.NumGoroutine")=false:=by decide+kernel
theorem eh:Try.f122.body.isNone=false:=rfl
theorem eb:(Try.f122.name== "runtime.NumGoroutine")=false:=by decide+kernel
theorem nk:Try.f123.body.isNone=false:=rfl
theorem n4:(Try.f123.name== "runtime.NumGoroutine")=false:=by decide+kernel
theorem mG:Try.f124.body.isNone=false:=rfl
theorem np:(Try.f124.name== "runtime.NumGoroutine")=false:=by decide+kernel
theorem es:Try.f125.body.isNone=false:=rfl
theorem ey:(Try.f125.name== "runtime.NumGoroutine")=false:=by decide+kernel
set_option maxHeartbeats 8000000 in
theorem fB(w0:World)(g:(Int)×(List Pt))(g_v:Value)(hg_v:Ro w0 g_v g.2)(ws:List Nat)(ws_v:Value)(hws_v:Ro w0 ws_v ws)(s:Int):
    Calls Try.prog 12 #[vg [vi g.1,g_v],ws_v,vi s] w0 (λee w=>∃xx:ay×Value×Value,ee= .returned ((λ⟨δ,rv0,rv1⟩=>vt [vg [rv0,rv1],vi ((av g ws s).2)]) xx)/\(λ(⟨δ,rv0,rv1⟩:ay×Value×Value) (w:World)=>eQ w0 δ w/\Ow δ (is 1) (is 1) w rv0 (((av g ws s).1).1)/\Ow δ (is 2) (is 2) w rv1 (((av g ws s).1).2)) xx w):=by
 refine am Try.func12 rfl nq ?_
 have bH:=b7.start w0
 have Rg:=hg_v.sl
 have Rws:=hws_v.sl
 refine a8 (a7 rfl (d8 rfl (cW c0 (is 1) (1,0) rfl rfl ?_)))
 intro g4 w1 b3 ch2 bx5
 replace bx5:Bx g4 (is 1) w1 b3 [vi g.1,g_v]:=bx5
 refine lo (bn g4 (is 2) (2,0) rfl bb ?_)
 intro g9 w6 b8 ch7 bx10
 replace bx10:Bx g9 (is 2) w6 b8 [vn,vn]:=bx10
 refine ai 0 (aa (a8 (a8 (a7 rfl ?_))))
 replace bx5:=bx5.cn ch7
 refine lx (aN (ds:=[vi g.1,g_v]) bv rfl bx5 rfl rfl) (mv ws_v ?_)
 replace Rg:=(Rg.cn ch2).cn ch7
 replace Rws:=(Rws.cn ch2).cn ch7
 refine lo (bB (v:=vi (dd g ws)) (aE (vals:=[vg [vi g.1,g_v],ws_v]) Try.func38 nN o4 rfl) (gX w6 g g_v (Rg).ro ws ws_v (Rws).ro) ?_)
 intro w11 hb12
 replace hb12:=aA hb12 g9
 refine ai (dd g ws) (aa (a8 (a7 rfl (mi (dd g ws) (lx (cY (m:=dd g ws) (n:=0) rfl rfl) (aa ?_))))))
 by_cases p2:(dd g ws)=0
 ·
  obtain⟨hm,hwl,hwg⟩:=qh p2
  have hm0:=hm
  obtain⟨hm1,hm2,hm3,hm4⟩:=hm0
  have hrp:(List.length (List.replicate (Int.toNat g.1) (0:Nat)):Int)=g.1:=by rw[List.length_replicate];omega
  have hfl:=lC g hm1
  refine aj rfl (congrArg Bool.not (dt p2)) (ap (a8 (a8 (a7 rfl (mi s (lx (aX (m:=s) (n:=0) rfl rfl) (mv (vb (decide (s<0))) ?_)))))))
  by_cases q28:s<0
  ·
   refine ak (wn (dt q28)) (ak (wn (dt q28)) (ak (wn (dt q28)) (ak (wn (dt q28)) (lw (vb true) (aH rfl (dt q28) rfl) (aa (ah rfl rfl (a8 ?_)))))))
   clear bx5
   refine a7 rfl (lw (vg [vn,vn]) (bJ (vs:=[]) rfl (by kernel_rfl)) (lo ?_))
   replace bx10:=bx10.cn hb12
   refine aG (cs':=[vn,vn]) bb rfl rfl bx10 rfl nq (AllOne.all (.cons rfl (.cons rfl .nil))) rfl ?_
   intro w13 ch14 bx15
   clear bx10
   refine ai 2 (aa (ar (vs:=[vg [vn,vn],vi 2]) Try.func12 (.cell rfl (cl (ds:=[vn,vn]) bb bx15 rfl rfl) (.tmp rfl .nil)) ?_))
   have C16:=cg [2] (ch2.n.seq (ch7.n.seq (hb12.n.seq (ch14.l rfl))))
   replace bH:=bH.ca C16
   have e0:(([],[]):(List Nat)×(List Int))=((av g ws s).1):=by
     rw[gM p2 (by omega)]
   have e1:(2:Int)=((av g ws s).2):=by
     rw[gM p2 (by omega)]
   exact⟨(fin w0 g9 (λn=>0),vn,vn),(c6 (a:=([],[])) (b:=2) (λ(z0:(List Nat)×(List Int)) (z1:Int)=>Ending.returned (vt [vg [vn,vn],vi z1])) e0 e1),bH.fresh _,((congrArg (λ(z:(List Nat)×(List Int))=>z.1) e0)▸Ow.nil),((congrArg (λ(z:(List Nat)×(List Int))=>z.2) e0)▸Ow.nil)⟩
  refine lv (vi s) (wy (df q28)) (al rfl) (lv (vp b3 0) (wy (df q28)) (ad d5 rfl rfl rfl rfl) ?_)
  replace bx5:=bx5.cn hb12
  refine lv (vi g.1) (wy (df q28)) (ae ax rfl bx5 rfl) (lv (vb (decide (g.1<=s))) (wy (df q28)) (d7 (m:=s) (n:=g.1) rfl rfl) (lw (vb (decide (g.1<=s))) (aI rfl (df q28) rfl) (aa ?_)))
  by_cases p4:g.1<=s
  ·
   refine ah rfl (dt p4) (a8 ?_)
   clear bx5
   refine a7 rfl (lw (vg [vn,vn]) (bJ (vs:=[]) rfl (by kernel_rfl)) (lo ?_))
   replace bx10:=bx10.cn hb12
   refine aG (cs':=[vn,vn]) bb rfl rfl bx10 rfl nq (AllOne.all (.cons rfl (.cons rfl .nil))) rfl ?_
   intro w17 ch18 bx19
   clear bx10
   refine ai 2 (aa (ar (vs:=[vg [vn,vn],vi 2]) Try.func12 (.cell rfl (cl (ds:=[vn,vn]) bb bx19 rfl rfl) (.tmp rfl .nil)) ?_))
   have C20:=cg [2] (ch2.n.seq (ch7.n.seq (hb12.n.seq (ch18.l rfl))))
   replace bH:=bH.ca C20
   have e0:(([],[]):(List Nat)×(List Int))=((av g ws s).1):=by
     rw[gM p2 (by omega)]
   have e1:(2:Int)=((av g ws s).2):=by
     rw[gM p2 (by omega)]
   exact⟨(fin w0 g9 (λn=>0),vn,vn),(c6 (a:=([],[])) (b:=2) (λ(z0:(List Nat)×(List Int)) (z1:Int)=>Ending.returned (vt [vg [vn,vn],vi z1])) e0 e1),bH.fresh _,((congrArg (λ(z:(List Nat)×(List Int))=>z.1) e0)▸Ow.nil),((congrArg (λ(z:(List Nat)×(List Int))=>z.2) e0)▸Ow.nil)⟩
  refine aj rfl (df p4) (ap (a8 ?_))
  refine dv (σ:=Nat×Value×Value×ay) (λ⟨b33,v23,v28,gq⟩ f w=>b7 w0 gq w/\f 1=ws_v/\f 2=vi s/\f 3=vp b3 0/\f 6=vp b8 0/\f 9=vp b33 0/\Sl gq (is 0) w g_v g.2/\Sl gq (is 0) w ws_v ws/\Bx gq (is 1) w b3 [vi g.1,g_v]/\Bx gq (is 2) w b8 [vn,vn]/\Ow gq (is 3) (is 3) w v23 (List.replicate (Int.toNat g.1) (0:Nat))/\Ow gq (is 4) (is 4) w v28 (List.replicate (Int.toNat g.1) (0:Int))/\Bx gq (is 5) w b33 [v23,v28]) g9 [0,1,3,4,6] cE ?_ ?_
  ·
   intro mid
   intro w22 ch21
   refine xp 0 rfl (λw=>ad d5 rfl rfl rfl rfl) ?_
   replace bx5:=bx5.cn ch21
   refine xh 1 [0,3,7,4,5] rfl (λw' hw'=>ae ax rfl (bx5.bel hw') rfl) (xp 3 rfl (λw=>ad d5 rfl rfl rfl rfl) (xh 4 [3,1,0,2,7] rfl (λw' hw'=>ae ax rfl (bx5.bel hw') rfl) ?_))
   refine mI 2 [5,7] (by kernel_rfl) ⟨lO 2 rfl (by kernel_rfl) rfl ?_,lO 5 rfl (by kernel_rfl) rfl ?_,lO 7 rfl (by kernel_rfl) rfl ?_,trivial⟩
   ·
    refine bw (α:=Nat) (l:=g.1) (cp:=g.1) g9 (is 3) (is 3) (3,0) rfl (0:Nat) cR aF rfl rfl rfl (by omega) (by omega) (by omega) (by omega) ?_
    intro g23 w24 v25 ch26 o27 _
    refine el 5 7 rfl rfl (by kernel_rfl) rfl rfl ?_ ?_
    ·
     refine bw (α:=Int) (l:=g.1) (cp:=g.1) g23 (is 4) (is 4) (4,0) rfl (0:Int) bQ ax rfl rfl rfl (by omega) (by omega) (by omega) (by omega) ?_
     intro g28 w29 v30 ch31 o32 _
     replace o27:=o27.cn ch31
     refine xp (v:=vg [v25,v30]) 6 rfl (λw=>bJ (vs:=[(0,v25),(1,v30)]) rfl (by rw[Sl.form o27.flat,Sl.form o32.flat];kernel_rfl)) (aZ 7 rfl (by kernel_rfl) rfl (bn g28 (is 5) (5,0) rfl bb ?_))
     intro g36 w33 b35 ch34 bx37
     replace bx37:Bx g36 (is 5) w33 b35 [vn,vn]:=bx37
     refine aZ 8 rfl (by kernel_rfl) rfl ?_
     replace o32:=o32.cn ch34
     replace o27:=o27.cn ch34
     refine aG (cs':=[v25,v30]) bb rfl rfl bx37 rfl nq (AllOne.all (.cons (aP o27.flat) (.cons (aP o32.flat) .nil))) rfl ?_
     intro w38 ch39 bx40
     clear bx37
     refine bR (by kernel_rfl) ?_
     have C43:=cg [5] (ch26.n.seq (ch31.n.seq (ch34.n.seq (ch39.l rfl))))
     have C42:=hb12.n.seq (ch21.n.seq C43)
     have C41:=ch2.n.seq (ch7.n.seq C42)
     exact mid (b35,v25,v30,g36) _ _ ⟨bH.ca C41,rfl,rfl,rfl,rfl,rfl,Rg.ca C42,Rws.ca C42,bx5.ca C43,bx10.ca C42,o27.ce ch39,o32.ce ch39,bx40⟩
    ·
     refine bn g23 (is 5) (5,0) rfl bb ?_
     intro g47 w44 b46 ch45 bx48
     replace bx48:Bx g47 (is 5) w44 b46 [vn,vn]:=bx48
     refine aZ 5 rfl (by kernel_rfl) rfl (bw (α:=Int) (l:=g.1) (cp:=g.1) g47 (is 4) (is 4) (4,0) rfl (0:Int) bQ ax rfl rfl rfl (by omega) (by omega) (by omega) (by omega) ?_)
     intro g49 w50 v51 ch52 o53 _
     replace o27:=(o27.cn ch45).cn ch52
     refine xp (v:=vg [v25,v51]) 6 rfl (λw=>bJ (vs:=[(0,v25),(1,v51)]) rfl (by rw[Sl.form o27.flat,Sl.form o53.flat];kernel_rfl)) (aZ 8 rfl (by kernel_rfl) rfl ?_)
     replace bx48:=bx48.cn ch52
     refine aG (cs':=[v25,v51]) bb rfl rfl bx48 rfl nq (AllOne.all (.cons (aP o27.flat) (.cons (aP o53.flat) .nil))) rfl ?_
     intro w54 ch55 bx56
     clear bx48
     refine bR (by kernel_rfl) ?_
     have C59:=cg [5] (ch26.n.seq (ch45.n.seq (ch52.n.seq (ch55.l rfl))))
     have C58:=hb12.n.seq (ch21.n.seq C59)
     have C57:=ch2.n.seq (ch7.n.seq C58)
     exact mid (b46,v25,v51,g49) _ _ ⟨bH.ca C57,rfl,rfl,rfl,rfl,rfl,Rg.ca C58,Rws.ca C58,bx5.ca C59,bx10.ca C58,o27.ce ch55,o53.ce ch55,bx56⟩
   ·
    refine bw (α:=Int) (l:=g.1) (cp:=g.1) g9 (is 4) (is 4) (4,0) rfl (0:Int) bQ ax rfl rfl rfl (by omega) (by omega) (by omega) (by omega) ?_
    intro g60 w61 v62 ch63 o64 _
    refine el 2 7 rfl rfl (by kernel_rfl) rfl rfl ?_ ?_
    ·
     refine bw (α:=Nat) (l:=g.1) (cp:=g.1) g60 (is 3) (is 3) (3,0) rfl (0:Nat) cR aF rfl rfl rfl (by omega) (by omega) (by omega) (by omega) ?_
     intro g65 w66 v67 ch68 o69 _
     replace o64:=o64.cn ch68
     refine xp (v:=vg [v67,v62]) 6 rfl (λw=>bJ (vs:=[(0,v67),(1,v62)]) rfl (by rw[Sl.form o64.flat,Sl.form o69.flat];kernel_rfl)) (aZ 7 rfl (by kernel_rfl) rfl (bn g65 (is 5) (5,0) rfl bb ?_))
     intro g73 w70 b72 ch71 bx74
     replace bx74:Bx g73 (is 5) w70 b72 [vn,vn]:=bx74
     refine aZ 8 rfl (by kernel_rfl) rfl ?_
     replace o64:=o64.cn ch71
     replace o69:=o69.cn ch71
     refine aG (cs':=[v67,v62]) bb rfl rfl bx74 rfl nq (AllOne.all (.cons (aP o69.flat) (.cons (aP o64.flat) .nil))) rfl ?_
     intro w75 ch76 bx77
     clear bx74
     refine bR (by kernel_rfl) ?_
     have C80:=cg [5] (ch63.n.seq (ch68.n.seq (ch71.n.seq (ch76.l rfl))))
     have C79:=hb12.n.seq (ch21.n.seq C80)
     have C78:=ch2.n.seq (ch7.n.seq C79)
     exact mid (b72,v67,v62,g73) _ _ ⟨bH.ca C78,rfl,rfl,rfl,rfl,rfl,Rg.ca C79,Rws.ca C79,bx5.ca C80,bx10.ca C79,o69.ce ch76,o64.ce ch76,bx77⟩
    ·
     refine bn g60 (is 5) (5,0) rfl bb ?_
     intro g84 w81 b83 ch82 bx85
     replace bx85:Bx g84 (is 5) w81 b83 [vn,vn]:=bx85
     refine aZ 2 rfl (by kernel_rfl) rfl (bw (α:=Nat) (l:=g.1) (cp:=g.1) g84 (is 3) (is 3) (3,0) rfl (0:Nat) cR aF rfl rfl rfl (by omega) (by omega) (by omega) (by omega) ?_)
     intro g86 w87 v88 ch89 o90 _
     replace o64:=(o64.cn ch82).cn ch89
     refine xp (v:=vg [v88,v62]) 6 rfl (λw=>bJ (vs:=[(0,v88),(1,v62)]) rfl (by rw[Sl.form o64.flat,Sl.form o90.flat];kernel_rfl)) (aZ 8 rfl (by kernel_rfl) rfl ?_)
     replace bx85:=bx85.cn ch89
     refine aG (cs':=[v88,v62]) bb rfl rfl bx85 rfl nq (AllOne.all (.cons (aP o90.flat) (.cons (aP o64.flat) .nil))) rfl ?_
     intro w91 ch92 bx93
     clear bx85
     refine bR (by kernel_rfl) ?_
     have C96:=cg [5] (ch63.n.seq (ch82.n.seq (ch89.n.seq (ch92.l rfl))))
     have C95:=hb12.n.seq (ch21.n.seq C96)
     have C94:=ch2.n.seq (ch7.n.seq C95)
     exact mid (b83,v88,v62,g86) _ _ ⟨bH.ca C94,rfl,rfl,rfl,rfl,rfl,Rg.ca C95,Rws.ca C95,bx5.ca C96,bx10.ca C95,o90.ce ch92,o64.ce ch92,bx93⟩
   ·
    refine bn g9 (is 5) (5,0) rfl bb ?_
    intro g100 w97 b99 ch98 bx101
    replace bx101:Bx g100 (is 5) w97 b99 [vn,vn]:=bx101
    refine el 2 5 rfl rfl (by kernel_rfl) rfl rfl ?_ ?_
    ·
     refine bw (α:=Nat) (l:=g.1) (cp:=g.1) g100 (is 3) (is 3) (3,0) rfl (0:Nat) cR aF rfl rfl rfl (by omega) (by omega) (by omega) (by omega) ?_
     intro g102 w103 v104 ch105 o106 _
     refine aZ 5 rfl (by kernel_rfl) rfl (bw (α:=Int) (l:=g.1) (cp:=g.1) g102 (is 4) (is 4) (4,0) rfl (0:Int) bQ ax rfl rfl rfl (by omega) (by omega) (by omega) (by omega) ?_)
     intro g107 w108 v109 ch110 o111 _
     replace o106:=o106.cn ch110
     refine xp (v:=vg [v104,v109]) 6 rfl (λw=>bJ (vs:=[(0,v104),(1,v109)]) rfl (by rw[Sl.form o106.flat,Sl.form o111.flat];kernel_rfl)) (aZ 8 rfl (by kernel_rfl) rfl ?_)
     replace bx101:=(bx101.cn ch105).cn ch110
     refine aG (cs':=[v104,v109]) bb rfl rfl bx101 rfl nq (AllOne.all (.cons (aP o106.flat) (.cons (aP o111.flat) .nil))) rfl ?_
     intro w112 ch113 bx114
     clear bx101
     refine bR (by kernel_rfl) ?_
     have C117:=cg [5] (ch98.n.seq (ch105.n.seq (ch110.n.seq (ch113.l rfl))))
     have C116:=hb12.n.seq (ch21.n.seq C117)
     have C115:=ch2.n.seq (ch7.n.seq C116)
     exact mid (b99,v104,v109,g107) _ _ ⟨bH.ca C115,rfl,rfl,rfl,rfl,rfl,Rg.ca C116,Rws.ca C116,bx5.ca C117,bx10.ca C116,o106.ce ch113,o111.ce ch113,bx114⟩
    ·
     refine bw (α:=Int) (l:=g.1) (cp:=g.1) g100 (is 4) (is 4) (4,0) rfl (0:Int) bQ ax rfl rfl rfl (by omega) (by omega) (by omega) (by omega) ?_
     intro g118 w119 v120 ch121 o122 _
     refine aZ 2 rfl (by kernel_rfl) rfl (bw (α:=Nat) (l:=g.1) (cp:=g.1) g118 (is 3) (is 3) (3,0) rfl (0:Nat) cR aF rfl rfl rfl (by omega) (by omega) (by omega) (by omega) ?_)
     intro g123 w124 v125 ch126 o127 _
     replace o122:=o122.cn ch126
     refine xp (v:=vg [v125,v120]) 6 rfl (λw=>bJ (vs:=[(0,v125),(1,v120)]) rfl (by rw[Sl.form o122.flat,Sl.form o127.flat];kernel_rfl)) (aZ 8 rfl (by kernel_rfl) rfl ?_)
     replace bx101:=(bx101.cn ch121).cn ch126
     refine aG (cs':=[v125,v120]) bb rfl rfl bx101 rfl nq (AllOne.all (.cons (aP o127.flat) (.cons (aP o122.flat) .nil))) rfl ?_
     intro w128 ch129 bx130
     clear bx101
     refine bR (by kernel_rfl) ?_
     have C133:=cg [5] (ch98.n.seq (ch121.n.seq (ch126.n.seq (ch129.l rfl))))
     have C132:=hb12.n.seq (ch21.n.seq C133)
     have C131:=ch2.n.seq (ch7.n.seq C132)
     exact mid (b99,v125,v120,g123) _ _ ⟨bH.ca C131,rfl,rfl,rfl,rfl,rfl,Rg.ca C132,Rws.ca C132,bx5.ca C133,bx10.ca C132,o127.ce ch129,o122.ce ch129,bx130⟩
  clear Rg Rws bx5 bx10 bH
  rintro⟨b33,v23,v28,g136⟩ f134 w135 ⟨bH,zs1,zs2,zs3,zs6,zs9,Rg,Rws,bx5,bx10,o25,o30,bx38⟩
  refine a8 (a8 (a7 rfl (lx (ad h8 rfl rfl zs9 rfl) (lx (ae c9 rfl bx38 rfl) ?_))))
  have len137:=(o25.flat).small
  refine lx (bA cR rfl o25.flat) (mi 0 (aa (aq ?_)))
  refine ba (σ:=Nat×(List Nat)×(List Int)×ay) (λ⟨v,iz,by0,gq⟩ f w=>b7 w0 gq w/\f 1=ws_v/\f 2=vi s/\f 3=vp b3 0/\f 6=vp b8 0/\f 9=vp b33 0/\f 44=vi (List.length (List.replicate (Int.toNat g.1) (0:Nat)):Int)/\f 45=vi ↑v/\Sl gq (is 0) w g_v g.2/\Sl gq (is 0) w ws_v ws/\Bx gq (is 1) w b3 [vi g.1,g_v]/\Bx gq (is 2) w b8 [vn,vn]/\Ow gq (is 3) (is 3) w v23 iz/\Ow gq (is 4) (is 4) w v28 by0/\Bx gq (is 5) w b33 [v23,v28]/\(v:Int)<=((List.length (List.replicate (Int.toNat g.1) (0:Nat)):Int):Int)/\(eT g iz by0 v)) (λ⟨v,iz,by0,gq⟩=>Int.toNat (((List.length (List.replicate (Int.toNat g.1) (0:Nat)):Int):Int)-(v:Int))) (0,(List.replicate (Int.toNat g.1) (0:Nat)),(List.replicate (Int.toNat g.1) (0:Int)),g136) ?_ ?_
  · exact⟨bH,zs1,zs2,zs3,zs6,zs9,rfl,rfl,Rg,Rws,bx5,bx10,o25,o30,bx38,by omega,by exact eT.start hm⟩
  clear Rg Rws bx5 bx10 o25 o30 bx38 bH
  rintro⟨v,iz,by0,g140⟩ f138 w139 ⟨bH,zs1,zs2,zs3,zs6,zs9,zs44,zs45,Rg,Rws,bx5,bx10,o25,o30,bx38,hle_v,h0⟩ back8
  have h0f:=h0.lf
  have h0b:=h0.lb
  refine a8 (a7 rfl (lx (aX (m:=↑v) (n:=(List.length (List.replicate (Int.toNat g.1) (0:Nat)):Int)) zs45 zs44) (aa (a8 ?_))))
  by_cases p8:(v:Int)<(List.length (List.replicate (Int.toNat g.1) (0:Nat)):Int)
  ·
   refine ah rfl (dt p8) (ap (a8 (aq (a8 (a7 rfl (mz zs45 (ai (v:Int) (aa (di g140 (inl [3,4]) cE ?_)))))))))
   intro w142 ch141
   refine ht 0 rfl (bc.refl _ _ _) (λw' hw'=>ad h8 rfl rfl zs9 rfl) ?_
   replace bx38:=bx38.cn ch141
   refine ht 1 rfl (bc.refl _ _ _) (λw' hw'=>ae c9 rfl (bx38.chg hw' (cw rfl)) rfl) (ht (v:=vi ↑v) 2 rfl (bc.refl _ _ _) (λw' hw'=>al rfl) (ht 3 rfl (bc.refl _ _ _) (λw' hw'=>ad h8 rfl rfl zs9 rfl) (ht 4 rfl (bc.refl _ _ _) (λw' hw'=>ae bL rfl (bx38.chg hw' (cw rfl)) rfl) (ht (v:=vi ↑v) 5 rfl (bc.refl _ _ _) (λw' hw'=>al rfl) (cP 6 rfl (by kernel_rfl) rfl (bB (v:=Value.float .f64 az) (aE (vals:=[vi 1]) Try.func34 iy iP rfl) (kh w142 1 (by omega)) ?_))))))
   intro w143 hb144
   replace hb144:=aA hb144 g140
   have hs145:bc (inl [3,4]) _ _ _ _:=hb144.n
   refine⟨hs145.same,?_⟩
   refine cP 7 rfl (by kernel_rfl) rfl ?_
   replace o25:=(o25.cn ch141).cn hb144
   refine bk (v:=Value.pointer (some (aL v23 1 (Int.toNat ↑v)))) (ab (α:=Nat) (xs:=iz) (v:=v23) (i:=↑v) cR rfl rfl o25.flat rfl (by omega) (by omega)) ?_
   refine⟨hs145.same,?_⟩
   refine cP 8 rfl (by kernel_rfl) rfl (aJ (i:=↑v) az aF rfl rfl o25 (by omega) (by omega) rfl ?_)
   intro w146 ch147 bx148
   clear o25
   have hs149:=hs145.seq (ch147.l rfl)
   refine⟨hs149.same,?_⟩
   refine cP 9 rfl (by kernel_rfl) rfl ?_
   have C150:=cg [3] (ch141.n.seq (hb144.n.seq (ch147.l rfl)))
   replace o30:=o30.ca C150
   refine bk (v:=Value.pointer (some (aL v28 1 (Int.toNat ↑v)))) (ab (α:=Int) (xs:=by0) (v:=v28) (i:=↑v) bQ rfl rfl o30.flat rfl (by omega) (by omega)) ?_
   refine⟨hs149.same,?_⟩
   refine cP 10 rfl (by kernel_rfl) rfl (aJ (i:=↑v) (-1) ax rfl rfl o30 (by omega) (by omega) rfl ?_)
   intro w151 ch152 bx153
   clear o30
   have hs154:=hs149.seq (ch152.l rfl)
   refine⟨hs154.same,?_⟩
   refine i5 (by kernel_rfl) (au (a7 rfl (lx (bg (m:=↑v) (n:=1) zs45 rfl (by omega)) (mi ((v:Int)+1) (aa ?_)))))
   have C156:=cg [3,4] (hb144.n.seq ((ch147.l rfl).seq (ch152.l rfl)))
   have C155:=ch141.n.seq C156
   refine back8 (v+1,(List.set iz (Int.toNat ↑v) az),(List.set by0 (Int.toNat ↑v) (-1)),g140) _ _ ⟨bH.ca C155,zs1,zs2,zs3,zs6,zs9,zs44,rfl,Rg.ca C155,Rws.ca C155,bx5.ca C155,bx10.ca C155,bx148.ce ch152,bx153,bx38.ca C156,by omega,?_⟩ ?_
   · show eT g (List.set iz (Int.toNat ↑v) az) (List.set by0 (Int.toNat ↑v) (-1)) (v+1)
     exact h0.next (by omega)
   · show Int.toNat (((List.length (List.replicate (Int.toNat g.1) (0:Nat)):Int):Int)-((v+1):Int))<Int.toNat (((List.length (List.replicate (Int.toNat g.1) (0:Nat)):Int):Int)-(v:Int))
     omega
  refine aj rfl (df p8) (aO rfl (a8 (a7 rfl (lx (ad h8 rfl rfl zs9 rfl) (lx (ae c9 rfl bx38 rfl) (mz zs2 (lx (ab (v:=v23) (i:=s) cR rfl rfl o25.flat rfl (by omega) (by omega)) (lo (aJ (i:=s) 0 aF rfl rfl o25 (by omega) (by omega) rfl ?_)))))))))
  intro w157 ch158 bx159
  clear o25
  refine aa (a8 (a7 rfl (lx (ad d5 rfl rfl zs3 rfl) ?_)))
  replace bx5:=bx5.ce ch158
  refine lx (ae ax rfl bx5 rfl) (lo (bw (α:=Bool) (l:=g.1) (cp:=g.1) g140 (is 6) (is 6) (6,0) rfl false qf gV rfl rfl rfl (by omega) (by omega) (by omega) (by omega) ?_))
  intro g160 w161 v162 ch163 o164 _
  refine ma v162 (aa (a8 (a7 rfl ?_)))
  replace bx5:=bx5.cn ch163
  refine lx (aN (ds:=[vi g.1,g_v]) bv zs3 bx5 rfl rfl) ?_
  replace Rg:=(Rg.ce ch158).cn ch163
  refine lo (bo (aE (vals:=[vg [vi g.1,g_v]]) Try.func39 nI pz rfl) (mM w161 g g_v (Rg).ro (by exact hm)) ?_)
  rintro⟨d166,v168⟩ w165 ⟨fr167,o169⟩
  obtain⟨g170,ch171,G170⟩:=ky g160 fr167 (λn=>if n=1 then 7 else 0)
  replace o169:=o169.gl G170 7
  refine ma v168 (aa (a8 (a7 rfl (mz zs2 (lw (vg [Value.float .f64 0,vi s]) (bJ (vs:=[(0,Value.float .f64 0),(1,vi s)]) rfl (by kernel_rfl)) (lo (aQ (α:=(Nat)×(Int)) g170 (is 8) (is 8) (8,0) rfl ([(0,s)]:List ((Nat)×(Int))) eM bf (by decide) (by decide) (vs:=[(0,vg [Value.float .f64 0,vi s])]) rfl rfl (.cons rfl .nil) ?_)))))))
  intro g172 w173 v174 ch175 o176
  refine lo ?_
  have hc182:=dj o176.flat
  refine cW (v:=v174) g172 (is 9) (9,0) rfl rfl ?_
  intro g180 w177 b179 ch178 bx181
  rw[hc182] at bx181
  replace bx181:Bx g180 (is 9) w177 b179 [v174]:=bx181
  refine ma (vp b179 0) (aa (a8 (aq ?_)))
  refine ba (σ:=Value×(List ((Nat)×(Int)))×(List Nat)×(List Int)×(List Bool)×ay) (λ⟨qq_v,qq,far,by_,se,gq⟩ f w=>b7 w0 gq w/\f 1=ws_v/\f 3=vp b3 0/\f 6=vp b8 0/\f 9=vp b33 0/\f 11=v162/\f 12=v168/\f 13=vp b179 0/\Sl gq (is 0) w g_v g.2/\Sl gq (is 0) w ws_v ws/\Bx gq (is 1) w b3 [vi g.1,g_v]/\Bx gq (is 2) w b8 [vn,vn]/\Ow gq (is 4) (is 4) w v28 by_/\Bx gq (is 5) w b33 [v23,v28]/\Ow gq (is 3) (is 3) w v23 far/\Ow gq (is 6) (is 6) w v162 se/\da gq 7 w v168 (af g)/\Bx gq (is 9) w b179 [qq_v]/\Ow gq (is 8) (is 8) w qq_v qq/\(WI g ws s qq far by_ se)) (λ⟨qq_v,qq,far,by_,se,gq⟩=>gP g qq se) (v174,([(0,s)]:List ((Nat)×(Int))),(List.set iz (Int.toNat s) 0),by0,(List.replicate (Int.toNat g.1) false),g180) ?_ ?_
  have C183:=cg [3] ((ch158.l rfl).seq (ch163.n.seq (ch171.n.seq (ch175.n.seq ch178.n))))
  have C184:=cg [] (ch171.n.seq (ch175.n.seq ch178.n))
  have C185:=ch163.n.seq C184
  · exact⟨bH.ca C183,zs1,zs3,zs6,zs9,rfl,rfl,rfl,Rg.ca C184,Rws.ca C183,bx5.ca C184,bx10.ca C183,o30.ca C183,bx38.ca C183,bx159.ca C185,o164.ca C184,(o169.cn ch175).cn ch178,bx181,o176.cn ch178,by exact h0.done hm (by omega) (by omega) (by omega)⟩
  clear Rg Rws bx5 bx10 o30 bx38 bx159 o164 o169 o176 bx181 bH
  rintro⟨qq_v,qq,far,by_,se,g188⟩ f186 w187 ⟨bH,zs1,zs3,zs6,zs9,zs11,zs12,zs13,Rg,Rws,bx5,bx10,o30,bx38,bx159,o164,o169,bx181,o_qq,h1⟩ back16
  have h1f:=h1.h.lf
  have h1b:=h1.h.lb
  have h1s:=h1.h.ls
  have hqn:=h1.h.qn
  have hql:=h1.ql
  refine a8 (a8 (a7 rfl (mz zs13 (lw (vp b179 0) (b6 rfl) (lx (ae bN rfl bx181 rfl) (lo (bB (v:=vi (qq.length:Int)) (aE (vals:=[qq_v]) Try.func40 iX j7 rfl) (iO w187 qq qq_v (o_qq.flat).ro) ?_)))))))
  intro w189 hb190
  replace hb190:=aA hb190 g188
  refine lx (eS (m:=(qq.length:Int)) (n:=0) rfl rfl) (aa ?_)
  by_cases p16:0<(qq.length:Int)
  ·
   refine ah rfl (dt p16) (ap (aq (a8 (a7 rfl (mz zs13 (lw (Value.iface 77 (vp b179 0)) (iT s5 rfl rfl) (lo (bl (aE (vals:=[Value.iface 77 (vp b179 0)]) Try.func41 oP pq rfl) (am Try.func41 rfl nq ?_)))))))))
   replace o_qq:=o_qq.cn hb190
   refine a8 (a7 rfl (ma (Value.nilIface) (aa (a8 (a7 rfl (mv (Value.iface 77 (vp b179 0)) ?_))))))
   replace bx181:=bx181.cn hb190
   refine lo (bB (v:=vi (qq.length:Int)) (bV (T:=77) (v:=vp b179 0) (u:=qq_v) (vals:=[]) rfl (λn=>bq ic (bi bN (by rw[bx181.cell];rfl))) Try.func40 iX j7 rfl) (iO w189 qq qq_v (o_qq.flat).ro) ?_)
   intro w191 hb192
   replace hb192:=aA hb192 g188
   refine lx (dZ (m:=(qq.length:Int)) (n:=1) rfl rfl (by omega)) (ai ((qq.length:Int)-1) (aa (a8 (a7 rfl (mv (Value.iface 77 (vp b179 0)) (mi ((qq.length:Int)-1) (lo ?_)))))))
   replace bx181:=bx181.cn hb192
   refine bl (bV (T:=77) (v:=vp b179 0) (u:=qq_v) (vals:=[vi 0,vi ((qq.length:Int)-1)]) rfl (λn=>bq dp (bi bN (by rw[bx181.cell];rfl))) Try.func125 es ey rfl) (am Try.func125 rfl nq ?_)
   replace o_qq:=o_qq.cn hb192
   refine bD g188 [0,1,2,3,4,5,6,7,8,9,10,11,12,14] cE ?_
   intro w194 ch193
   refine xp (v:=qq_v) 0 rfl (λw=>al rfl) (xp (v:=vi 0) 1 rfl (λw=>al rfl) (xp (v:=qq_v) 2 rfl (λw=>al rfl) (xp (v:=vi ((qq.length:Int)-1)) 3 rfl (λw=>al rfl) (xp (v:=qq_v) 4 rfl (λw=>al rfl) (xp (v:=vi ((qq.length:Int)-1)) 5 rfl (λw=>al rfl) ?_)))))
   replace o_qq:=o_qq.cn ch193
   refine xv 6 [5,4,3,2,1,0,8,9,10,11] rfl (ab (v:=qq_v) (i:=(qq.length:Int)-1) eM rfl rfl o_qq.flat rfl (by omega) (by omega)) (xv (v:=vg [Value.float .f64 ((gI qq ((qq.length:Int)-1)).1),vi ((gI qq ((qq.length:Int)-1)).2)]) 7 [6,5,4,3,2,1,0,8,9,10,11] rfl (br (v:=qq_v) (i:=(qq.length:Int)-1) bf rfl o_qq.flat (by omega) (by omega) rfl) (xp (v:=qq_v) 8 rfl (λw=>al rfl) (xp (v:=vi 0) 9 rfl (λw=>al rfl) (xv 10 [9,8,7,6,5,4,3,2,1,0] rfl (ab (v:=qq_v) (i:=0) eM rfl rfl o_qq.flat rfl (by omega) (by omega)) ?_))))
   refine xv (v:=vg [Value.float .f64 ((gI qq 0).1),vi ((gI qq 0).2)]) 11 [10,9,8,7,6,5,4,3,2,1,0] rfl (br (v:=qq_v) (i:=0) bf rfl o_qq.flat (by omega) (by omega) rfl) (xv 12 [11,10,9,8,7,6,5,4,3,2,1,0] rfl (ab (v:=qq_v) (i:=0) eM rfl rfl o_qq.flat rfl (by omega) (by omega)) (aZ 13 rfl (by kernel_rfl) rfl (aJ (i:=0) (gI qq ((qq.length:Int)-1)) bf rfl rfl o_qq (by omega) (by omega) rfl ?_)))
   intro w195 ch196 bx197
   clear o_qq
   refine xv 14 [13,12,11,10,9,8,7,6,5,4,3,2,1,0] rfl (ab (v:=qq_v) (i:=(qq.length:Int)-1) eM rfl rfl bx197.flat rfl (by omega) (by(simp only[List.length_set,List.length_append,List.length_cons,List.length_nil,List.length_replicate,List.length_map,List.length_take,List.length_drop];omega))) (aZ 15 rfl (by kernel_rfl) rfl (aJ (i:=(qq.length:Int)-1) (gI qq 0) bf rfl rfl bx197 (by omega) (by(simp only[List.length_set,List.length_append,List.length_cons,List.length_nil,List.length_replicate,List.length_map,List.length_take,List.length_drop];omega)) rfl ?_))
   intro w198 ch199 bx200
   clear bx197
   refine bR (by kernel_rfl) (cu (vs:=[]) Try.func125 .nil ?_)
   refine⟨vt [],rfl,?_⟩
   refine aa (a8 (a7 rfl (mv (Value.iface 77 (vp b179 0)) (mi ((qq.length:Int)-1) (lo ?_)))))
   refine bo (σ:=(List ((Nat)×(Int)))×Bool×ay) (V:=λ⟨xj,rdn,gq⟩=>vb rdn) (S:=λ⟨xj,rdn,gq⟩ w=>b7 w0 gq w/\Sl gq (is 0) w g_v g.2/\Sl gq (is 0) w ws_v ws/\Bx gq (is 1) w b3 [vi g.1,g_v]/\Bx gq (is 2) w b8 [vn,vn]/\Ow gq (is 4) (is 4) w v28 by_/\Bx gq (is 5) w b33 [v23,v28]/\Ow gq (is 3) (is 3) w v23 far/\Ow gq (is 6) (is 6) w v162 se/\da gq 7 w v168 (af g)/\Bx gq (is 9) w b179 [qq_v]/\Ow gq (is 8) (is 8) w qq_v xj/\(xj=cT qq)) (aE (vals:=[Value.iface 77 (vp b179 0),vi 0,vi ((qq.length:Int)-1)]) Try.func64 pi pj rfl) ?_ ?_
   ·
    refine am Try.func64 rfl nq (a8 (a7 rfl (ma (vb false) (aa (a8 (a7 rfl (mi 0 (ai 0 (aa (a8 (aq ?_)))))))))))
    refine ba (σ:=Int×(List ((Nat)×(Int)))×ay) (λ⟨iD,xd,gq⟩ f w=>b7 w0 gq w/\f 0=Value.iface 77 (vp b179 0)/\f 1=vi 0/\f 2=vi ((qq.length:Int)-1)/\f 7=vi iD/\Sl gq (is 0) w g_v g.2/\Sl gq (is 0) w ws_v ws/\Bx gq (is 1) w b3 [vi g.1,g_v]/\Bx gq (is 2) w b8 [vn,vn]/\Ow gq (is 4) (is 4) w v28 by_/\Bx gq (is 5) w b33 [v23,v28]/\Ow gq (is 3) (is 3) w v23 far/\Ow gq (is 6) (is 6) w v162 se/\da gq 7 w v168 (af g)/\Bx gq (is 9) w b179 [qq_v]/\Ow gq (is 8) (is 8) w qq_v xd/\(jW qq xd iD)) (λ⟨iD,xd,gq⟩=>qq.length-iD.toNat) (0,(List.set (List.set qq (Int.toNat 0) (gI qq ((qq.length:Int)-1))) (Int.toNat ((qq.length:Int)-1)) (gI qq 0)),g188) ?_ ?_
    have C202:=cg [8] (ch193.n.seq ((ch196.l rfl).seq (ch199.l rfl)))
    have C201:=hb190.n.seq (hb192.n.seq C202)
    · exact⟨bH.ca C201,rfl,rfl,rfl,rfl,Rg.ca C201,Rws.ca C201,bx5.ca C201,bx10.ca C201,o30.ca C201,bx38.ca C201,bx159.ca C201,o164.ca C201,o169.ca C201,bx181.ca C202,bx200,by exact jW.start (by omega)⟩
    clear Rg Rws bx5 bx10 o30 bx38 bx159 o164 o169 bx181 bx200 bH
    rintro⟨iD,xd,g205⟩ f203 w204 ⟨bH,zs0_c3,zs1_c3,zs2_c3,zs7_c3,Rg,Rws,bx5,bx10,o30,bx38,bx159,o164,o169,bx181,bx200,hD⟩ back2_c3
    have hD0:=hD.i0
    have hD1:=hD.i1
    have hDl:=hD.len
    have hDn:=hD.nn hqn
    refine aq (a8 (a7 rfl (mz zs7_c3 (lx (jR (m:=2) (n:=iD) rfl rfl (by omega)) (lx (bg (m:=2*iD) (n:=1) rfl rfl (by omega)) (ai ((2*iD)+1) (aa (a8 (a8 (a7 rfl (mi ((2*iD)+1) (mz zs2_c3 (lx (d7 (m:=(2*iD)+1) (n:=(qq.length:Int)-1) rfl rfl) ?_)))))))))))))
    refine mv (vb (decide (((qq.length:Int)-1)<=((2*iD)+1)))) ?_
    by_cases q18_c3:((qq.length:Int)-1)<=((2*iD)+1)
    ·
     refine ak (wn (dt q18_c3)) (ak (wn (dt q18_c3)) (lw (vb true) (aH rfl (dt q18_c3) rfl) (aa (ah rfl rfl (aO rfl (a8 (a7 rfl (mz zs7_c3 (mz zs1_c3 (lx (eS (m:=iD) (n:=0) rfl rfl) ?_))))))))))
     refine ma (vb (decide (0<iD))) (aa (ar (vs:=[vb (decide (0<iD))]) Try.func64 (.tmp rfl .nil) ?_))
     refine⟨(xd,decide (0<iD),g205),rfl,bH,Rg,Rws,bx5,bx10,o30,bx38,bx159,o164,o169,bx181,bx200,?_⟩
     show xd=cT qq
     exact hD.end1 ‹_›
    refine lv (vi ((2*iD)+1)) (wy (df q18_c3)) (al rfl) (lv (vb (decide (((2*iD)+1)<0))) (wy (df q18_c3)) (aX (m:=(2*iD)+1) (n:=0) rfl rfl) (lw (vb (decide (((2*iD)+1)<0))) (aI rfl (df q18_c3) rfl) (aa ?_)))
    by_cases p3_c3:((2*iD)+1)<0
    ·
     exact absurd p3_c3 (by omega)
    refine aj rfl (df p3_c3) (ap (a8 (a7 rfl (mi ((2*iD)+1) (ai ((2*iD)+1) (aa (a8 (a8 (a7 rfl (mi ((2*iD)+1) (lx (bg (m:=(2*iD)+1) (n:=1) rfl rfl (by omega)) (ai (((2*iD)+1)+1) (aa (a8 (a7 rfl ?_)))))))))))))))
    refine mi (((2*iD)+1)+1) (mz zs2_c3 (lx (aX (m:=((2*iD)+1)+1) (n:=(qq.length:Int)-1) rfl rfl) (mv (vb (decide ((((2*iD)+1)+1)<((qq.length:Int)-1)))) ?_)))
    by_cases q28_c3:(((2*iD)+1)+1)<((qq.length:Int)-1)
    ·
     refine lv (Value.iface 77 (vp b179 0)) (wy (dt q28_c3)) (al zs0_c3) (lv (vi (((2*iD)+1)+1)) (wy (dt q28_c3)) (al rfl) (lv (vi ((2*iD)+1)) (wy (dt q28_c3)) (al rfl) (d8 (wy (dt q28_c3)) (bB (v:=vb (decide (cv (gI xd (((2*iD)+1)+1)) (gI xd ((2*iD)+1))))) (bV (T:=77) (v:=vp b179 0) (u:=qq_v) (vals:=[vi (((2*iD)+1)+1),vi ((2*iD)+1)]) rfl (λn=>bq dl (bi bN (by rw[bx181.cell];rfl))) Try.func122 eh eb rfl) (e9 w204 xd qq_v (bx200.flat).ro (((2*iD)+1)+1) ((2*iD)+1) (by omega) (by omega) (by exact hDn)) ?_))))
     intro w206 hb207
     replace hb207:=aA hb207 g205
     refine lw (vb (decide (cv (gI xd (((2*iD)+1)+1)) (gI xd ((2*iD)+1))))) (aH rfl (dt q28_c3) rfl) (aa ?_)
     by_cases p6_c3:(decide (cv (gI xd (((2*iD)+1)+1)) (gI xd ((2*iD)+1))))=true
     ·
      refine ah rfl p6_c3 (a7 rfl (mi (((2*iD)+1)+1) (ai (((2*iD)+1)+1) (aa (a8 (a8 (a7 rfl (mz zs0_c3 (mi (((2*iD)+1)+1) (mz zs7_c3 ?_))))))))))
      replace bx181:=bx181.cn hb207
      replace bx200:=bx200.cn hb207
      refine lo (bB (v:=vb (decide (cv (gI xd (((2*iD)+1)+1)) (gI xd iD)))) (bV (T:=77) (v:=vp b179 0) (u:=qq_v) (vals:=[vi (((2*iD)+1)+1),vi iD]) rfl (λn=>bq dl (bi bN (by rw[bx181.cell];rfl))) Try.func122 eh eb rfl) (e9 w206 xd qq_v (bx200.flat).ro (((2*iD)+1)+1) iD (by omega) (by omega) (by exact hDn)) ?_)
      intro w208 hb209
      replace hb209:=aA hb209 g205
      refine lx (e7 (b:=(decide (cv (gI xd (((2*iD)+1)+1)) (gI xd iD)))) rfl) (aa ?_)
      by_cases p8_c3:(decide (cv (gI xd (((2*iD)+1)+1)) (gI xd iD)))=true
      ·
       refine aj rfl (congrArg Bool.not p8_c3) (ap (a8 (a7 rfl (mz zs0_c3 (mz zs7_c3 (mi (((2*iD)+1)+1) (lo ?_)))))))
       replace bx181:=bx181.cn hb209
       refine bl (bV (T:=77) (v:=vp b179 0) (u:=qq_v) (vals:=[vi iD,vi (((2*iD)+1)+1)]) rfl (λn=>bq dp (bi bN (by rw[bx181.cell];rfl))) Try.func125 es ey rfl) (am Try.func125 rfl nq ?_)
       replace bx200:=bx200.cn hb209
       refine bD g205 [0,1,2,3,4,5,6,7,8,9,10,11,12,14] cE ?_
       intro w211 ch210
       refine xp (v:=qq_v) 0 rfl (λw=>al rfl) (xp (v:=vi iD) 1 rfl (λw=>al rfl) (xp (v:=qq_v) 2 rfl (λw=>al rfl) (xp (v:=vi (((2*iD)+1)+1)) 3 rfl (λw=>al rfl) (xp (v:=qq_v) 4 rfl (λw=>al rfl) (xp (v:=vi (((2*iD)+1)+1)) 5 rfl (λw=>al rfl) ?_)))))
       replace bx200:=bx200.cn ch210
       refine xv 6 [5,4,3,2,1,0,8,9,10,11] rfl (ab (v:=qq_v) (i:=((2*iD)+1)+1) eM rfl rfl bx200.flat rfl (by omega) (by omega)) (xv (v:=vg [Value.float .f64 ((gI xd (((2*iD)+1)+1)).1),vi ((gI xd (((2*iD)+1)+1)).2)]) 7 [6,5,4,3,2,1,0,8,9,10,11] rfl (br (v:=qq_v) (i:=((2*iD)+1)+1) bf rfl bx200.flat (by omega) (by omega) rfl) (xp (v:=qq_v) 8 rfl (λw=>al rfl) (xp (v:=vi iD) 9 rfl (λw=>al rfl) (xv 10 [9,8,7,6,5,4,3,2,1,0] rfl (ab (v:=qq_v) (i:=iD) eM rfl rfl bx200.flat rfl (by omega) (by omega)) ?_))))
       refine xv (v:=vg [Value.float .f64 ((gI xd iD).1),vi ((gI xd iD).2)]) 11 [10,9,8,7,6,5,4,3,2,1,0] rfl (br (v:=qq_v) (i:=iD) bf rfl bx200.flat (by omega) (by omega) rfl) (xv 12 [11,10,9,8,7,6,5,4,3,2,1,0] rfl (ab (v:=qq_v) (i:=iD) eM rfl rfl bx200.flat rfl (by omega) (by omega)) (aZ 13 rfl (by kernel_rfl) rfl (aJ (i:=iD) (gI xd (((2*iD)+1)+1)) bf rfl rfl bx200 (by omega) (by omega) rfl ?_)))
       intro w212 ch213 bx214
       clear bx200
       refine xv 14 [13,12,11,10,9,8,7,6,5,4,3,2,1,0] rfl (ab (v:=qq_v) (i:=((2*iD)+1)+1) eM rfl rfl bx214.flat rfl (by omega) (by(simp only[List.length_set,List.length_append,List.length_cons,List.length_nil,List.length_replicate,List.length_map,List.length_take,List.length_drop];omega))) (aZ 15 rfl (by kernel_rfl) rfl (aJ (i:=((2*iD)+1)+1) (gI xd iD) bf rfl rfl bx214 (by omega) (by(simp only[List.length_set,List.length_append,List.length_cons,List.length_nil,List.length_replicate,List.length_map,List.length_take,List.length_drop];omega)) rfl ?_))
       intro w215 ch216 bx217
       clear bx214
       refine bR (by kernel_rfl) (cu (vs:=[]) Try.func125 .nil ?_)
       refine⟨vt [],rfl,?_⟩
       refine aa (a7 rfl (mi (((2*iD)+1)+1) (ai (((2*iD)+1)+1) (aa (au ?_)))))
       have C219:=cg [8] (ch210.n.seq ((ch213.l rfl).seq (ch216.l rfl)))
       have C218:=hb207.n.seq (hb209.n.seq C219)
       refine back2_c3 (((2*iD)+1)+1,(List.set (List.set xd (Int.toNat iD) (gI xd (((2*iD)+1)+1))) (Int.toNat (((2*iD)+1)+1)) (gI xd iD)),g205) _ _ ⟨bH.ca C218,zs0_c3,zs1_c3,zs2_c3,rfl,Rg.ca C218,Rws.ca C218,bx5.ca C218,bx10.ca C218,o30.ca C218,bx38.ca C218,bx159.ca C218,o164.ca C218,o169.ca C218,bx181.ca C219,bx217,?_⟩ ?_
       · show jW qq (List.set (List.set xd (Int.toNat iD) (gI xd (((2*iD)+1)+1))) (Int.toNat (((2*iD)+1)+1)) (gI xd iD)) (((2*iD)+1)+1)
         exact hD.next ‹_› (by exact pV hD0 ‹_› ‹_›) ‹_›
       · show qq.length-(((2*iD)+1)+1).toNat<qq.length-iD.toNat
         omega
      refine ah rfl (congrArg Bool.not (Bool.eq_false_iff.2 p8_c3)) (aO rfl (a8 (a7 rfl (mz zs7_c3 (mz zs1_c3 (lx (eS (m:=iD) (n:=0) rfl rfl) (ma (vb (decide (0<iD))) (aa (ar (vs:=[vb (decide (0<iD))]) Try.func64 (.tmp rfl .nil) ?_)))))))))
      replace bH:=bH.cn hb207
      replace bH:=bH.cn hb209
      replace Rg:=(Rg.cn hb207).cn hb209
      replace Rws:=(Rws.cn hb207).cn hb209
      replace bx5:=(bx5.cn hb207).cn hb209
      replace bx10:=(bx10.cn hb207).cn hb209
      replace o30:=(o30.cn hb207).cn hb209
      replace bx38:=(bx38.cn hb207).cn hb209
      replace bx159:=(bx159.cn hb207).cn hb209
      replace o164:=(o164.cn hb207).cn hb209
      replace o169:=(o169.cn hb207).cn hb209
      replace bx181:=bx181.cn hb209
      replace bx200:=bx200.cn hb209
      refine⟨(xd,decide (0<iD),g205),rfl,bH,Rg,Rws,bx5,bx10,o30,bx38,bx159,o164,o169,bx181,bx200,?_⟩
      show xd=cT qq
      exact hD.end2 ‹_› (by exact pV hD0 ‹_› ‹_›) ‹_›
     refine aj rfl (Bool.eq_false_iff.2 p6_c3) (ap (a8 (a8 (a7 rfl (mz zs0_c3 (mi ((2*iD)+1) (mz zs7_c3 ?_)))))))
     replace bx181:=bx181.cn hb207
     replace bx200:=bx200.cn hb207
     refine lo (bB (v:=vb (decide (cv (gI xd ((2*iD)+1)) (gI xd iD)))) (bV (T:=77) (v:=vp b179 0) (u:=qq_v) (vals:=[vi ((2*iD)+1),vi iD]) rfl (λn=>bq dl (bi bN (by rw[bx181.cell];rfl))) Try.func122 eh eb rfl) (e9 w206 xd qq_v (bx200.flat).ro ((2*iD)+1) iD (by omega) (by omega) (by exact hDn)) ?_)
     intro w220 hb221
     replace hb221:=aA hb221 g205
     refine lx (e7 (b:=(decide (cv (gI xd ((2*iD)+1)) (gI xd iD)))) rfl) (aa ?_)
     by_cases p8_c3:(decide (cv (gI xd ((2*iD)+1)) (gI xd iD)))=true
     ·
      refine aj rfl (congrArg Bool.not p8_c3) (ap (a8 (a7 rfl (mz zs0_c3 (mz zs7_c3 (mi ((2*iD)+1) (lo ?_)))))))
      replace bx181:=bx181.cn hb221
      refine bl (bV (T:=77) (v:=vp b179 0) (u:=qq_v) (vals:=[vi iD,vi ((2*iD)+1)]) rfl (λn=>bq dp (bi bN (by rw[bx181.cell];rfl))) Try.func125 es ey rfl) (am Try.func125 rfl nq ?_)
      replace bx200:=bx200.cn hb221
      refine bD g205 [0,1,2,3,4,5,6,7,8,9,10,11,12,14] cE ?_
      intro w223 ch222
      refine xp (v:=qq_v) 0 rfl (λw=>al rfl) (xp (v:=vi iD) 1 rfl (λw=>al rfl) (xp (v:=qq_v) 2 rfl (λw=>al rfl) (xp (v:=vi ((2*iD)+1)) 3 rfl (λw=>al rfl) (xp (v:=qq_v) 4 rfl (λw=>al rfl) (xp (v:=vi ((2*iD)+1)) 5 rfl (λw=>al rfl) ?_)))))
      replace bx200:=bx200.cn ch222
      refine xv 6 [5,4,3,2,1,0,8,9,10,11] rfl (ab (v:=qq_v) (i:=(2*iD)+1) eM rfl rfl bx200.flat rfl (by omega) (by omega)) (xv (v:=vg [Value.float .f64 ((gI xd ((2*iD)+1)).1),vi ((gI xd ((2*iD)+1)).2)]) 7 [6,5,4,3,2,1,0,8,9,10,11] rfl (br (v:=qq_v) (i:=(2*iD)+1) bf rfl bx200.flat (by omega) (by omega) rfl) (xp (v:=qq_v) 8 rfl (λw=>al rfl) (xp (v:=vi iD) 9 rfl (λw=>al rfl) (xv 10 [9,8,7,6,5,4,3,2,1,0] rfl (ab (v:=qq_v) (i:=iD) eM rfl rfl bx200.flat rfl (by omega) (by omega)) (xv (v:=vg [Value.float .f64 ((gI xd iD).1),vi ((gI xd iD).2)]) 11 [10,9,8,7,6,5,4,3,2,1,0] rfl (br (v:=qq_v) (i:=iD) bf rfl bx200.flat (by omega) (by omega) rfl) ?_)))))
      refine xv 12 [11,10,9,8,7,6,5,4,3,2,1,0] rfl (ab (v:=qq_v) (i:=iD) eM rfl rfl bx200.flat rfl (by omega) (by omega)) (aZ 13 rfl (by kernel_rfl) rfl (aJ (i:=iD) (gI xd ((2*iD)+1)) bf rfl rfl bx200 (by omega) (by omega) rfl ?_))
      intro w224 ch225 bx226
      clear bx200
      refine xv 14 [13,12,11,10,9,8,7,6,5,4,3,2,1,0] rfl (ab (v:=qq_v) (i:=(2*iD)+1) eM rfl rfl bx226.flat rfl (by omega) (by(simp only[List.length_set,List.length_append,List.length_cons,List.length_nil,List.length_replicate,List.length_map,List.length_take,List.length_drop];omega))) (aZ 15 rfl (by kernel_rfl) rfl (aJ (i:=(2*iD)+1) (gI xd iD) bf rfl rfl bx226 (by omega) (by(simp only[List.length_set,List.length_append,List.length_cons,List.length_nil,List.length_replicate,List.length_map,List.length_take,List.length_drop];omega)) rfl ?_))
      intro w227 ch228 bx229
      clear bx226
      refine bR (by kernel_rfl) (cu (vs:=[]) Try.func125 .nil ?_)
      refine⟨vt [],rfl,?_⟩
      refine aa (a7 rfl (mi ((2*iD)+1) (ai ((2*iD)+1) (aa (au ?_)))))
      have C231:=cg [8] (ch222.n.seq ((ch225.l rfl).seq (ch228.l rfl)))
      have C230:=hb207.n.seq (hb221.n.seq C231)
      refine back2_c3 ((2*iD)+1,(List.set (List.set xd (Int.toNat iD) (gI xd ((2*iD)+1))) (Int.toNat ((2*iD)+1)) (gI xd iD)),g205) _ _ ⟨bH.ca C230,zs0_c3,zs1_c3,zs2_c3,rfl,Rg.ca C230,Rws.ca C230,bx5.ca C230,bx10.ca C230,o30.ca C230,bx38.ca C230,bx159.ca C230,o164.ca C230,o169.ca C230,bx181.ca C231,bx229,?_⟩ ?_
      · show jW qq (List.set (List.set xd (Int.toNat iD) (gI xd ((2*iD)+1))) (Int.toNat ((2*iD)+1)) (gI xd iD)) ((2*iD)+1)
        exact hD.next ‹_› (by exact kD hD0 (.inr ‹_›)) ‹_›
      · show qq.length-((2*iD)+1).toNat<qq.length-iD.toNat
        omega
     refine ah rfl (congrArg Bool.not (Bool.eq_false_iff.2 p8_c3)) (aO rfl (a8 (a7 rfl (mz zs7_c3 (mz zs1_c3 (lx (eS (m:=iD) (n:=0) rfl rfl) (ma (vb (decide (0<iD))) (aa (ar (vs:=[vb (decide (0<iD))]) Try.func64 (.tmp rfl .nil) ?_)))))))))
     replace bH:=bH.cn hb207
     replace bH:=bH.cn hb221
     replace Rg:=(Rg.cn hb207).cn hb221
     replace Rws:=(Rws.cn hb207).cn hb221
     replace bx5:=(bx5.cn hb207).cn hb221
     replace bx10:=(bx10.cn hb207).cn hb221
     replace o30:=(o30.cn hb207).cn hb221
     replace bx38:=(bx38.cn hb207).cn hb221
     replace bx159:=(bx159.cn hb207).cn hb221
     replace o164:=(o164.cn hb207).cn hb221
     replace o169:=(o169.cn hb207).cn hb221
     replace bx181:=bx181.cn hb221
     replace bx200:=bx200.cn hb221
     refine⟨(xd,decide (0<iD),g205),rfl,bH,Rg,Rws,bx5,bx10,o30,bx38,bx159,o164,o169,bx181,bx200,?_⟩
     show xd=cT qq
     exact hD.end2 ‹_› (by exact kD hD0 (.inr ‹_›)) ‹_›
    refine ak (wn (df q28_c3)) (ak (wn (df q28_c3)) (ak (wn (df q28_c3)) (ak (wn (df q28_c3)) (lw (vb false) (aI rfl (df q28_c3) rfl) (aa (aj rfl rfl (ap (a8 (a8 (a7 rfl (mz zs0_c3 ?_)))))))))))
    refine mi ((2*iD)+1) (mz zs7_c3 (lo (bB (v:=vb (decide (cv (gI xd ((2*iD)+1)) (gI xd iD)))) (bV (T:=77) (v:=vp b179 0) (u:=qq_v) (vals:=[vi ((2*iD)+1),vi iD]) rfl (λn=>bq dl (bi bN (by rw[bx181.cell];rfl))) Try.func122 eh eb rfl) (e9 w204 xd qq_v (bx200.flat).ro ((2*iD)+1) iD (by omega) (by omega) (by exact hDn)) ?_)))
    intro w232 hb233
    replace hb233:=aA hb233 g205
    refine lx (e7 (b:=(decide (cv (gI xd ((2*iD)+1)) (gI xd iD)))) rfl) (aa ?_)
    by_cases p8_c3:(decide (cv (gI xd ((2*iD)+1)) (gI xd iD)))=true
    ·
     refine aj rfl (congrArg Bool.not p8_c3) (ap (a8 (a7 rfl (mz zs0_c3 (mz zs7_c3 (mi ((2*iD)+1) (lo ?_)))))))
     replace bx181:=bx181.cn hb233
     refine bl (bV (T:=77) (v:=vp b179 0) (u:=qq_v) (vals:=[vi iD,vi ((2*iD)+1)]) rfl (λn=>bq dp (bi bN (by rw[bx181.cell];rfl))) Try.func125 es ey rfl) (am Try.func125 rfl nq ?_)
     replace bx200:=bx200.cn hb233
     refine bD g205 [0,1,2,3,4,5,6,7,8,9,10,11,12,14] cE ?_
     intro w235 ch234
     refine xp (v:=qq_v) 0 rfl (λw=>al rfl) (xp (v:=vi iD) 1 rfl (λw=>al rfl) (xp (v:=qq_v) 2 rfl (λw=>al rfl) (xp (v:=vi ((2*iD)+1)) 3 rfl (λw=>al rfl) (xp (v:=qq_v) 4 rfl (λw=>al rfl) (xp (v:=vi ((2*iD)+1)) 5 rfl (λw=>al rfl) ?_)))))
     replace bx200:=bx200.cn ch234
     refine xv 6 [5,4,3,2,1,0,8,9,10,11] rfl (ab (v:=qq_v) (i:=(2*iD)+1) eM rfl rfl bx200.flat rfl (by omega) (by omega)) (xv (v:=vg [Value.float .f64 ((gI xd ((2*iD)+1)).1),vi ((gI xd ((2*iD)+1)).2)]) 7 [6,5,4,3,2,1,0,8,9,10,11] rfl (br (v:=qq_v) (i:=(2*iD)+1) bf rfl bx200.flat (by omega) (by omega) rfl) (xp (v:=qq_v) 8 rfl (λw=>al rfl) (xp (v:=vi iD) 9 rfl (λw=>al rfl) (xv 10 [9,8,7,6,5,4,3,2,1,0] rfl (ab (v:=qq_v) (i:=iD) eM rfl rfl bx200.flat rfl (by omega) (by omega)) (xv (v:=vg [Value.float .f64 ((gI xd iD).1),vi ((gI xd iD).2)]) 11 [10,9,8,7,6,5,4,3,2,1,0] rfl (br (v:=qq_v) (i:=iD) bf rfl bx200.flat (by omega) (by omega) rfl) ?_)))))
     refine xv 12 [11,10,9,8,7,6,5,4,3,2,1,0] rfl (ab (v:=qq_v) (i:=iD) eM rfl rfl bx200.flat rfl (by omega) (by omega)) (aZ 13 rfl (by kernel_rfl) rfl (aJ (i:=iD) (gI xd ((2*iD)+1)) bf rfl rfl bx200 (by omega) (by omega) rfl ?_))
     intro w236 ch237 bx238
     clear bx200
     refine xv 14 [13,12,11,10,9,8,7,6,5,4,3,2,1,0] rfl (ab (v:=qq_v) (i:=(2*iD)+1) eM rfl rfl bx238.flat rfl (by omega) (by(simp only[List.length_set,List.length_append,List.length_cons,List.length_nil,List.length_replicate,List.length_map,List.length_take,List.length_drop];omega))) (aZ 15 rfl (by kernel_rfl) rfl (aJ (i:=(2*iD)+1) (gI xd iD) bf rfl rfl bx238 (by omega) (by(simp only[List.length_set,List.length_append,List.length_cons,List.length_nil,List.length_replicate,List.length_map,List.length_take,List.length_drop];omega)) rfl ?_))
     intro w239 ch240 bx241
     clear bx238
     refine bR (by kernel_rfl) (cu (vs:=[]) Try.func125 .nil ?_)
     refine⟨vt [],rfl,?_⟩
     refine aa (a7 rfl (mi ((2*iD)+1) (ai ((2*iD)+1) (aa (au ?_)))))
     have C243:=cg [8] (ch234.n.seq ((ch237.l rfl).seq (ch240.l rfl)))
     have C242:=hb233.n.seq C243
     refine back2_c3 ((2*iD)+1,(List.set (List.set xd (Int.toNat iD) (gI xd ((2*iD)+1))) (Int.toNat ((2*iD)+1)) (gI xd iD)),g205) _ _ ⟨bH.ca C242,zs0_c3,zs1_c3,zs2_c3,rfl,Rg.ca C242,Rws.ca C242,bx5.ca C242,bx10.ca C242,o30.ca C242,bx38.ca C242,bx159.ca C242,o164.ca C242,o169.ca C242,bx181.ca C243,bx241,?_⟩ ?_
     · show jW qq (List.set (List.set xd (Int.toNat iD) (gI xd ((2*iD)+1))) (Int.toNat ((2*iD)+1)) (gI xd iD)) ((2*iD)+1)
       exact hD.next ‹_› (by exact kD hD0 (.inl ‹_›)) ‹_›
     · show qq.length-((2*iD)+1).toNat<qq.length-iD.toNat
       omega
    refine ah rfl (congrArg Bool.not (Bool.eq_false_iff.2 p8_c3)) (aO rfl (a8 (a7 rfl (mz zs7_c3 (mz zs1_c3 (lx (eS (m:=iD) (n:=0) rfl rfl) (ma (vb (decide (0<iD))) (aa (ar (vs:=[vb (decide (0<iD))]) Try.func64 (.tmp rfl .nil) ?_)))))))))
    replace bH:=bH.cn hb233
    replace Rg:=Rg.cn hb233
    replace Rws:=Rws.cn hb233
    replace bx5:=bx5.cn hb233
    replace bx10:=bx10.cn hb233
    replace o30:=o30.cn hb233
    replace bx38:=bx38.cn hb233
    replace bx159:=bx159.cn hb233
    replace o164:=o164.cn hb233
    replace o169:=o169.cn hb233
    replace bx181:=bx181.cn hb233
    replace bx200:=bx200.cn hb233
    refine⟨(xd,decide (0<iD),g205),rfl,bH,Rg,Rws,bx5,bx10,o30,bx38,bx159,o164,o169,bx181,bx200,?_⟩
    show xd=cT qq
    exact hD.end2 ‹_› (by exact kD hD0 (.inl ‹_›)) ‹_›
   clear Rg Rws bx5 bx10 o30 bx38 bx159 o164 o169 bx181 bx200 bH
   rintro⟨xj,rdn,g245⟩ w244 ⟨bH,Rg,Rws,bx5,bx10,o30,bx38,bx159,o164,o169,bx181,bx200,hxj⟩
   have hxl:xj.length=qq.length:=by rw[hxj];exact(gG h1.h.hp (by omega)).2.1
   refine aa (a8 (a7 rfl (mv (Value.iface 77 (vp b179 0)) (lo (bl (bV (T:=77) (v:=vp b179 0) (u:=vp b179 0) (vals:=[]) rfl (λn=>fo lJ) Try.func123 nk n4 rfl) (am Try.func123 rfl nq (a8 (a7 rfl (ma (Value.nilIface) (aa (a8 (a7 rfl (mv (vp b179 0) (lw (vp b179 0) (b6 rfl) ?_))))))))))))))
   refine lx (ae bN rfl bx181 rfl) ?_
   have len246:=(bx200.flat).small
   refine lx (bA eM rfl bx200.flat) (lx (dZ (m:=(xj.length:Int)) (n:=1) rfl rfl (by omega)) (ai ((xj.length:Int)-1) (aa (a8 (a7 rfl (mv (vp b179 0) (lw (vp b179 0) (b6 rfl) (lx (ae bN rfl bx181 rfl) (mi ((xj.length:Int)-1) (lx (ab (v:=qq_v) (i:=(xj.length:Int)-1) eM rfl rfl bx200.flat rfl (by omega) (by omega)) (lw (vg [Value.float .f64 ((gI xj ((xj.length:Int)-1)).1),vi ((gI xj ((xj.length:Int)-1)).2)]) (br (v:=qq_v) (i:=(xj.length:Int)-1) bf rfl bx200.flat (by omega) (by omega) rfl) ?_)))))))))))
   refine lo (bn g245 (is 13) (13,0) rfl bf ?_)
   intro g250 w247 b249 ch248 bx251
   replace bx251:Bx g250 (is 13) w247 b249 [Value.float .f64 0,vi 0]:=bx251
   refine lo (aG (cs':=[Value.float .f64 ((gI xj ((xj.length:Int)-1)).1),vi ((gI xj ((xj.length:Int)-1)).2)]) bf rfl rfl bx251 rfl nq (AllOne.all (.cons rfl (.cons rfl .nil))) rfl ?_)
   intro w252 ch253 bx254
   clear bx251
   refine aa (a8 (a7 rfl (mv (vp b179 0) (mv (vp b179 0) (lw (vp b179 0) (b6 rfl) ?_)))))
   replace bx181:=(bx181.cn ch248).ce ch253
   refine lx (ae bN rfl bx181 rfl) (mi ((xj.length:Int)-1) ?_)
   replace bx200:=(bx200.cn ch248).ce ch253
   refine lw ((iq qq_v 2 (Int.toNat 0) (Int.toNat ((xj.length:Int)-1)))) (o3 (v:=qq_v) (l:=0) (h:=(xj.length:Int)-1) eM rfl rfl bx200.flat (.inr ⟨rfl,rfl⟩) (.inl (congrArg some rfl)) (by omega) (by omega) (by omega)) ?_
   have r256:=qe bx200 (show Int.toNat ((xj.length:Int)-1)<=List.length _ by omega)
   refine lw (vp b179 0) (b6 rfl) (lo (dA (cs':=[(iq qq_v 2 (Int.toNat 0) (Int.toNat ((xj.length:Int)-1)))]) bN rfl rfl bx181 (dj r256.flat) nq (aP r256.flat) rfl ?_))
   intro w257 ch258 bx259
   clear bx181
   refine aa (a8 (a7 rfl ?_))
   replace bx254:=bx254.ce ch258
   refine lx (aN (ds:=[Value.float .f64 ((gI xj ((xj.length:Int)-1)).1),vi ((gI xj ((xj.length:Int)-1)).2)]) bf rfl bx254 rfl rfl) (lw (Value.iface 79 (vg [Value.float .f64 ((gI xj ((xj.length:Int)-1)).1),vi ((gI xj ((xj.length:Int)-1)).2)])) (iT l6 rfl rfl) (ma (Value.iface 79 (vg [Value.float .f64 ((gI xj ((xj.length:Int)-1)).1),vi ((gI xj ((xj.length:Int)-1)).2)])) (aa (ar (vs:=[Value.iface 79 (vg [Value.float .f64 ((gI xj ((xj.length:Int)-1)).1),vi ((gI xj ((xj.length:Int)-1)).2)])]) Try.func123 (.tmp rfl .nil) ?_))))
   refine⟨Value.iface 79 (vg [Value.float .f64 ((gI xj ((xj.length:Int)-1)).1),vi ((gI xj ((xj.length:Int)-1)).2)]),rfl,?_⟩
   refine ma (Value.iface 79 (vg [Value.float .f64 ((gI xj ((xj.length:Int)-1)).1),vi ((gI xj ((xj.length:Int)-1)).2)])) (aa (ar (vs:=[Value.iface 79 (vg [Value.float .f64 ((gI xj ((xj.length:Int)-1)).1),vi ((gI xj ((xj.length:Int)-1)).2)])]) Try.func41 (.tmp rfl .nil) ?_))
   refine⟨Value.iface 79 (vg [Value.float .f64 ((gI xj ((xj.length:Int)-1)).1),vi ((gI xj ((xj.length:Int)-1)).2)]),rfl,?_⟩
   refine lw (vg [Value.float .f64 ((gI xj ((xj.length:Int)-1)).1),vi ((gI xj ((xj.length:Int)-1)).2)]) (jP l6 rfl rfl) (lo (bn g250 (is 11) (11,0) rfl bf ?_))
   intro g263 w260 b262 ch261 bx264
   replace bx264:Bx g263 (is 11) w260 b262 [Value.float .f64 0,vi 0]:=bx264
   refine lo (aG (cs':=[Value.float .f64 ((gI xj ((xj.length:Int)-1)).1),vi ((gI xj ((xj.length:Int)-1)).2)]) bf rfl rfl bx264 rfl nq (AllOne.all (.cons rfl (.cons rfl .nil))) rfl ?_)
   intro w265 ch266 bx267
   clear bx264
   refine aa (a8 (a8 ?_))
   clear bx200 bx254
   obtain⟨hpd,hxl⟩:=h1.popx (by omega) hxj
   obtain⟨hu0,hu1⟩:=hpd.p2
   have hd0:=Nat.le_of_lt hpd.p1
   refine a7 rfl (mz zs11 (lx (ad l6 rfl rfl rfl rfl) (lx (ae ax rfl bx267 rfl) ?_)))
   have C268:=cg [9,11,13] (ch248.n.seq ((ch253.l rfl).seq ((ch258.l rfl).seq (ch261.n.seq (ch266.l rfl)))))
   replace o164:=o164.ca C268
   refine lx (ab (v:=v162) (i:=(gI xj ((xj.length:Int)-1)).2) qf rfl rfl o164.flat rfl (by omega) (by omega)) (lx (aw (v:=v162) (i:=(gI xj ((xj.length:Int)-1)).2) gV rfl o164.flat (by omega) (by omega) (by decide) rfl) (aa ?_))
   by_cases p18:(gI se ((gI xj ((xj.length:Int)-1)).2))=true
   ·
    refine ah rfl p18 (aO rfl ?_)
    have C269:=cg [9,11] ((ch258.l rfl).seq (ch261.n.seq (ch266.l rfl)))
    refine back16 ((iq qq_v 2 (Int.toNat 0) (Int.toNat ((xj.length:Int)-1))),(List.take (Int.toNat ((xj.length:Int)-1)) xj),far,by_,se,g263) _ _ ⟨bH.ca C268,zs1,zs3,zs6,zs9,zs11,zs12,zs13,Rg.ca C268,Rws.ca C268,bx5.ca C268,bx10.ca C268,o30.ca C268,bx38.ca C268,bx159.ca C268,o164,o169.ca C268,(bx259.cn ch261).ce ch266,r256.ca C269,?_⟩ ?_
    · show WI g ws s (List.take (Int.toNat ((xj.length:Int)-1)) xj) far by_ se
      exact(h1.skip hpd ‹_›).1
    · show gP g (List.take (Int.toNat ((xj.length:Int)-1)) xj) se<gP g qq se
      exact(h1.skip hpd ‹_›).2
   refine aj rfl (Bool.eq_false_iff.2 p18) (ap (a8 (a7 rfl (mz zs11 (lx (ad l6 rfl rfl rfl rfl) (lx (ae ax rfl bx267 rfl) (lx (ab (v:=v162) (i:=(gI xj ((xj.length:Int)-1)).2) qf rfl rfl o164.flat rfl (by omega) (by omega)) (lo (aJ (i:=(gI xj ((xj.length:Int)-1)).2) true gV rfl rfl o164 (by omega) (by omega) rfl ?_)))))))))
   intro w270 ch271 bx272
   clear o164
   refine aa (a8 (a7 rfl (mz zs12 (lx (ad l6 rfl rfl rfl rfl) ?_))))
   replace bx267:=bx267.ce ch271
   refine lx (ae ax rfl bx267 rfl) ?_
   have C273:=cg [6,9,11,13] (ch248.n.seq ((ch253.l rfl).seq ((ch258.l rfl).seq (ch261.n.seq ((ch266.l rfl).seq (ch271.l rfl))))))
   replace o169:=o169.ca C273
   refine lx (ab (v:=v168) (i:=(gI xj ((xj.length:Int)-1)).2) jT rfl rfl o169.sl rfl (by omega) (by omega)) ?_
   obtain⟨v274,cel275,r276⟩:=eC (r:=(gI xj ((xj.length:Int)-1)).2) o169 (by omega) (by omega)
   refine lx (dg bL rfl cel275) ?_
   have len277:=(r276.row_sl).small
   refine lx (bA bQ rfl r276.row_sl) (mi 0 (aa (aq ?_)))
   refine ba (σ:=Nat×Value×(List ((Nat)×(Int)))×(List Nat)×(List Int)×ay) (λ⟨k,q2_v,q2,far2,by2,gq⟩ f w=>b7 w0 gq w/\f 1=ws_v/\f 3=vp b3 0/\f 6=vp b8 0/\f 9=vp b33 0/\f 11=v162/\f 12=v168/\f 13=vp b179 0/\f 14=vp b262 0/\f 93=v274/\f 94=vi (List.length (gI (af g) ((gI xj ((xj.length:Int)-1)).2)):Int)/\f 95=vi ↑k/\Sl gq (is 0) w g_v g.2/\Sl gq (is 0) w ws_v ws/\Bx gq (is 1) w b3 [vi g.1,g_v]/\Bx gq (is 2) w b8 [vn,vn]/\Ow gq (is 4) (is 4) w v28 by2/\Bx gq (is 5) w b33 [v23,v28]/\Ow gq (is 3) (is 3) w v23 far2/\da gq 7 w v168 (af g)/\Bx gq (is 9) w b179 [q2_v]/\Bx gq (is 11) w b262 [Value.float .f64 ((gI xj ((xj.length:Int)-1)).1),vi ((gI xj ((xj.length:Int)-1)).2)]/\Ow gq (is 6) (is 6) w v162 (List.set se (Int.toNat ((gI xj ((xj.length:Int)-1)).2)) true)/\Ow gq (row 7 (Int.toNat ((gI xj ((xj.length:Int)-1)).2)+1)) (row 7 (Int.toNat ((gI xj ((xj.length:Int)-1)).2)+1)) w v274 (gI (af g) ((gI xj ((xj.length:Int)-1)).2))/\Ow gq (is 8) (is 8) w q2_v q2/\(k:Int)<=((List.length (gI (af g) ((gI xj ((xj.length:Int)-1)).2)):Int):Int)/\(RI g ws s (gP g qq se) (gI xj ((xj.length:Int)-1)).2 (gI xj ((xj.length:Int)-1)).1 q2 far2 by2 (List.set se (Int.toNat ((gI xj ((xj.length:Int)-1)).2)) true) k)) (λ⟨k,q2_v,q2,far2,by2,gq⟩=>Int.toNat (((List.length (gI (af g) ((gI xj ((xj.length:Int)-1)).2)):Int):Int)-(k:Int))) (0,(iq qq_v 2 (Int.toNat 0) (Int.toNat ((xj.length:Int)-1))),(List.take (Int.toNat ((xj.length:Int)-1)) xj),far,by_,g263) ?_ ?_
   have C278:=cg [6,11] (ch261.n.seq ((ch266.l rfl).seq (ch271.l rfl)))
   have C279:=cg [6,9,11] ((ch258.l rfl).seq (ch261.n.seq ((ch266.l rfl).seq (ch271.l rfl))))
   · exact⟨bH.ca C273,zs1,zs3,zs6,zs9,zs11,zs12,zs13,rfl,rfl,rfl,rfl,Rg.ca C273,Rws.ca C273,bx5.ca C273,bx10.ca C273,o30.ca C273,bx38.ca C273,bx159.ca C273,o169,bx259.ca C278,bx267,bx272,r276,r256.ca C279,by omega,by exact h1.settle hpd ‹_›⟩
   clear Rg Rws bx5 bx10 o30 bx38 bx159 o169 r256 bx259 bx267 bx272 cel275 r276 bH
   rintro⟨k,q2_v,q2,far2,by2,g282⟩ f280 w281 ⟨bH,zs1,zs3,zs6,zs9,zs11,zs12,zs13,zs14,zs93,zs94,zs95,Rg,Rws,bx5,bx10,o30,bx38,bx159,o169,bx259,bx267,bx272,r276,o_q2,hle_k,h2⟩ back21
   have h2f:=h2.h.lf
   have h2b:=h2.h.lb
   have hqn2:=h2.h.qn
   have hql2:=h2.ql
   have hdg:=kI hm hu0 hu1
   refine a8 (a7 rfl (lx (aX (m:=↑k) (n:=(List.length (gI (af g) ((gI xj ((xj.length:Int)-1)).2)):Int)) zs95 zs94) (aa (a8 ?_))))
   by_cases p21:(k:Int)<(List.length (gI (af g) ((gI xj ((xj.length:Int)-1)).2)):Int)
   ·
    refine ah rfl (dt p21) ?_
    have hrh:=ju hm hu0 hu1 (k:=k) ‹_›
    obtain⟨hrh0,hrh1,_⟩:=hrh
    have hto:=fN hm hrh0 hrh1
    unfold cA at hto
    obtain⟨hto0,hto1⟩:=hto
    have hgw:=pX hwg hwl hrh0 hrh1
    have hnx:=(j5 hd0 hgw).2
    have hfr:=h2.fnn hto0 hto1
    refine ap (a8 (aq (a8 (a7 rfl (lx (ab (v:=v274) (i:=↑k) bQ rfl zs93 r276.row_sl zs95 (by omega) (by omega)) (lx (aw (v:=v274) (i:=↑k) ax rfl r276.row_sl (by omega) (by omega) (by decide) rfl) (ai (gI (gI (af g) ((gI xj ((xj.length:Int)-1)).2)) (k:Int)) (aa (a8 (a7 rfl (lx (ad d5 rfl rfl zs3 rfl) (lx (ae bC rfl bx5 rfl) ?_))))))))))))
    refine mi (gI (gI (af g) ((gI xj ((xj.length:Int)-1)).2)) (k:Int)) (lx (fz (m:=(gI (gI (af g) ((gI xj ((xj.length:Int)-1)).2)) (k:Int))) (n:=2) rfl rfl (by omega) (by omega) (by omega)) (mi (gI (gI (af g) ((gI xj ((xj.length:Int)-1)).2)) (k:Int)) (lx (gT (m:=(gI (gI (af g) ((gI xj ((xj.length:Int)-1)).2)) (k:Int))) (n:=2) rfl rfl (by omega) (by omega)) (lx (dZ (m:=1) (n:=(gI (gI (af g) ((gI xj ((xj.length:Int)-1)).2)) (k:Int))%2) rfl rfl (by omega)) (lx (ab (v:=g_v) (i:=(gI (gI (af g) ((gI xj ((xj.length:Int)-1)).2)) (k:Int))/2) eN rfl rfl Rg rfl (by omega) (by omega)) (lx (aS (i:=1-((gI (gI (af g) ((gI xj ((xj.length:Int)-1)).2)) (k:Int))%2)) i4 rfl rfl rfl (by omega) (by omega) (Nat.mul_one _)) ?_))))))
    refine lx (aW (v:=g_v) (i:=(gI (gI (af g) ((gI xj ((xj.length:Int)-1)).2)) (k:Int))/2) ax rfl Rg (by omega) (by omega) (show Int.toNat (1-((gI (gI (af g) ((gI xj ((xj.length:Int)-1)).2)) (k:Int))%2))<2 by omega) (dQ _ (by omega) (by omega))) (ai (pI (gI g.2 ((gI (gI (af g) ((gI xj ((xj.length:Int)-1)).2)) (k:Int))/2)) (1-((gI (gI (af g) ((gI xj ((xj.length:Int)-1)).2)) (k:Int))%2))) (aa (a8 (cd g282 rfl cE (by kernel_rfl) ?_))))
    intro w284 ch283
    refine qx (λw' hw'=>ad l6 rfl rfl zs14 rfl) ?_
    replace bx267:=bx267.cn ch283
    refine qx (λw' hw'=>ae aF rfl (bx267.bel hw') rfl) (qz zs1 (qm (vi (gI (gI (af g) ((gI xj ((xj.length:Int)-1)).2)) (k:Int))) (qx (λw' hw'=>fz (m:=(gI (gI (af g) ((gI xj ((xj.length:Int)-1)).2)) (k:Int))) (n:=2) rfl rfl (by omega) (by omega) (by omega)) ?_)))
    replace Rws:=Rws.cn ch283
    refine qx (λw' hw'=>ab (v:=ws_v) (i:=(gI (gI (af g) ((gI xj ((xj.length:Int)-1)).2)) (k:Int))/2) cR rfl rfl (Rws.bel hw') rfl (by omega) (by omega)) (qx (λw' hw'=>aw (v:=ws_v) (i:=(gI (gI (af g) ((gI xj ((xj.length:Int)-1)).2)) (k:Int))/2) aF rfl (Rws.bel hw') (by omega) (by omega) (by decide) rfl) ?_)
    refine eX (v:=Value.float .f64 (aU ((gI xj ((xj.length:Int)-1)).1) (zf (gI ws ((gI (gI (af g) ((gI xj ((xj.length:Int)-1)).2)) (k:Int))/2))))) rfl (λw' hw'=>aE (vals:=[Value.float .f64 ((gI xj ((xj.length:Int)-1)).1),Value.float .f64 (gI ws ((gI (gI (af g) ((gI xj ((xj.length:Int)-1)).2)) (k:Int))/2))]) Try.func27 oA nM rfl) (λw' hw'=>(kH w' ((gI xj ((xj.length:Int)-1)).1) (gI ws ((gI (gI (af g) ((gI xj ((xj.length:Int)-1)).2)) (k:Int))/2)) (by exact hd0) (by exact hgw)).mono λe w2 h2=>⟨h2.1,hw'.trans (h2.2.mono hw'.size)⟩) (qv (Value.float .f64 (aU ((gI xj ((xj.length:Int)-1)).1) (zf (gI ws ((gI (gI (af g) ((gI xj ((xj.length:Int)-1)).2)) (k:Int))/2))))) (λw' hw'=>aR rfl) (d4 ?_))
    intro w285 hc286
    replace hc286:=aA hc286 g282
    refine a8 (a7 rfl (mz zs1 (mi (gI (gI (af g) ((gI xj ((xj.length:Int)-1)).2)) (k:Int)) (lx (fz (m:=(gI (gI (af g) ((gI xj ((xj.length:Int)-1)).2)) (k:Int))) (n:=2) rfl rfl (by omega) (by omega) (by omega)) ?_))))
    replace Rws:=Rws.cn hc286
    refine lx (ab (v:=ws_v) (i:=(gI (gI (af g) ((gI xj ((xj.length:Int)-1)).2)) (k:Int))/2) cR rfl rfl Rws rfl (by omega) (by omega)) (lx (aw (v:=ws_v) (i:=(gI (gI (af g) ((gI xj ((xj.length:Int)-1)).2)) (k:Int))/2) aF rfl Rws (by omega) (by omega) (by decide) rfl) (lo (bB (v:=vb (ck (gI ws ((gI (gI (af g) ((gI xj ((xj.length:Int)-1)).2)) (k:Int))/2)) 9218868437227405311)) (aE (vals:=[Value.float .f64 (gI ws ((gI (gI (af g) ((gI xj ((xj.length:Int)-1)).2)) (k:Int))/2)),vi 1]) Try.func25 gc gm rfl) (dK w285 (gI ws ((gI (gI (af g) ((gI xj ((xj.length:Int)-1)).2)) (k:Int))/2)) 1 (by rfl)) ?_)))
    intro w287 hb288
    replace hb288:=aA hb288 g282
    refine lx (e7 (b:=(ck (gI ws ((gI (gI (af g) ((gI xj ((xj.length:Int)-1)).2)) (k:Int))/2)) 9218868437227405311)) rfl) (mv (vb (!(ck (gI ws ((gI (gI (af g) ((gI xj ((xj.length:Int)-1)).2)) (k:Int))/2)) 9218868437227405311))) ?_)
    by_cases q124:(ck (gI ws ((gI (gI (af g) ((gI xj ((xj.length:Int)-1)).2)) (k:Int))/2)) 9218868437227405311)=true
    ·
     refine ak (wn (congrArg Bool.not q124)) (ak (wn (congrArg Bool.not q124)) (ak (wn (congrArg Bool.not q124)) (ak (wn (congrArg Bool.not q124)) (ak (wn (congrArg Bool.not q124)) (ak (wn (congrArg Bool.not q124)) (ak (wn (congrArg Bool.not q124)) (lw (vb false) (aI rfl (congrArg Bool.not q124) rfl) (aa (aj rfl rfl ?_)))))))))
     refine ap (au (a7 rfl (lx (bg (m:=↑k) (n:=1) zs95 rfl (by omega)) (mi ((k:Int)+1) (aa ?_)))))
     have C289:=cg [] (ch283.n.seq (hc286.n.seq hb288.n))
     refine back21 (k+1,q2_v,q2,far2,by2,g282) _ _ ⟨bH.ca C289,zs1,zs3,zs6,zs9,zs11,zs12,zs13,zs14,zs93,zs94,rfl,Rg.ca C289,Rws.cn hb288,bx5.ca C289,bx10.ca C289,o30.ca C289,bx38.ca C289,bx159.ca C289,o169.ca C289,bx259.ca C289,(bx267.cn hc286).cn hb288,bx272.ca C289,r276.chg C289 (dI rfl) (dI rfl),o_q2.ca C289,by omega,?_⟩ ?_
     · show RI g ws s (gP g qq se) (gI xj ((xj.length:Int)-1)).2 (gI xj ((xj.length:Int)-1)).1 q2 far2 by2 (List.set se (Int.toNat ((gI xj ((xj.length:Int)-1)).2)) true) (k+1)
       exact h2.inf' ‹_› hgw ‹_›
     · show Int.toNat (((List.length (gI (af g) ((gI xj ((xj.length:Int)-1)).2)):Int):Int)-((k+1):Int))<Int.toNat (((List.length (gI (af g) ((gI xj ((xj.length:Int)-1)).2)):Int):Int)-(k:Int))
       omega
    refine lv (Value.float .f64 (aU ((gI xj ((xj.length:Int)-1)).1) (zf (gI ws ((gI (gI (af g) ((gI xj ((xj.length:Int)-1)).2)) (k:Int))/2))))) (wy (congrArg Bool.not (Bool.eq_false_iff.2 q124))) (al rfl) (lv (vp b33 0) (wy (congrArg Bool.not (Bool.eq_false_iff.2 q124))) (ad h8 rfl rfl zs9 rfl) ?_)
    have C290:=cg [] (ch283.n.seq (hc286.n.seq hb288.n))
    replace bx38:=bx38.ca C290
    refine lv (v23) (wy (congrArg Bool.not (Bool.eq_false_iff.2 q124))) (ae c9 rfl bx38 rfl) (lv (vi (pI (gI g.2 ((gI (gI (af g) ((gI xj ((xj.length:Int)-1)).2)) (k:Int))/2)) (1-((gI (gI (af g) ((gI xj ((xj.length:Int)-1)).2)) (k:Int))%2)))) (wy (congrArg Bool.not (Bool.eq_false_iff.2 q124))) (al rfl) ?_)
    replace bx159:=bx159.ca C290
    refine lv (Value.pointer (some (aL v23 1 (Int.toNat (pI (gI g.2 ((gI (gI (af g) ((gI xj ((xj.length:Int)-1)).2)) (k:Int))/2)) (1-((gI (gI (af g) ((gI xj ((xj.length:Int)-1)).2)) (k:Int))%2))))))) (wy (congrArg Bool.not (Bool.eq_false_iff.2 q124))) (ab (α:=Nat) (xs:=far2) (v:=v23) (i:=pI (gI g.2 ((gI (gI (af g) ((gI xj ((xj.length:Int)-1)).2)) (k:Int))/2)) (1-((gI (gI (af g) ((gI xj ((xj.length:Int)-1)).2)) (k:Int))%2))) cR rfl rfl bx159.flat rfl (by omega) (by omega)) ?_
    refine lv (Value.float .f64 (gI far2 (pI (gI g.2 ((gI (gI (af g) ((gI xj ((xj.length:Int)-1)).2)) (k:Int))/2)) (1-((gI (gI (af g) ((gI xj ((xj.length:Int)-1)).2)) (k:Int))%2))))) (wy (congrArg Bool.not (Bool.eq_false_iff.2 q124))) (aw (α:=Nat) (xs:=far2) (v:=v23) (i:=pI (gI g.2 ((gI (gI (af g) ((gI xj ((xj.length:Int)-1)).2)) (k:Int))/2)) (1-((gI (gI (af g) ((gI xj ((xj.length:Int)-1)).2)) (k:Int))%2))) aF rfl bx159.flat (by omega) (by omega) (by decide) rfl) ?_
    refine lv (vb (decide ((aU ((gI xj ((xj.length:Int)-1)).1) (zf (gI ws ((gI (gI (af g) ((gI xj ((xj.length:Int)-1)).2)) (k:Int))/2))))<(gI far2 (pI (gI g.2 ((gI (gI (af g) ((gI xj ((xj.length:Int)-1)).2)) (k:Int))/2)) (1-((gI (gI (af g) ((gI xj ((xj.length:Int)-1)).2)) (k:Int))%2))))))) (wy (congrArg Bool.not (Bool.eq_false_iff.2 q124))) (mQ (a:=(aU ((gI xj ((xj.length:Int)-1)).1) (zf (gI ws ((gI (gI (af g) ((gI xj ((xj.length:Int)-1)).2)) (k:Int))/2))))) (b:=(gI far2 (pI (gI g.2 ((gI (gI (af g) ((gI xj ((xj.length:Int)-1)).2)) (k:Int))/2)) (1-((gI (gI (af g) ((gI xj ((xj.length:Int)-1)).2)) (k:Int))%2))))) rfl rfl ‹_› ‹_›) ?_
    refine lw (vb (decide ((aU ((gI xj ((xj.length:Int)-1)).1) (zf (gI ws ((gI (gI (af g) ((gI xj ((xj.length:Int)-1)).2)) (k:Int))/2))))<(gI far2 (pI (gI g.2 ((gI (gI (af g) ((gI xj ((xj.length:Int)-1)).2)) (k:Int))/2)) (1-((gI (gI (af g) ((gI xj ((xj.length:Int)-1)).2)) (k:Int))%2))))))) (aH rfl (congrArg Bool.not (Bool.eq_false_iff.2 q124)) rfl) (aa ?_)
    by_cases p25:(aU ((gI xj ((xj.length:Int)-1)).1) (zf (gI ws ((gI (gI (af g) ((gI xj ((xj.length:Int)-1)).2)) (k:Int))/2))))<(gI far2 (pI (gI g.2 ((gI (gI (af g) ((gI xj ((xj.length:Int)-1)).2)) (k:Int))/2)) (1-((gI (gI (af g) ((gI xj ((xj.length:Int)-1)).2)) (k:Int))%2))))
    ·
     refine ah rfl (dt p25) (a8 (di g282 (inl [3,4]) cE ?_))
     intro w292 ch291
     refine ht 0 rfl (bc.refl _ _ _) (λw' hw'=>ad h8 rfl rfl zs9 rfl) ?_
     replace bx38:=bx38.cn ch291
     refine ht 1 rfl (bc.refl _ _ _) (λw' hw'=>ae c9 rfl (bx38.chg hw' (cw rfl)) rfl) (ht (v:=vi (pI (gI g.2 ((gI (gI (af g) ((gI xj ((xj.length:Int)-1)).2)) (k:Int))/2)) (1-((gI (gI (af g) ((gI xj ((xj.length:Int)-1)).2)) (k:Int))%2)))) 2 rfl (bc.refl _ _ _) (λw' hw'=>al rfl) (ht 3 rfl (bc.refl _ _ _) (λw' hw'=>ad h8 rfl rfl zs9 rfl) (ht 4 rfl (bc.refl _ _ _) (λw' hw'=>ae bL rfl (bx38.chg hw' (cw rfl)) rfl) (ht (v:=vi (pI (gI g.2 ((gI (gI (af g) ((gI xj ((xj.length:Int)-1)).2)) (k:Int))/2)) (1-((gI (gI (af g) ((gI xj ((xj.length:Int)-1)).2)) (k:Int))%2)))) 5 rfl (bc.refl _ _ _) (λw' hw'=>al rfl) ?_))))
     refine ht (v:=Value.float .f64 (aU ((gI xj ((xj.length:Int)-1)).1) (zf (gI ws ((gI (gI (af g) ((gI xj ((xj.length:Int)-1)).2)) (k:Int))/2))))) 6 rfl (bc.refl _ _ _) (λw' hw'=>al rfl) (ht (v:=vi (gI (gI (af g) ((gI xj ((xj.length:Int)-1)).2)) (k:Int))) 7 rfl (bc.refl _ _ _) (λw' hw'=>al rfl) (cP 8 rfl (by kernel_rfl) rfl ?_))
     replace bx159:=bx159.cn ch291
     refine bk (v:=Value.pointer (some (aL v23 1 (Int.toNat (pI (gI g.2 ((gI (gI (af g) ((gI xj ((xj.length:Int)-1)).2)) (k:Int))/2)) (1-((gI (gI (af g) ((gI xj ((xj.length:Int)-1)).2)) (k:Int))%2))))))) (ab (α:=Nat) (xs:=far2) (v:=v23) (i:=pI (gI g.2 ((gI (gI (af g) ((gI xj ((xj.length:Int)-1)).2)) (k:Int))/2)) (1-((gI (gI (af g) ((gI xj ((xj.length:Int)-1)).2)) (k:Int))%2))) cR rfl rfl bx159.flat rfl (by omega) (by omega)) ?_
     refine⟨(bc.refl _ _ _),?_⟩
     refine cP 9 rfl (by kernel_rfl) rfl (aJ (i:=pI (gI g.2 ((gI (gI (af g) ((gI xj ((xj.length:Int)-1)).2)) (k:Int))/2)) (1-((gI (gI (af g) ((gI xj ((xj.length:Int)-1)).2)) (k:Int))%2))) (aU ((gI xj ((xj.length:Int)-1)).1) (zf (gI ws ((gI (gI (af g) ((gI xj ((xj.length:Int)-1)).2)) (k:Int))/2)))) aF rfl rfl bx159 (by omega) (by omega) rfl ?_)
     intro w293 ch294 bx295
     clear bx159
     have hs296:bc (inl [3,4]) _ _ _ _:=ch294.l rfl
     refine⟨hs296.same,?_⟩
     refine cP 10 rfl (by kernel_rfl) rfl ?_
     have C297:=cg [3] (ch283.n.seq (hc286.n.seq (hb288.n.seq (ch291.n.seq (ch294.l rfl)))))
     replace o30:=o30.ca C297
     refine bk (v:=Value.pointer (some (aL v28 1 (Int.toNat (pI (gI g.2 ((gI (gI (af g) ((gI xj ((xj.length:Int)-1)).2)) (k:Int))/2)) (1-((gI (gI (af g) ((gI xj ((xj.length:Int)-1)).2)) (k:Int))%2))))))) (ab (α:=Int) (xs:=by2) (v:=v28) (i:=pI (gI g.2 ((gI (gI (af g) ((gI xj ((xj.length:Int)-1)).2)) (k:Int))/2)) (1-((gI (gI (af g) ((gI xj ((xj.length:Int)-1)).2)) (k:Int))%2))) bQ rfl rfl o30.flat rfl (by omega) (by omega)) ?_
     refine⟨hs296.same,?_⟩
     refine cP 11 rfl (by kernel_rfl) rfl (aJ (i:=pI (gI g.2 ((gI (gI (af g) ((gI xj ((xj.length:Int)-1)).2)) (k:Int))/2)) (1-((gI (gI (af g) ((gI xj ((xj.length:Int)-1)).2)) (k:Int))%2))) (gI (gI (af g) ((gI xj ((xj.length:Int)-1)).2)) (k:Int)) ax rfl rfl o30 (by omega) (by omega) rfl ?_)
     intro w298 ch299 bx300
     clear o30
     have hs301:=hs296.seq (ch299.l rfl)
     refine⟨hs301.same,?_⟩
     refine i5 (by kernel_rfl) (a7 rfl (mz zs13 (lw (Value.iface 77 (vp b179 0)) (iT s5 rfl rfl) (mv (Value.float .f64 (aU ((gI xj ((xj.length:Int)-1)).1) (zf (gI ws ((gI (gI (af g) ((gI xj ((xj.length:Int)-1)).2)) (k:Int))/2))))) (mi (pI (gI g.2 ((gI (gI (af g) ((gI xj ((xj.length:Int)-1)).2)) (k:Int))/2)) (1-((gI (gI (af g) ((gI xj ((xj.length:Int)-1)).2)) (k:Int))%2))) ?_)))))
     refine lw (vg [Value.float .f64 (aU ((gI xj ((xj.length:Int)-1)).1) (zf (gI ws ((gI (gI (af g) ((gI xj ((xj.length:Int)-1)).2)) (k:Int))/2)))),vi (pI (gI g.2 ((gI (gI (af g) ((gI xj ((xj.length:Int)-1)).2)) (k:Int))/2)) (1-((gI (gI (af g) ((gI xj ((xj.length:Int)-1)).2)) (k:Int))%2)))]) (bJ (vs:=[(0,Value.float .f64 (aU ((gI xj ((xj.length:Int)-1)).1) (zf (gI ws ((gI (gI (af g) ((gI xj ((xj.length:Int)-1)).2)) (k:Int))/2))))),(1,vi (pI (gI g.2 ((gI (gI (af g) ((gI xj ((xj.length:Int)-1)).2)) (k:Int))/2)) (1-((gI (gI (af g) ((gI xj ((xj.length:Int)-1)).2)) (k:Int))%2))))]) rfl (by kernel_rfl)) ?_
     refine lw (Value.iface 79 (vg [Value.float .f64 (aU ((gI xj ((xj.length:Int)-1)).1) (zf (gI ws ((gI (gI (af g) ((gI xj ((xj.length:Int)-1)).2)) (k:Int))/2)))),vi (pI (gI g.2 ((gI (gI (af g) ((gI xj ((xj.length:Int)-1)).2)) (k:Int))/2)) (1-((gI (gI (af g) ((gI xj ((xj.length:Int)-1)).2)) (k:Int))%2)))])) (iT l6 rfl rfl) (lo ?_)
     refine bl (aE (vals:=[Value.iface 77 (vp b179 0),Value.iface 79 (vg [Value.float .f64 (aU ((gI xj ((xj.length:Int)-1)).1) (zf (gI ws ((gI (gI (af g) ((gI xj ((xj.length:Int)-1)).2)) (k:Int))/2)))),vi (pI (gI g.2 ((gI (gI (af g) ((gI xj ((xj.length:Int)-1)).2)) (k:Int))/2)) (1-((gI (gI (af g) ((gI xj ((xj.length:Int)-1)).2)) (k:Int))%2)))])]) Try.func42 nC nV rfl) (am Try.func42 rfl nq ?_)
     have C302:=cg [3,4] (ch283.n.seq (hc286.n.seq (hb288.n.seq (ch291.n.seq ((ch294.l rfl).seq (ch299.l rfl))))))
     replace o_q2:=o_q2.ca C302
     refine a8 (a7 rfl (mv (Value.iface 77 (vp b179 0)) (mv (Value.iface 79 (vg [Value.float .f64 (aU ((gI xj ((xj.length:Int)-1)).1) (zf (gI ws ((gI (gI (af g) ((gI xj ((xj.length:Int)-1)).2)) (k:Int))/2)))),vi (pI (gI g.2 ((gI (gI (af g) ((gI xj ((xj.length:Int)-1)).2)) (k:Int))/2)) (1-((gI (gI (af g) ((gI xj ((xj.length:Int)-1)).2)) (k:Int))%2)))])) (lo ?_))))
     refine bl (bV (T:=77) (v:=vp b179 0) (u:=vp b179 0) (vals:=[Value.iface 79 (vg [Value.float .f64 (aU ((gI xj ((xj.length:Int)-1)).1) (zf (gI ws ((gI (gI (af g) ((gI xj ((xj.length:Int)-1)).2)) (k:Int))/2)))),vi (pI (gI g.2 ((gI (gI (af g) ((gI xj ((xj.length:Int)-1)).2)) (k:Int))/2)) (1-((gI (gI (af g) ((gI xj ((xj.length:Int)-1)).2)) (k:Int))%2)))])]) rfl (λn=>fo kn) Try.func124 mG np rfl) (am Try.func124 rfl nq (bD g282 [0,1,2,3,4,5,8] cE ?_))
     intro w304 ch303
     refine xp (v:=vp b179 0) 0 rfl (λw=>al rfl) (xp (v:=vp b179 0) 1 rfl (λw=>al rfl) (xp (v:=vp b179 0) 2 rfl (λw=>b6 rfl) ?_))
     have C305:=cg [3,4] (ch283.n.seq (hc286.n.seq (hb288.n.seq (ch291.n.seq ((ch294.l rfl).seq ((ch299.l rfl).seq ch303.n))))))
     replace bx259:=bx259.ca C305
     refine xh 3 [2,1,0,4,5,6] rfl (λw' hw'=>ae bN rfl (bx259.bel hw') rfl) (xp (v:=Value.iface 79 (vg [Value.float .f64 (aU ((gI xj ((xj.length:Int)-1)).1) (zf (gI ws ((gI (gI (af g) ((gI xj ((xj.length:Int)-1)).2)) (k:Int))/2)))),vi (pI (gI g.2 ((gI (gI (af g) ((gI xj ((xj.length:Int)-1)).2)) (k:Int))/2)) (1-((gI (gI (af g) ((gI xj ((xj.length:Int)-1)).2)) (k:Int))%2)))])) 4 rfl (λw=>al rfl) ?_)
     refine xv (v:=vg [Value.float .f64 (aU ((gI xj ((xj.length:Int)-1)).1) (zf (gI ws ((gI (gI (af g) ((gI xj ((xj.length:Int)-1)).2)) (k:Int))/2)))),vi (pI (gI g.2 ((gI (gI (af g) ((gI xj ((xj.length:Int)-1)).2)) (k:Int))/2)) (1-((gI (gI (af g) ((gI xj ((xj.length:Int)-1)).2)) (k:Int))%2)))]) 5 [4,3,2,1,0] rfl (jP l6 rfl rfl) (aZ 6 rfl (by kernel_rfl) rfl ?_)
     refine aQ (α:=(Nat)×(Int)) g282 (is 14) (is 14) (14,0) rfl ([(aU ((gI xj ((xj.length:Int)-1)).1) (zf (gI ws ((gI (gI (af g) ((gI xj ((xj.length:Int)-1)).2)) (k:Int))/2))),pI (gI g.2 ((gI (gI (af g) ((gI xj ((xj.length:Int)-1)).2)) (k:Int))/2)) (1-((gI (gI (af g) ((gI xj ((xj.length:Int)-1)).2)) (k:Int))%2)))]:List ((Nat)×(Int))) eM bf (by decide) (by decide) (vs:=[(0,vg [Value.float .f64 (aU ((gI xj ((xj.length:Int)-1)).1) (zf (gI ws ((gI (gI (af g) ((gI xj ((xj.length:Int)-1)).2)) (k:Int))/2)))),vi (pI (gI g.2 ((gI (gI (af g) ((gI xj ((xj.length:Int)-1)).2)) (k:Int))/2)) (1-((gI (gI (af g) ((gI xj ((xj.length:Int)-1)).2)) (k:Int))%2)))])]) rfl rfl (.cons rfl .nil) ?_
     intro g306 w307 v308 ch309 o310
     refine aZ 7 rfl (by kernel_rfl) rfl ?_
     replace o_q2:=(o_q2.cn ch303).cn ch309
     refine bI (α:=(Nat)×(Int)) (xs:=q2) (ys:=([(aU ((gI xj ((xj.length:Int)-1)).1) (zf (gI ws ((gI (gI (af g) ((gI xj ((xj.length:Int)-1)).2)) (k:Int))/2))),pI (gI g.2 ((gI (gI (af g) ((gI xj ((xj.length:Int)-1)).2)) (k:Int))/2)) (1-((gI (gI (af g) ((gI xj ((xj.length:Int)-1)).2)) (k:Int))%2)))]:List ((Nat)×(Int)))) g306 (J:=is 8) (S:=is 8) (8,0) rfl eM bf (by decide) rfl rfl rfl o_q2 o310.flat (by decide) (by(simp;omega)) ?_
     intro g311 w312 v313 ch314 o315
     clear o_q2
     refine xp (v:=vp b179 0) 8 rfl (λw=>b6 rfl) (aZ 9 rfl (by kernel_rfl) rfl ?_)
     replace bx259:=(bx259.cn ch309).ce ch314
     refine dA (cs':=[v313]) bN rfl rfl bx259 (dj o315.flat) nq (aP o315.flat) rfl ?_
     intro w316 ch317 bx318
     clear bx259
     refine bR (by kernel_rfl) (cu (vs:=[]) Try.func124 .nil ?_)
     refine⟨vt [],rfl,?_⟩
     refine aa ?_
     clear o310
     refine a7 rfl (mv (Value.iface 77 (vp b179 0)) (mv (Value.iface 77 (vp b179 0)) ?_))
     replace o315:=o315.ce ch317
     refine lo ?_
     refine bB (v:=vi ((q2++([(aU ((gI xj ((xj.length:Int)-1)).1) (zf (gI ws ((gI (gI (af g) ((gI xj ((xj.length:Int)-1)).2)) (k:Int))/2))),pI (gI g.2 ((gI (gI (af g) ((gI xj ((xj.length:Int)-1)).2)) (k:Int))/2)) (1-((gI (gI (af g) ((gI xj ((xj.length:Int)-1)).2)) (k:Int))%2)))]:List ((Nat)×(Int)))).length:Int)) (bV (T:=77) (v:=vp b179 0) (u:=v313) (vals:=[]) rfl (λn=>bq ic (bi bN (by rw[bx318.cell];rfl))) Try.func40 iX j7 rfl) (iO w316 (q2++([(aU ((gI xj ((xj.length:Int)-1)).1) (zf (gI ws ((gI (gI (af g) ((gI xj ((xj.length:Int)-1)).2)) (k:Int))/2))),pI (gI g.2 ((gI (gI (af g) ((gI xj ((xj.length:Int)-1)).2)) (k:Int))/2)) (1-((gI (gI (af g) ((gI xj ((xj.length:Int)-1)).2)) (k:Int))%2)))]:List ((Nat)×(Int)))) v313 (o315.flat).ro) ?_
     intro w319 hb320
     replace hb320:=aA hb320 g311
     refine lx (dZ (m:=((q2++([(aU ((gI xj ((xj.length:Int)-1)).1) (zf (gI ws ((gI (gI (af g) ((gI xj ((xj.length:Int)-1)).2)) (k:Int))/2))),pI (gI g.2 ((gI (gI (af g) ((gI xj ((xj.length:Int)-1)).2)) (k:Int))/2)) (1-((gI (gI (af g) ((gI xj ((xj.length:Int)-1)).2)) (k:Int))%2)))]:List ((Nat)×(Int)))).length:Int)) (n:=1) rfl rfl (by(rw[List.length_append];simp only[List.length_cons,List.length_nil];omega))) (lo ?_)
     refine bo (σ:=(List ((Nat)×(Int)))×ay) (V:=λ⟨xp,gq⟩=>vt []) (S:=λ⟨xp,gq⟩ w=>b7 w0 gq w/\Sl gq (is 0) w g_v g.2/\Sl gq (is 0) w ws_v ws/\Bx gq (is 1) w b3 [vi g.1,g_v]/\Bx gq (is 2) w b8 [vn,vn]/\Bx gq (is 5) w b33 [v23,v28]/\da gq 7 w v168 (af g)/\Bx gq (is 11) w b262 [Value.float .f64 ((gI xj ((xj.length:Int)-1)).1),vi ((gI xj ((xj.length:Int)-1)).2)]/\Ow gq (is 6) (is 6) w v162 (List.set se (Int.toNat ((gI xj ((xj.length:Int)-1)).2)) true)/\Ow gq (row 7 (Int.toNat ((gI xj ((xj.length:Int)-1)).2)+1)) (row 7 (Int.toNat ((gI xj ((xj.length:Int)-1)).2)+1)) w v274 (gI (af g) ((gI xj ((xj.length:Int)-1)).2))/\Ow gq (is 3) (is 3) w v23 (List.set far2 (Int.toNat (pI (gI g.2 ((gI (gI (af g) ((gI xj ((xj.length:Int)-1)).2)) (k:Int))/2)) (1-((gI (gI (af g) ((gI xj ((xj.length:Int)-1)).2)) (k:Int))%2)))) (aU ((gI xj ((xj.length:Int)-1)).1) (zf (gI ws ((gI (gI (af g) ((gI xj ((xj.length:Int)-1)).2)) (k:Int))/2)))))/\Ow gq (is 4) (is 4) w v28 (List.set by2 (Int.toNat (pI (gI g.2 ((gI (gI (af g) ((gI xj ((xj.length:Int)-1)).2)) (k:Int))/2)) (1-((gI (gI (af g) ((gI xj ((xj.length:Int)-1)).2)) (k:Int))%2)))) (gI (gI (af g) ((gI xj ((xj.length:Int)-1)).2)) (k:Int)))/\Ow gq (is 8) (is 8) w v313 xp/\Bx gq (is 9) w b179 [v313]/\(xp=pn (q2++([(aU ((gI xj ((xj.length:Int)-1)).1) (zf (gI ws ((gI (gI (af g) ((gI xj ((xj.length:Int)-1)).2)) (k:Int))/2))),pI (gI g.2 ((gI (gI (af g) ((gI xj ((xj.length:Int)-1)).2)) (k:Int))/2)) (1-((gI (gI (af g) ((gI xj ((xj.length:Int)-1)).2)) (k:Int))%2)))]:List ((Nat)×(Int)))))) (aE (vals:=[Value.iface 77 (vp b179 0),vi (((q2++([(aU ((gI xj ((xj.length:Int)-1)).1) (zf (gI ws ((gI (gI (af g) ((gI xj ((xj.length:Int)-1)).2)) (k:Int))/2))),pI (gI g.2 ((gI (gI (af g) ((gI xj ((xj.length:Int)-1)).2)) (k:Int))/2)) (1-((gI (gI (af g) ((gI xj ((xj.length:Int)-1)).2)) (k:Int))%2)))]:List ((Nat)×(Int)))).length:Int)-1)]) Try.func65 oO pD rfl) ?_ ?_
     ·
      refine am Try.func65 rfl nq ?_
      replace o315:=o315.cn hb320
      have hlul:(((q2++([(aU ((gI xj ((xj.length:Int)-1)).1) (zf (gI ws ((gI (gI (af g) ((gI xj ((xj.length:Int)-1)).2)) (k:Int))/2))),pI (gI g.2 ((gI (gI (af g) ((gI xj ((xj.length:Int)-1)).2)) (k:Int))/2)) (1-((gI (gI (af g) ((gI xj ((xj.length:Int)-1)).2)) (k:Int))%2)))]:List ((Nat)×(Int))))).length:Int)=q2.length+1:=by rw[List.length_append];rfl
      have hlu:∀y∈(q2++([(aU ((gI xj ((xj.length:Int)-1)).1) (zf (gI ws ((gI (gI (af g) ((gI xj ((xj.length:Int)-1)).2)) (k:Int))/2))),pI (gI g.2 ((gI (gI (af g) ((gI xj ((xj.length:Int)-1)).2)) (k:Int))/2)) (1-((gI (gI (af g) ((gI xj ((xj.length:Int)-1)).2)) (k:Int))%2)))]:List ((Nat)×(Int)))),y.1<=az:=λy hy=>(List.mem_append.1 hy).elim (hqn2 y) (λk=>by rw[List.mem_singleton.1 k];assumption)
      refine aq ?_
      refine ba (σ:=Int×(List ((Nat)×(Int)))×ay) (λ⟨jU,xu,gq⟩ f w=>b7 w0 gq w/\f 0=Value.iface 77 (vp b179 0)/\f 1=vi jU/\Sl gq (is 0) w g_v g.2/\Sl gq (is 0) w ws_v ws/\Bx gq (is 1) w b3 [vi g.1,g_v]/\Bx gq (is 2) w b8 [vn,vn]/\Bx gq (is 5) w b33 [v23,v28]/\da gq 7 w v168 (af g)/\Bx gq (is 11) w b262 [Value.float .f64 ((gI xj ((xj.length:Int)-1)).1),vi ((gI xj ((xj.length:Int)-1)).2)]/\Ow gq (is 6) (is 6) w v162 (List.set se (Int.toNat ((gI xj ((xj.length:Int)-1)).2)) true)/\Ow gq (row 7 (Int.toNat ((gI xj ((xj.length:Int)-1)).2)+1)) (row 7 (Int.toNat ((gI xj ((xj.length:Int)-1)).2)+1)) w v274 (gI (af g) ((gI xj ((xj.length:Int)-1)).2))/\Ow gq (is 3) (is 3) w v23 (List.set far2 (Int.toNat (pI (gI g.2 ((gI (gI (af g) ((gI xj ((xj.length:Int)-1)).2)) (k:Int))/2)) (1-((gI (gI (af g) ((gI xj ((xj.length:Int)-1)).2)) (k:Int))%2)))) (aU ((gI xj ((xj.length:Int)-1)).1) (zf (gI ws ((gI (gI (af g) ((gI xj ((xj.length:Int)-1)).2)) (k:Int))/2)))))/\Ow gq (is 4) (is 4) w v28 (List.set by2 (Int.toNat (pI (gI g.2 ((gI (gI (af g) ((gI xj ((xj.length:Int)-1)).2)) (k:Int))/2)) (1-((gI (gI (af g) ((gI xj ((xj.length:Int)-1)).2)) (k:Int))%2)))) (gI (gI (af g) ((gI xj ((xj.length:Int)-1)).2)) (k:Int)))/\Ow gq (is 8) (is 8) w v313 xu/\Bx gq (is 9) w b179 [v313]/\(kY (q2++([(aU ((gI xj ((xj.length:Int)-1)).1) (zf (gI ws ((gI (gI (af g) ((gI xj ((xj.length:Int)-1)).2)) (k:Int))/2))),pI (gI g.2 ((gI (gI (af g) ((gI xj ((xj.length:Int)-1)).2)) (k:Int))/2)) (1-((gI (gI (af g) ((gI xj ((xj.length:Int)-1)).2)) (k:Int))%2)))]:List ((Nat)×(Int)))) xu jU)) (λ⟨jU,xu,gq⟩=>jU.toNat) (((q2++([(aU ((gI xj ((xj.length:Int)-1)).1) (zf (gI ws ((gI (gI (af g) ((gI xj ((xj.length:Int)-1)).2)) (k:Int))/2))),pI (gI g.2 ((gI (gI (af g) ((gI xj ((xj.length:Int)-1)).2)) (k:Int))/2)) (1-((gI (gI (af g) ((gI xj ((xj.length:Int)-1)).2)) (k:Int))%2)))]:List ((Nat)×(Int)))).length:Int)-1,(q2++([(aU ((gI xj ((xj.length:Int)-1)).1) (zf (gI ws ((gI (gI (af g) ((gI xj ((xj.length:Int)-1)).2)) (k:Int))/2))),pI (gI g.2 ((gI (gI (af g) ((gI xj ((xj.length:Int)-1)).2)) (k:Int))/2)) (1-((gI (gI (af g) ((gI xj ((xj.length:Int)-1)).2)) (k:Int))%2)))]:List ((Nat)×(Int)))),g311) ?_ ?_
      have C323:=cg [3,4,8,9] ((ch294.l rfl).seq ((ch299.l rfl).seq (ch303.n.seq (ch309.n.seq ((ch314.l rfl).seq ((ch317.l rfl).seq hb320.n))))))
      have C322:=hb288.n.seq (ch291.n.seq C323)
      have C324:=hc286.n.seq C322
      have C321:=ch283.n.seq C324
      have C325:=cg [4,8,9] ((ch299.l rfl).seq (ch303.n.seq (ch309.n.seq ((ch314.l rfl).seq ((ch317.l rfl).seq hb320.n)))))
      have C326:=cg [8,9] (ch303.n.seq (ch309.n.seq ((ch314.l rfl).seq ((ch317.l rfl).seq hb320.n))))
      · exact⟨bH.ca C321,rfl,rfl,Rg.ca C321,Rws.ca C322,bx5.ca C321,bx10.ca C321,bx38.ca C323,o169.ca C321,bx267.ca C324,bx272.ca C321,r276.chg C321 (dI rfl) (dI rfl),bx295.ca C325,bx300.ca C326,o315,bx318.cn hb320,by exact kY.start (by rw[List.length_append];exact Int.ofNat_lt.2 (Nat.succ_pos _))⟩
      clear Rg Rws bx5 bx10 bx38 o169 bx267 bx272 r276 bx295 bx300 o315 bx318 bH
      rintro⟨jU,xu,g329⟩ f327 w328 ⟨bH,zs0_c10,zs1_c10,Rg,Rws,bx5,bx10,bx38,o169,bx267,bx272,r276,bx295,bx300,o315,bx318,hU⟩ back0_c10
      have hU0:=hU.j0
      have hU1:=hU.j1
      have hUl:=hU.len
      have hUn:=hU.nn hlu
      refine aq (a8 (a7 rfl (mz zs1_c10 (lx (dZ (m:=jU) (n:=1) rfl rfl (by omega)) (lx (q5 (m:=jU-1) (n:=2) rfl rfl (by omega) (by omega)) (ai (Int.tdiv (jU-1) 2) (aa (a8 (a8 (a7 rfl (mi (Int.tdiv (jU-1) 2) (mz zs1_c10 (lx (en (m:=Int.tdiv (jU-1) 2) (n:=jU) rfl rfl) ?_)))))))))))))
      refine mv (vb (decide ((Int.tdiv (jU-1) 2)=jU))) ?_
      by_cases q11_c10:(Int.tdiv (jU-1) 2)=jU
      ·
       refine ak (wn (dt q11_c10)) (ak (wn (dt q11_c10)) (ak (wn (dt q11_c10)) (ak (wn (dt q11_c10)) (ak (wn (dt q11_c10)) (lw (vb true) (aH rfl (dt q11_c10) rfl) (aa (ah rfl rfl (aO rfl (cu (vs:=[]) Try.func65 .nil ?_)))))))))
       refine⟨(xu,g329),rfl,bH,Rg,Rws,bx5,bx10,bx38,o169,bx267,bx272,r276,bx295,bx300,o315,bx318,?_⟩
       show xu=pn (q2++([(aU ((gI xj ((xj.length:Int)-1)).1) (zf (gI ws ((gI (gI (af g) ((gI xj ((xj.length:Int)-1)).2)) (k:Int))/2))),pI (gI g.2 ((gI (gI (af g) ((gI xj ((xj.length:Int)-1)).2)) (k:Int))/2)) (1-((gI (gI (af g) ((gI xj ((xj.length:Int)-1)).2)) (k:Int))%2)))]:List ((Nat)×(Int))))
       exact hU.end1 ‹_›
      have htd_c10:=ec hU0 q11_c10
      refine lv (Value.iface 77 (vp b179 0)) (wy (df q11_c10)) (al zs0_c10) (lv (vi jU) (wy (df q11_c10)) (al zs1_c10) (lv (vi (Int.tdiv (jU-1) 2)) (wy (df q11_c10)) (al rfl) (d8 (wy (df q11_c10)) (bB (v:=vb (decide (cv (gI xu jU) (gI xu (Int.tdiv (jU-1) 2))))) (bV (T:=77) (v:=vp b179 0) (u:=v313) (vals:=[vi jU,vi (Int.tdiv (jU-1) 2)]) rfl (λn=>bq dl (bi bN (by rw[bx318.cell];rfl))) Try.func122 eh eb rfl) (e9 w328 xu v313 (o315.flat).ro jU (Int.tdiv (jU-1) 2) (by omega) (by(have:=ec hU0 ‹_›;omega)) (by exact hUn)) ?_))))
      intro w330 hb331
      replace hb331:=aA hb331 g329
      refine lv (vb (!(decide (cv (gI xu jU) (gI xu (Int.tdiv (jU-1) 2)))))) (wy (df q11_c10)) (e7 (b:=(decide (cv (gI xu jU) (gI xu (Int.tdiv (jU-1) 2))))) rfl) (lw (vb (!(decide (cv (gI xu jU) (gI xu (Int.tdiv (jU-1) 2)))))) (aI rfl (df q11_c10) rfl) (aa ?_))
      by_cases p1_c10:(decide (cv (gI xu jU) (gI xu (Int.tdiv (jU-1) 2))))=true
      ·
       refine aj rfl (congrArg Bool.not p1_c10) (ap (a8 (a7 rfl (mz zs0_c10 (mi (Int.tdiv (jU-1) 2) (mz zs1_c10 (lo ?_)))))))
       replace bx318:=bx318.cn hb331
       refine bl (bV (T:=77) (v:=vp b179 0) (u:=v313) (vals:=[vi (Int.tdiv (jU-1) 2),vi jU]) rfl (λn=>bq dp (bi bN (by rw[bx318.cell];rfl))) Try.func125 es ey rfl) (am Try.func125 rfl nq ?_)
       replace o315:=o315.cn hb331
       refine bD g329 [0,1,2,3,4,5,6,7,8,9,10,11,12,14] cE ?_
       intro w333 ch332
       refine xp (v:=v313) 0 rfl (λw=>al rfl) (xp (v:=vi (Int.tdiv (jU-1) 2)) 1 rfl (λw=>al rfl) (xp (v:=v313) 2 rfl (λw=>al rfl) (xp (v:=vi jU) 3 rfl (λw=>al rfl) (xp (v:=v313) 4 rfl (λw=>al rfl) (xp (v:=vi jU) 5 rfl (λw=>al rfl) ?_)))))
       replace o315:=o315.cn ch332
       refine xv 6 [5,4,3,2,1,0,8,9,10,11] rfl (ab (v:=v313) (i:=jU) eM rfl rfl o315.flat rfl (by omega) (by omega)) (xv (v:=vg [Value.float .f64 ((gI xu jU).1),vi ((gI xu jU).2)]) 7 [6,5,4,3,2,1,0,8,9,10,11] rfl (br (v:=v313) (i:=jU) bf rfl o315.flat (by omega) (by omega) rfl) (xp (v:=v313) 8 rfl (λw=>al rfl) (xp (v:=vi (Int.tdiv (jU-1) 2)) 9 rfl (λw=>al rfl) (xv 10 [9,8,7,6,5,4,3,2,1,0] rfl (ab (v:=v313) (i:=Int.tdiv (jU-1) 2) eM rfl rfl o315.flat rfl (by omega) (by omega)) ?_))))
       refine xv (v:=vg [Value.float .f64 ((gI xu (Int.tdiv (jU-1) 2)).1),vi ((gI xu (Int.tdiv (jU-1) 2)).2)]) 11 [10,9,8,7,6,5,4,3,2,1,0] rfl (br (v:=v313) (i:=Int.tdiv (jU-1) 2) bf rfl o315.flat (by omega) (by omega) rfl) (xv 12 [11,10,9,8,7,6,5,4,3,2,1,0] rfl (ab (v:=v313) (i:=Int.tdiv (jU-1) 2) eM rfl rfl o315.flat rfl (by omega) (by omega)) (aZ 13 rfl (by kernel_rfl) rfl (aJ (i:=Int.tdiv (jU-1) 2) (gI xu jU) bf rfl rfl o315 (by omega) (by omega) rfl ?_)))
       intro w334 ch335 bx336
       clear o315
       refine xv 14 [13,12,11,10,9,8,7,6,5,4,3,2,1,0] rfl (ab (v:=v313) (i:=jU) eM rfl rfl bx336.flat rfl (by omega) (by(simp only[List.length_set,List.length_append,List.length_cons,List.length_nil,List.length_replicate,List.length_map,List.length_take,List.length_drop];omega))) (aZ 15 rfl (by kernel_rfl) rfl (aJ (i:=jU) (gI xu (Int.tdiv (jU-1) 2)) bf rfl rfl bx336 (by omega) (by(simp only[List.length_set,List.length_append,List.length_cons,List.length_nil,List.length_replicate,List.length_map,List.length_take,List.length_drop];omega)) rfl ?_))
       intro w337 ch338 bx339
       clear bx336
       refine bR (by kernel_rfl) (cu (vs:=[]) Try.func125 .nil ?_)
       refine⟨vt [],rfl,?_⟩
       refine aa (a7 rfl (mi (Int.tdiv (jU-1) 2) (ai (Int.tdiv (jU-1) 2) (aa (au ?_)))))
       have C341:=cg [8] (ch332.n.seq ((ch335.l rfl).seq (ch338.l rfl)))
       have C340:=hb331.n.seq C341
       refine back0_c10 (Int.tdiv (jU-1) 2,(List.set (List.set xu (Int.toNat (Int.tdiv (jU-1) 2)) (gI xu jU)) (Int.toNat jU) (gI xu (Int.tdiv (jU-1) 2))),g329) _ _ ⟨bH.ca C340,zs0_c10,rfl,Rg.ca C340,Rws.ca C340,bx5.ca C340,bx10.ca C340,bx38.ca C340,o169.ca C340,bx267.ca C340,bx272.ca C340,r276.chg C340 (dI rfl) (dI rfl),bx295.ca C340,bx300.ca C340,bx339,bx318.ca C341,?_⟩ ?_
       · show kY (q2++([(aU ((gI xj ((xj.length:Int)-1)).1) (zf (gI ws ((gI (gI (af g) ((gI xj ((xj.length:Int)-1)).2)) (k:Int))/2))),pI (gI g.2 ((gI (gI (af g) ((gI xj ((xj.length:Int)-1)).2)) (k:Int))/2)) (1-((gI (gI (af g) ((gI xj ((xj.length:Int)-1)).2)) (k:Int))%2)))]:List ((Nat)×(Int)))) (List.set (List.set xu (Int.toNat (Int.tdiv (jU-1) 2)) (gI xu jU)) (Int.toNat jU) (gI xu (Int.tdiv (jU-1) 2))) (Int.tdiv (jU-1) 2)
         exact hU.next ‹_› ‹_›
       · show(Int.tdiv (jU-1) 2).toNat<jU.toNat
         (have:=ec hU0 ‹_›;omega)
      refine ah rfl (congrArg Bool.not (Bool.eq_false_iff.2 p1_c10)) (aO rfl (cu (vs:=[]) Try.func65 .nil ?_))
      replace bH:=bH.cn hb331
      replace Rg:=Rg.cn hb331
      replace Rws:=Rws.cn hb331
      replace bx5:=bx5.cn hb331
      replace bx10:=bx10.cn hb331
      replace bx38:=bx38.cn hb331
      replace o169:=o169.cn hb331
      replace bx267:=bx267.cn hb331
      replace bx272:=bx272.cn hb331
      replace r276:=r276.cn hb331
      replace bx295:=bx295.cn hb331
      replace bx300:=bx300.cn hb331
      replace o315:=o315.cn hb331
      replace bx318:=bx318.cn hb331
      refine⟨(xu,g329),rfl,bH,Rg,Rws,bx5,bx10,bx38,o169,bx267,bx272,r276,bx295,bx300,o315,bx318,?_⟩
      show xu=pn (q2++([(aU ((gI xj ((xj.length:Int)-1)).1) (zf (gI ws ((gI (gI (af g) ((gI xj ((xj.length:Int)-1)).2)) (k:Int))/2))),pI (gI g.2 ((gI (gI (af g) ((gI xj ((xj.length:Int)-1)).2)) (k:Int))/2)) (1-((gI (gI (af g) ((gI xj ((xj.length:Int)-1)).2)) (k:Int))%2)))]:List ((Nat)×(Int))))
      exact hU.end2 ‹_› ‹_›
     clear Rg Rws bx5 bx10 bx38 o169 bx267 bx272 r276 bx295 bx300 o315 bx318 bH
     rintro⟨xp,g343⟩ w342 ⟨bH,Rg,Rws,bx5,bx10,bx38,o169,bx267,bx272,r276,bx295,bx300,o315,bx318,hxp⟩
     refine aa (cu (vs:=[]) Try.func42 .nil ?_)
     refine⟨vt [],rfl,?_⟩
     refine aa (au (a7 rfl (lx (bg (m:=↑k) (n:=1) zs95 rfl (by omega)) (mi ((k:Int)+1) (aa ?_)))))
     refine back21 (k+1,v313,xp,(List.set far2 (Int.toNat (pI (gI g.2 ((gI (gI (af g) ((gI xj ((xj.length:Int)-1)).2)) (k:Int))/2)) (1-((gI (gI (af g) ((gI xj ((xj.length:Int)-1)).2)) (k:Int))%2)))) (aU ((gI xj ((xj.length:Int)-1)).1) (zf (gI ws ((gI (gI (af g) ((gI xj ((xj.length:Int)-1)).2)) (k:Int))/2))))),(List.set by2 (Int.toNat (pI (gI g.2 ((gI (gI (af g) ((gI xj ((xj.length:Int)-1)).2)) (k:Int))/2)) (1-((gI (gI (af g) ((gI xj ((xj.length:Int)-1)).2)) (k:Int))%2)))) (gI (gI (af g) ((gI xj ((xj.length:Int)-1)).2)) (k:Int))),g343) _ _ ⟨bH,zs1,zs3,zs6,zs9,zs11,zs12,zs13,zs14,zs93,zs94,rfl,Rg,Rws,bx5,bx10,bx300,bx38,bx295,o169,bx318,bx267,bx272,r276,o315,by omega,?_⟩ ?_
     · show RI g ws s (gP g qq se) (gI xj ((xj.length:Int)-1)).2 (gI xj ((xj.length:Int)-1)).1 xp (List.set far2 (Int.toNat (pI (gI g.2 ((gI (gI (af g) ((gI xj ((xj.length:Int)-1)).2)) (k:Int))/2)) (1-((gI (gI (af g) ((gI xj ((xj.length:Int)-1)).2)) (k:Int))%2)))) (aU ((gI xj ((xj.length:Int)-1)).1) (zf (gI ws ((gI (gI (af g) ((gI xj ((xj.length:Int)-1)).2)) (k:Int))/2))))) (List.set by2 (Int.toNat (pI (gI g.2 ((gI (gI (af g) ((gI xj ((xj.length:Int)-1)).2)) (k:Int))/2)) (1-((gI (gI (af g) ((gI xj ((xj.length:Int)-1)).2)) (k:Int))%2)))) (gI (gI (af g) ((gI xj ((xj.length:Int)-1)).2)) (k:Int))) (List.set se (Int.toNat ((gI xj ((xj.length:Int)-1)).2)) true) (k+1)
       exact h2.push' ‹_› rfl rfl rfl hto0 hto1 hgw ‹_› ‹_› hxp
     · show Int.toNat (((List.length (gI (af g) ((gI xj ((xj.length:Int)-1)).2)):Int):Int)-((k+1):Int))<Int.toNat (((List.length (gI (af g) ((gI xj ((xj.length:Int)-1)).2)):Int):Int)-(k:Int))
       omega
    refine aj rfl (df p25) (ap (au (a7 rfl (lx (bg (m:=↑k) (n:=1) zs95 rfl (by omega)) (mi ((k:Int)+1) (aa ?_))))))
    refine back21 (k+1,q2_v,q2,far2,by2,g282) _ _ ⟨bH.ca C290,zs1,zs3,zs6,zs9,zs11,zs12,zs13,zs14,zs93,zs94,rfl,Rg.ca C290,Rws.cn hb288,bx5.ca C290,bx10.ca C290,o30.ca C290,bx38,bx159,o169.ca C290,bx259.ca C290,(bx267.cn hc286).cn hb288,bx272.ca C290,r276.chg C290 (dI rfl) (dI rfl),o_q2.ca C290,by omega,?_⟩ ?_
    · show RI g ws s (gP g qq se) (gI xj ((xj.length:Int)-1)).2 (gI xj ((xj.length:Int)-1)).1 q2 far2 by2 (List.set se (Int.toNat ((gI xj ((xj.length:Int)-1)).2)) true) (k+1)
      exact h2.no ‹_› ‹_›
    · show Int.toNat (((List.length (gI (af g) ((gI xj ((xj.length:Int)-1)).2)):Int):Int)-((k+1):Int))<Int.toNat (((List.length (gI (af g) ((gI xj ((xj.length:Int)-1)).2)):Int):Int)-(k:Int))
      omega
   refine aj rfl (df p21) (aO rfl (au ?_))
   refine back16 (q2_v,q2,far2,by2,(List.set se (Int.toNat ((gI xj ((xj.length:Int)-1)).2)) true),g282) _ _ ⟨bH,zs1,zs3,zs6,zs9,zs11,zs12,zs13,Rg,Rws,bx5,bx10,o30,bx38,bx159,bx272,o169,bx259,o_q2,?_⟩ ?_
   · show WI g ws s q2 far2 by2 (List.set se (Int.toNat ((gI xj ((xj.length:Int)-1)).2)) true)
     exact(RI.done hm hu0 hu1 h2 ‹_› hle_k).1
   · show gP g q2 (List.set se (Int.toNat ((gI xj ((xj.length:Int)-1)).2)) true)<gP g qq se
     exact(RI.done hm hu0 hu1 h2 ‹_› hle_k).2
  refine aj rfl (df p16) (aO rfl (a8 ?_))
  clear bx5 o164 o169 bx181 o_qq
  refine a7 rfl ?_
  replace bx38:=bx38.cn hb190
  refine lx (aN (ds:=[v23,v28]) bb zs9 bx38 rfl rfl) (lo ?_)
  replace bx10:=bx10.cn hb190
  replace o30:=o30.cn hb190
  replace bx159:=bx159.cn hb190
  refine aG (cs':=[v23,v28]) bb zs6 rfl bx10 rfl nq (AllOne.all (.cons (aP bx159.flat) (.cons (aP o30.flat) .nil))) rfl ?_
  intro w344 ch345 bx346
  clear bx10
  refine ai 0 (aa (ar (vs:=[vg [v23,v28],vi 0]) Try.func12 (.cell zs6 (cl (ds:=[v23,v28]) bb bx346 rfl rfl) (.tmp rfl .nil)) ?_))
  replace bH:=bH.cn hb190
  replace bH:=bH.ce ch345
  replace bx159:=bx159.ce ch345
  replace o30:=o30.ce ch345
  have e0:((far,by_):(List Nat)×(List Int))=((av g ws s).1):=by
    (rw[jg p2 (by omega)];exact h1.done ‹_›)
  have e1:(0:Int)=((av g ws s).2):=by
    rw[jg p2 (by omega)]
  exact⟨(fin w0 g188 (λn=>if n=3 then 1 else if n=4 then 2 else 0),v23,v28),(c6 (a:=(far,by_)) (b:=0) (λ(z0:(List Nat)×(List Int)) (z1:Int)=>Ending.returned (vt [vg [v23,v28],vi z1])) e0 e1),bH.fresh _,((congrArg (λ(z:(List Nat)×(List Int))=>z.1) e0)▸(bx159.glue (γ:=c0) (ren:=(λn=>if n=3 then 1 else if n=4 then 2 else 0)) (k:=1) bH.col rfl rfl)),((congrArg (λ(z:(List Nat)×(List Int))=>z.2) e0)▸(o30.glue (γ:=c0) (ren:=(λn=>if n=3 then 1 else if n=4 then 2 else 0)) (k:=2) bH.col rfl rfl))⟩
 refine ah rfl (congrArg Bool.not (df p2)) (a8 ?_)
 clear bx5
 refine a7 rfl (lw (vg [vn,vn]) (bJ (vs:=[]) rfl (by kernel_rfl)) (mi (dd g ws) (lo ?_)))
 replace bx10:=bx10.cn hb12
 refine aG (cs':=[vn,vn]) bb rfl rfl bx10 rfl nq (AllOne.all (.cons rfl (.cons rfl .nil))) rfl ?_
 intro w347 ch348 bx349
 clear bx10
 refine ai (dd g ws) (aa (ar (vs:=[vg [vn,vn],vi (dd g ws)]) Try.func12 (.cell rfl (cl (ds:=[vn,vn]) bb bx349 rfl rfl) (.tmp rfl .nil)) ?_))
 have C350:=cg [2] (ch2.n.seq (ch7.n.seq (hb12.n.seq (ch348.l rfl))))
 replace bH:=bH.ca C350
 have e0:(([],[]):(List Nat)×(List Int))=((av g ws s).1):=by
   rw[kw p2]
 have e1:(dd g ws:Int)=((av g ws s).2):=by
   rw[kw p2]
 exact⟨(fin w0 g9 (λn=>0),vn,vn),(c6 (a:=([],[])) (b:=dd g ws) (λ(z0:(List Nat)×(List Int)) (z1:Int)=>Ending.returned (vt [vg [vn,vn],vi z1])) e0 e1),bH.fresh _,((congrArg (λ(z:(List Nat)×(List Int))=>z.1) e0)▸Ow.nil),((congrArg (λ(z:(List Nat)×(List Int))=>z.2) e0)▸Ow.nil)⟩
end TL
