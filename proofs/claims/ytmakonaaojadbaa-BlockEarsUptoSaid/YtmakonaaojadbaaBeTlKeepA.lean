/-
  TlKeepA: the lists of a list kept, one by one, while the list itself stays readable.
  By an AI agent.
-/
import Derived.Test.YtmakonaaojadbaaBeTlP4
import Derived.Test.YtmakonaaojadbaaProg
import Derived.Test.YtmakonaaojadbaaBeTlAli
import Derived.Test.YtmakonaaojadbaaBeTlErD
set_option linter.all false
namespace TL
open Go Go.Proofs
theorem mE:Try.prog.follows .mixedOrders=true:=by kernel_rfl
theorem nk:Tp Try.prog 3 false 1 8 (.int .i64 0):=Tp.of (by kernel_rfl)
theorem o3:Tp Try.prog 29 false 1 24 (.slice none 0 0):=Tp.of (by kernel_rfl)
theorem iy:Tp Try.prog 32 false 1 24 (.slice none 0 0):=Tp.of (by kernel_rfl)
theorem uB:Try.f23.body.isNone=false:=rfl
theorem ug:(Try.f23.name== "runtime.NumGoroutine")=false:=by decide+kernel
theorem uz:Try.f46.body.isNone=false:=rfl
theorem uu:(Try.f46.name== "runtime.NumGoroutine")=false:=by decide+kernel
theorem mr{J:cx->Prop}{γ γ1 γ2:aF}{w w1 w2:World}(h:bg J γ w γ1 w1)(h':bg J γ1 w1 γ2 w2):bg J γ w γ2 w2:=h.trans h' λ_ _ h=>h.elim id id
theorem rL{J:cx->Prop}{γ γ1:aF}{w w1:World}(h:bg no γ w γ1 w1):bg J γ w γ1 w1:=h.mono λ_ h=>h.elim
theorem dp{a b:Nat}(h:a≠b):Nat.beq a b=false:=by
  cases hb:Nat.beq a b with
  |false=>rfl
  |true=>exact absurd (Nat.eq_of_beq_eq_true hb) h
set_option maxRecDepth 20000 in
set_option maxHeartbeats 1000000 in
theorem r9{γ:aF}{w:World}{q i k j p bb:Nat}{bl lsv u:Value}{c:Vc}{K:fN}{s:Int}{x:List Int}
    (hbx:Bx γ (is q) w bb [bl,vi s])(hK:cL γ i w bl K)(hu:Ow γ (row k (j+1)) (row k (j+1)) w u x)(hc:c.v=u)(hls:Ow γ (is p) (is p) w lsv [c])(hj:gB K s)
    (qi:q≠i)(qk:q≠k)(ki:k≠i)(pq:p≠q)(pi:p≠i)(pk:p≠k):
    Calls Try.prog 23 (List.toArray [vp bb 0,lsv]) w (λee w'=>∃xx:Value×fN×Int×aF,ee= .returned (vt [])/\(bg (jr q i k (j+1)) γ w xx.2.2.2 w'/\Bx xx.2.2.2 (is q) w' bb [xx.1,vi xx.2.2.1]/\cL xx.2.2.2 i w' xx.1 xx.2.1/\gB xx.2.1 xx.2.2.1/\Sl xx.2.2.2 (gv i k (j+1)) w' u x)):=by
  have hjl:=hj.len
  have qi':=dp qi
  have iq':=dp qi.symm
  have qk':=dp qk
  have kq':=dp qk.symm
  have ki':=dp ki
  have ik':=dp ki.symm
  have pq':=dp pq
  have pi':=dp pi
  have pk':=dp pk
  refine aB Try.func23 rfl nq (aa (a8 rfl (ai 0 (ag (av (eu (aa (aa (a8 rfl (mi 0 ?_))))))))))
  refine mv lsv (lx (bh dE rfl hls.flat) (lx (b7 (m:=0) (n:=1) rfl rfl) (ag (ao rfl rfl (aw (aa (av (aa ?_))))))))
  refine tL [false,true,false,false,false] (σ:=Value×fN×Int×aF) (λ⟨b0,b1,b2,gq⟩ f w'=>f 0=vp bb 0/\f 1=lsv/\f 4=vi 0/\bg (jr q i k (j+1)) γ w gq w'/\Bx gq (is q) w' bb [b0,vi b2]/\cL gq i w' b0 b1/\Ow gq (is p) (is p) w' lsv [c]/\gB b1 b2/\Sl gq (gv i k (j+1)) w' u x) ?_ ?_
  ·
   intro mid
   refine c6 γ rfl mE (by kernel_rfl) ?_
   intro w1 ch1
   refine qm lsv (qm (vi 0) ?_)
   replace hu:=hu.cn ch1
   replace hls:=hls.cn ch1
   replace hbx:=hbx.cn ch1
   replace hK:=hK.cn ch1
   refine qx (λw' hw'=>ad (v:=lsv) (i:=0) dE rfl rfl ((qy hls (VcR.consv hc hu.flat.ro VcR.nil)).bel hw') rfl (by omega) (by simp)) (qx (λw' hw'=>bv iy rfl (nD hc (hls.bel hw') rfl)) ?_)
   have len1:=hu.flat.small
   refine qx (λw' hw'=>bh aY rfl (hu.flat.bel hw')) (qm lsv (qm (vi 0) (qx (λw' hw'=>ad (v:=lsv) (i:=0) dE rfl rfl ((qy hls (VcR.consv hc hu.flat.ro VcR.nil)).bel hw') rfl (by omega) (by simp)) (qx (λw' hw'=>bv iy rfl (nD hc (hls.bel hw') rfl)) ?_))))
   have cap1:=Sl.cap hu.flat
   refine qv (vi (dq u:Int)) (λw' hw'=>tY aY rfl (hu.flat.bel hw')) (dZ (v:=vi (min (dq u:Int) ((x.length:Int)+2000))) rfl (λw' hw'=>aX (vals:=[vi (x.length:Int),vi (dq u:Int)]) Try.func46 uz uu rfl) (λw' hw'=>(ox w' (x.length:Int) (dq u:Int) (by omega)).mono λe w2 h2=>⟨h2.1,hw'.trans (h2.2.mono hw'.size)⟩) (qv (vi (min (dq u:Int) ((x.length:Int)+2000))) (λw' hw'=>c9 rfl) (db ?_)))
   intro w2 hc2
   replace hc2:=aN hc2 γ
   replace hu:=hu.cn hc2
   replace hls:=hls.cn hc2
   replace hbx:=hbx.cn hc2
   replace hK:=hK.cn hc2
   have C2:bg (jr q i k (j+1)) γ w γ w2:=mr (rL ch1) (rL hc2)
   have hleft:Sl γ (gv i k (j+1)) w2 u x:=hu.flat.mono λc h=>.inr (by unfold row at h;subst h;exact⟨rfl,by omega,Nat.le_refl _⟩)
   refine aa (a8 rfl (mi (min (dq u:Int) ((x.length:Int)+2000)) (lx (ej (m:=min (dq u:Int) ((x.length:Int)+2000)) (n:=0) rfl rfl) (mv (vb (decide (0<(min (dq u:Int) ((x.length:Int)+2000))))) ?_))))
   by_cases c1:0<(min (dq u:Int) ((x.length:Int)+2000))
   ·
    refine lv (vp bb 0) (wy (dt c1)) (au rfl) (lv (vp bb 0) (wy (dt c1)) (ar rfl) (lv (vp bb 1) (wy (dt c1)) (ae n8 rfl rfl rfl rfl) (lv (vi s) (wy (dt c1)) (af nk rfl hbx rfl) (lv (vi (min (dq u:Int) ((x.length:Int)+2000))) (wy (dt c1)) (au rfl) (lv (vi (s+(min (dq u:Int) ((x.length:Int)+2000)))) (wy (dt c1)) (aE (m:=s) (n:=min (dq u:Int) ((x.length:Int)+2000)) rfl rfl (by omega)) ?_)))))
    refine lv (vb (decide ((s+(min (dq u:Int) ((x.length:Int)+2000)))<=1048576))) (wy (dt c1)) (og (m:=s+(min (dq u:Int) ((x.length:Int)+2000))) (n:=1048576) rfl rfl) (lw (vb (decide ((s+(min (dq u:Int) ((x.length:Int)+2000)))<=1048576))) (aZ rfl (dt c1) rfl) (ag ?_))
    by_cases c2:(s+(min (dq u:Int) ((x.length:Int)+2000)))<=1048576
    ·
     refine ao rfl (dt c2) (aa (a8 rfl (mv (vp bb 0) (mv (vp bb 0) (lw (vp bb 0) (ar rfl) (lx (ae n8 rfl rfl rfl rfl) (lx (af nk rfl hbx rfl) (mi (min (dq u:Int) ((x.length:Int)+2000)) (lx (aE (m:=s) (n:=min (dq u:Int) ((x.length:Int)+2000)) rfl rfl (by omega)) ?_)))))))))
     refine lw (vp bb 0) (ar rfl) (lx (ae n8 rfl rfl rfl rfl) (lo (aK (cs':=[bl,vi (s+(min (dq u:Int) ((x.length:Int)+2000)))]) nk rfl rfl hbx rfl nq (AllOne.all (.cons rfl .nil)) rfl ?_)))
     intro w3 ch3 sC
     clear hbx
     have hrq:∀c,row k (j+1) c->¬is q c:=qJ kq'
     replace hu:=hu.chg ch3 hrq hrq
     replace hls:=hls.chg ch3 (eO pq') (eO pq')
     replace hK:=hK.chg ch3 (eO iq')
     refine ag (bj γ [0,1,2,3,4,5,6,7,8,11,12] mE ?_)
     intro w4 ch4
     replace hu:=hu.cn ch4
     replace hls:=hls.cn ch4
     replace hK:=hK.cn ch4
     replace sC:=sC.cn ch4
     refine xp (v:=vp bb 0) 0 rfl (λw=>au rfl) (xp (v:=vp bb 0) 1 rfl (λw=>au rfl) (xp (v:=vp bb 0) 2 rfl (λw=>ar rfl) (xp 3 rfl (λw=>ae n8 rfl rfl rfl rfl) (xh 4 [3,2,1,0,5,6,7,8,9] rfl (λw' hw'=>af o3 rfl (sC.bel hw') rfl) (xp (v:=lsv) 5 rfl (λw=>au rfl) (xp (v:=vi 0) 6 rfl (λw=>au rfl) (xv 7 [6,5,4,3,2,1,0] rfl (ad (v:=lsv) (i:=0) dE rfl rfl (qy hls (VcR.consv hc hu.flat.ro VcR.nil)) rfl (by omega) (by simp)) (xv 8 [7,6,5,4,3,2,1,0] rfl (bv iy rfl (nD hc hls rfl)) (bn 9 rfl (by kernel_rfl) rfl ?_)))))))))
     refine aM (α:=Vc) γ (is p) (is p) (p,0) rfl [c] dE iy (by decide) (by decide) (vs:=[(0,u)]) rfl rfl (.cons (nj hc (cK hu.flat)) .nil) ?_
     intro g5 w5 v5 ch5 o5
     refine bn 10 rfl (by kernel_rfl) rfl ?_
     replace hu:=hu.cn ch5
     replace hls:=hls.cn ch5
     replace hK:=hK.cn ch5
     replace sC:=sC.cn ch5
     refine lT hc (α:=Int) (xss:=K) (i:=i) (γ:=g5) dE iy rfl rfl rfl hK o5.flat hu ki' (by decide) (by omega) ?_
     intro g6 w6 v6 ch6 o6 r6
     refine xp (v:=vp bb 0) 11 rfl (λw=>ar rfl) (xp 12 rfl (λw=>ae n8 rfl rfl rfl rfl) (bn 13 rfl (by kernel_rfl) rfl ?_))
     have hn6:∀{m:Nat},m≠i->m≠k->∀c,is m c->¬(row i 0 c\/row k (j+1) c):=λ {m} h1 h2 c h3 h4=>by
       have e3:c.1=m:=h3
       rcases h4 with h4|h4
       · exact h1 (e3.symm.trans (dL c h4))
       · exact h2 (e3.symm.trans (dL c h4))
     replace sC:=sC.chg ch6 (hn6 qi qk)
     replace hls:=hls.chg ch6 (hn6 pi pk) (hn6 pi pk)
     refine cC (cs':=[v6,vi (s+(min (dq u:Int) ((x.length:Int)+2000)))]) o3 rfl rfl sC (cK o6.sl) nq (cJ o6.sl) rfl ?_
     intro w7 ch7 bx7
     refine bQ (by kernel_rfl) (am ?_)
     refine mid (v6,K++[x],s+(min (dq u:Int) ((x.length:Int)+2000)),g6) _ _ ⟨rfl,rfl,rfl,?_,bx7,o6.chg ch7 (eO iq'),hls.chg ch7 (eO pq') (eO pq'),gB.add hj c1 c2 (by omega),r6.chg ch7 ?_⟩
     · refine mr C2 (mr (ch3.mono λc h=>.inl h) (mr (rL ch4) (mr (rL ch5) (mr (ch6.mono λc h=>?_) (ch7.mono λc h=>.inl h)))))
       rcases h with h|h
       · unfold row at h;subst h;exact .inr (.inl ⟨rfl,rfl⟩)
       · unfold row at h;subst h;exact .inr (.inr ⟨rfl,rfl⟩)
     · intro c h1 h2
       have e2:c.1=q:=h2
       rcases h1 with h1|h1
       · exact qi (e2.symm.trans h1.1)
       · exact qk (e2.symm.trans h1.1)
    refine aj rfl (df c2) (aw (am ?_))
    exact mid (bl,K,s,γ) _ _ ⟨rfl,rfl,rfl,C2,hbx,hK,hls,hj,hleft⟩
   refine ax (wn (df c1)) (ax (wn (df c1)) (ax (wn (df c1)) (ax (wn (df c1)) (ax (wn (df c1)) (ax (wn (df c1)) (ax (wn (df c1)) (lw (vb false) (aV rfl (df c1) rfl) (ag (aj rfl rfl ?_)))))))))
   refine aw (am ?_)
   exact mid (bl,K,s,γ) _ _ ⟨rfl,rfl,rfl,C2,hbx,hK,hls,hj,hleft⟩
  clear hbx hK hu hls hj
  rintro⟨b0,b1,b2,g1⟩ f1 w1 ⟨z0,z1,z4,hch,hbx,hK,hls,hj,hs⟩
  refine a8 rfl (lw (vi 0) (au z4) (lx (aE (m:=0) (n:=1) rfl rfl (by omega)) (ai 1 (ag (bu (aa (aa (a8 rfl (mi 1 ?_)))))))))
  refine lw (lsv) (au z1) (lx (bh dE rfl hls.flat) (lx (b7 (m:=1) (n:=1) rfl rfl) (ag (aj rfl rfl (aC rfl (dc (vs:=[]) Try.func23 .nil ?_))))))
  exact⟨(b0,b1,b2,g1),rfl,hch,hbx,hK,hj,hs⟩
set_option maxRecDepth 20000 in
set_option maxHeartbeats 1000000 in
theorem iI{γ:aF}{w:World}{q i k bb:Nat}{bl l_v:Value}{K:fN}{s:Int}{xss:fN}
    (hbx:Bx γ (is q) w bb [bl,vi s])(hK:cL γ i w bl K)(hl:cL γ k w l_v xss)(hj:gB K s)(hlen:xss.length<=1000000)
    (qi:Nat.beq q i=false)(qk:Nat.beq q k=false)(ki:Nat.beq k i=false):
    Calls Try.prog 29 (List.toArray [vp bb 0,l_v]) w (λee w'=>∃xx:Value×fN×Int×aF,ee= .returned ((λ_=>vt []) xx)/\(λ(xx:Value×fN×Int×aF) (w':World)=>bg (j3 q i k) γ w xx.2.2.2 w'/\Bx xx.2.2.2 (is q) w' bb [xx.1,vi xx.2.2.1]/\cL xx.2.2.2 i w' xx.1 xx.2.1/\gB xx.2.1 xx.2.2.1/\Sl xx.2.2.2 (uW k i) w' l_v xss) xx w'):=by
  obtain⟨us,hg⟩:=ii.start (i:=i) hl
  have qi0:=gh qi
  have qk0:=gh qk
  have ki0:=gh ki
  refine aB Try.func29 rfl nq (aa (a8 rfl (ai 0 (ag (av (aW (σ:=Nat×Value×fN×Int×aF) (λ⟨j,b0,b1,b2,gq⟩ f w'=>f 0=vp bb 0/\f 1=l_v/\f 4=vi ↑j/\j<=xss.length/\bg (j3 q i k) γ w gq w'/\Bx gq (is q) w' bb [b0,vi b2]/\cL gq i w' b0 b1/\gB b1 b2/\ii gq i k j w' l_v us xss) (λ⟨j,_⟩=>xss.length-j) (0,bl,K,s,γ) ⟨rfl,rfl,rfl,Nat.zero_le _,bg.refl _ _ _,hbx,hK,hj,hg⟩ ?_))))))
  clear hbx hK hl hj hg
  rintro⟨j,b0,b1,b2,g1⟩ f1 w1 ⟨z0,z1,z4,hjl,hch,hbx,hK,hj,hg⟩ back
  have hul:=hg.len
  have hsm:=hg.heads.flat.small
  refine aa (aa (a8 rfl (lw (vi ↑j) (au z4) (lw (l_v) (au z1) (lx (bh dE rfl hg.heads.flat) (lx (b7 (m:=↑j) (n:=(us.length:Int)) rfl rfl) (ag ?_)))))))
  by_cases hc:(j:Int)<(us.length:Int)
  ·
   have hjx:j<xss.length:=by omega
   have hju:j<us.length:=by omega
   refine ao rfl (dt hc) (aw (aa (av ?_)))
   have hu:us[j]? =some us[j]:=List.getElem?_eq_getElem hju
   have hx:xss[j]? =some xss[j]:=List.getElem?_eq_getElem hjx
   have hrow:=(hg.rows j _ _ hu hx).2 (by omega)
   refine a8 rfl (lw (vp bb 0) (au z0) (lw (l_v) (au z1) (lw (vi ↑j) (au z4) (lx (ad (v:=l_v) (i:=↑j) dE rfl rfl hg.heads.flat rfl (by omega) (by omega)) (lx (bv iy rfl (jV hg.heads hu)) (lo (aM (α:=Vc) g1 (is (q+i+k+1)) (is (q+i+k+1)) (q+i+k+1,0) rfl [us[j]] dE iy (by decide) (by decide) (vs:=[(0,us[j].v)]) rfl rfl (.cons (nj rfl (cK hrow.flat)) .nil) ?_)))))))
   intro g2 w2 v2 ch2 o2
   refine lo ?_
   have hn0:∀r c,row k r c->¬no c:=λr c _ h=>h
   refine cI (σ:=Value×fN×Int×aF) (V:=λ_=>vt []) (aX (vals:=[vp bb 0,v2]) Try.func23 uB ug rfl) (r9 (q:=q) (i:=i) (k:=k) (j:=j) (p:=q+i+k+1) (hbx.cn ch2) (hK.cn ch2) (hrow.cn ch2) rfl o2 hj qi0 qk0 ki0 (by omega) (by omega) (by omega)) ?_
   rintro⟨b0',b1',b2',g3⟩ w3 ⟨ch3,hbx3,hK3,hj3,hs3⟩
   have hg2:ii g2 i k j w2 l_v us xss:=⟨hg.heads.cn ch2,hg.len,λr u x h1 h2=>⟨λh=>((hg.rows r u x h1 h2).1 h).chg ch2 (λc _ h=>h),λh=>((hg.rows r u x h1 h2).2 h).cn ch2⟩⟩
   have hg3:=hg2.next ch3 (dp qk0.symm) (dp ki0) (dp qi0.symm) hu hx hs3
   refine ag (am (a8 rfl (lw (vi ↑j) (au z4) (lx (aE (m:=↑j) (n:=1) rfl rfl (by omega)) (ai ((j:Int)+1) (ag (back (j+1,b0',b1',b2',g3) _ _ ⟨z0,z1,rfl,by omega,mr hch (mr (rL ch2) (ch3.mono vr)),hbx3,hK3,hj3,hg3⟩ ?_)))))))
   show xss.length-(j+1)<xss.length-j
   omega
  refine aj rfl (df hc) (aC rfl (dc (vs:=[]) Try.func29 .nil ?_))
  exact⟨(b0,b1,b2,g1),rfl,hch,hbx,hK,hj,hg.done (by omega)⟩
end TL
