/-
  TlKeepA: the lists of a list kept, one by one, while the list itself stays readable.
  By an AI agent.
-/
import Derived.Test.YtgneelmmomohdaaSaTlP5
import Derived.Test.YtgneelmmomohdaaProg
import Derived.Test.YtgneelmmomohdaaSaTlAli
import Derived.Test.YtgneelmmomohdaaSaTlErD
set_option linter.all false
namespace TL
open Go Go.Proofs
theorem rE:Try.prog.follows .mixedOrders=true:=by kernel_rfl
theorem tq:Tp Try.prog 3 false 1 8 (.int .i64 0):=Tp.of (by kernel_rfl)
theorem tR:Tp Try.prog 33 false 1 24 (.slice none 0 0):=Tp.of (by kernel_rfl)
theorem jX:Tp Try.prog 48 false 1 24 (.slice none 0 0):=Tp.of (by kernel_rfl)
theorem BI:Try.f45.body.isNone=false:=rfl
theorem C9:(Try.f45.name== "runtime.NumGoroutine")=false:=by decide+kernel
theorem C7:Try.f47.body.isNone=false:=rfl
theorem BA:(Try.f47.name== "runtime.NumGoroutine")=false:=by decide+kernel
theorem qB{J:cH->Prop}{γ γ1 γ2:aG}{w w1 w2:World}(h:bD J γ w γ1 w1)(h':bD J γ1 w1 γ2 w2):bD J γ w γ2 w2:=h.trans h' λ_ _ h=>h.elim id id
theorem yp{J:cH->Prop}{γ γ1:aG}{w w1:World}(h:bD no γ w γ1 w1):bD J γ w γ1 w1:=h.mono λ_ h=>h.elim
theorem dS{a b:Nat}(h:a≠b):Nat.beq a b=false:=by
  cases hb:Nat.beq a b with
  |false=>rfl
  |true=>exact absurd (Nat.eq_of_beq_eq_true hb) h
set_option maxRecDepth 20000 in
set_option maxHeartbeats 1000000 in
theorem xf{γ:aG}{w:World}{q i k j p bb:Nat}{bl lsv u:Value}{c:Vc}{K:fG}{s:Int}{x:List Int}
    (hbx:Bx γ (is q) w bb [bl,vi s])(hK:cY γ i w bl K)(hu:Ow γ (row k (j+1)) (row k (j+1)) w u x)(hc:c.v=u)(hls:Ow γ (is p) (is p) w lsv [c])(hj:iB K s)
    (qi:q≠i)(qk:q≠k)(ki:k≠i)(pq:p≠q)(pi:p≠i)(pk:p≠k):
    Calls Try.prog 45 (List.toArray [vp bb 0,lsv]) w (λee w'=>∃xx:Value×fG×Int×aG,ee= .returned (vt [])/\(bD (jr q i k (j+1)) γ w xx.2.2.2 w'/\Bx xx.2.2.2 (is q) w' bb [xx.1,vi xx.2.2.1]/\cY xx.2.2.2 i w' xx.1 xx.2.1/\iB xx.2.1 xx.2.2.1/\Sl xx.2.2.2 (gv i k (j+1)) w' u x)):=by
  have hjl:=hj.len
  have qi':=dS qi
  have iq':=dS qi.symm
  have qk':=dS qk
  have kq':=dS qk.symm
  have ki':=dS ki
  have ik':=dS ki.symm
  have pq':=dS pq
  have pi':=dS pi
  have pk':=dS pk
  refine av Try.func45 rfl nq (aa (a8 rfl (ai 0 (ab (ao (fO (aa (aa (a8 rfl (mi 0 ?_))))))))))
  refine mv lsv (lx (bq dd rfl hls.flat) (lx (bm (m:=0) (n:=1) rfl rfl) (ab (ah rfl rfl (aq (aa (ao (aa ?_))))))))
  refine jI [false,true,false,false,false] (σ:=Value×fG×Int×aG) (λ⟨b0,b1,b2,gq⟩ f w'=>f 0=vp bb 0/\f 1=lsv/\f 4=vi 0/\bD (jr q i k (j+1)) γ w gq w'/\Bx gq (is q) w' bb [b0,vi b2]/\cY gq i w' b0 b1/\Ow gq (is p) (is p) w' lsv [c]/\iB b1 b2/\Sl gq (gv i k (j+1)) w' u x) ?_ ?_
  ·
   intro mid
   refine dl γ rfl rE (by kernel_rfl) ?_
   intro w1 ch1
   refine qm lsv (qm (vi 0) ?_)
   replace hu:=hu.cn ch1
   replace hls:=hls.cn ch1
   replace hbx:=hbx.cn ch1
   replace hK:=hK.cn ch1
   refine qx (λw' hw'=>ad (v:=lsv) (i:=0) dd rfl rfl ((yz hls (VcR.consv hc hu.flat.ro VcR.nil)).bel hw') rfl (by omega) (by simp)) (qx (λw' hw'=>bF jX rfl (sY hc (hls.bel hw') rfl)) ?_)
   have len1:=hu.flat.small
   refine qx (λw' hw'=>bq bv rfl (hu.flat.bel hw')) (qm lsv (qm (vi 0) (qx (λw' hw'=>ad (v:=lsv) (i:=0) dd rfl rfl ((yz hls (VcR.consv hc hu.flat.ro VcR.nil)).bel hw') rfl (by omega) (by simp)) (qx (λw' hw'=>bF jX rfl (sY hc (hls.bel hw') rfl)) ?_))))
   have cap1:=Sl.cap hu.flat
   refine qv (vi (dT u:Int)) (λw' hw'=>Bk bv rfl (hu.flat.bel hw')) (kW (v:=vi (min (dT u:Int) ((x.length:Int)+2000))) rfl (λw' hw'=>aN (vals:=[vi (x.length:Int),vi (dT u:Int)]) Try.func47 C7 BA rfl) (λw' hw'=>(uj w' (x.length:Int) (dT u:Int) (by omega)).mono λe w2 h2=>⟨h2.1,hw'.trans (h2.2.mono hw'.size)⟩) (qv (vi (min (dT u:Int) ((x.length:Int)+2000))) (λw' hw'=>cE rfl) (f4 ?_)))
   intro w2 hc2
   replace hc2:=aS hc2 γ
   replace hu:=hu.cn hc2
   replace hls:=hls.cn hc2
   replace hbx:=hbx.cn hc2
   replace hK:=hK.cn hc2
   have C2:bD (jr q i k (j+1)) γ w γ w2:=qB (yp ch1) (yp hc2)
   have hleft:Sl γ (gv i k (j+1)) w2 u x:=hu.flat.mono λc h=>.inr (by unfold row at h;subst h;exact⟨rfl,by omega,Nat.le_refl _⟩)
   refine aa (a8 rfl (mi (min (dT u:Int) ((x.length:Int)+2000)) (lx (eu (m:=min (dT u:Int) ((x.length:Int)+2000)) (n:=0) rfl rfl) (mv (vb (decide (0<(min (dT u:Int) ((x.length:Int)+2000))))) ?_))))
   by_cases c1:0<(min (dT u:Int) ((x.length:Int)+2000))
   ·
    refine lv (vp bb 0) (wy (dt c1)) (au rfl) (lv (vp bb 0) (wy (dt c1)) (aw rfl) (lv (vp bb 1) (wy (dt c1)) (af sr rfl rfl rfl rfl) (lv (vi s) (wy (dt c1)) (ae tq rfl hbx rfl) (lv (vi (min (dT u:Int) ((x.length:Int)+2000))) (wy (dt c1)) (au rfl) (lv (vi (s+(min (dT u:Int) ((x.length:Int)+2000)))) (wy (dt c1)) (aI (m:=s) (n:=min (dT u:Int) ((x.length:Int)+2000)) rfl rfl (by omega)) ?_)))))
    refine lv (vb (decide ((s+(min (dT u:Int) ((x.length:Int)+2000)))<=1048576))) (wy (dt c1)) (qL (m:=s+(min (dT u:Int) ((x.length:Int)+2000))) (n:=1048576) rfl rfl) (lw (vb (decide ((s+(min (dT u:Int) ((x.length:Int)+2000)))<=1048576))) (aO rfl (dt c1) rfl) (ab ?_))
    by_cases c2:(s+(min (dT u:Int) ((x.length:Int)+2000)))<=1048576
    ·
     refine ah rfl (dt c2) (aa (a8 rfl (mv (vp bb 0) (mv (vp bb 0) (lw (vp bb 0) (aw rfl) (lx (af sr rfl rfl rfl rfl) (lx (ae tq rfl hbx rfl) (mi (min (dT u:Int) ((x.length:Int)+2000)) (lx (aI (m:=s) (n:=min (dT u:Int) ((x.length:Int)+2000)) rfl rfl (by omega)) ?_)))))))))
     refine lw (vp bb 0) (aw rfl) (lx (af sr rfl rfl rfl rfl) (lo (aT (cs':=[bl,vi (s+(min (dT u:Int) ((x.length:Int)+2000)))]) tq rfl rfl hbx rfl nq (AllOne.all (.cons rfl .nil)) rfl ?_)))
     intro w3 ch3 AJ
     clear hbx
     have hrq:∀c,row k (j+1) c->¬is q c:=y5 kq'
     replace hu:=hu.chg ch3 hrq hrq
     replace hls:=hls.chg ch3 (eZ pq') (eZ pq')
     replace hK:=hK.chg ch3 (eZ iq')
     refine ab (bV γ [0,1,2,3,4,5,6,7,8,11,12] rE ?_)
     intro w4 ch4
     replace hu:=hu.cn ch4
     replace hls:=hls.cn ch4
     replace hK:=hK.cn ch4
     replace AJ:=AJ.cn ch4
     refine xp (v:=vp bb 0) 0 rfl (λw=>au rfl) (xp (v:=vp bb 0) 1 rfl (λw=>au rfl) (xp (v:=vp bb 0) 2 rfl (λw=>aw rfl) (xp 3 rfl (λw=>af sr rfl rfl rfl rfl) (xh 4 [3,2,1,0,5,6,7,8,9] rfl (λw' hw'=>ae tR rfl (AJ.bel hw') rfl) (xp (v:=lsv) 5 rfl (λw=>au rfl) (xp (v:=vi 0) 6 rfl (λw=>au rfl) (xv 7 [6,5,4,3,2,1,0] rfl (ad (v:=lsv) (i:=0) dd rfl rfl (yz hls (VcR.consv hc hu.flat.ro VcR.nil)) rfl (by omega) (by simp)) (xv 8 [7,6,5,4,3,2,1,0] rfl (bF jX rfl (sY hc hls rfl)) (bB 9 rfl (by kernel_rfl) rfl ?_)))))))))
     refine aC (α:=Vc) γ (is p) (is p) (p,0) rfl [c] dd jX (by decide) (by decide) (vs:=[(0,u)]) rfl rfl (.cons (iR hc (c5 hu.flat)) .nil) ?_
     intro g5 w5 v5 ch5 o5
     refine bB 10 rfl (by kernel_rfl) rfl ?_
     replace hu:=hu.cn ch5
     replace hls:=hls.cn ch5
     replace hK:=hK.cn ch5
     replace AJ:=AJ.cn ch5
     refine pS hc (α:=Int) (xss:=K) (i:=i) (γ:=g5) dd jX rfl rfl rfl hK o5.flat hu ki' (by decide) (by omega) ?_
     intro g6 w6 v6 ch6 o6 r6
     refine xp (v:=vp bb 0) 11 rfl (λw=>aw rfl) (xp 12 rfl (λw=>af sr rfl rfl rfl rfl) (bB 13 rfl (by kernel_rfl) rfl ?_))
     have hn6:∀{m:Nat},m≠i->m≠k->∀c,is m c->¬(row i 0 c\/row k (j+1) c):=λ {m} h1 h2 c h3 h4=>by
       have e3:c.1=m:=h3
       rcases h4 with h4|h4
       · exact h1 (e3.symm.trans (eo c h4))
       · exact h2 (e3.symm.trans (eo c h4))
     replace AJ:=AJ.chg ch6 (hn6 qi qk)
     replace hls:=hls.chg ch6 (hn6 pi pk) (hn6 pi pk)
     refine c8 (cs':=[v6,vi (s+(min (dT u:Int) ((x.length:Int)+2000)))]) tR rfl rfl AJ (c5 o6.sl) nq (bK o6.sl) rfl ?_
     intro w7 ch7 bx7
     refine cA (by kernel_rfl) (am ?_)
     refine mid (v6,K++[x],s+(min (dT u:Int) ((x.length:Int)+2000)),g6) _ _ ⟨rfl,rfl,rfl,?_,bx7,o6.chg ch7 (eZ iq'),hls.chg ch7 (eZ pq') (eZ pq'),iB.add hj c1 c2 (by omega),r6.chg ch7 ?_⟩
     · refine qB C2 (qB (ch3.mono λc h=>.inl h) (qB (yp ch4) (qB (yp ch5) (qB (ch6.mono λc h=>?_) (ch7.mono λc h=>.inl h)))))
       rcases h with h|h
       · unfold row at h;subst h;exact .inr (.inl ⟨rfl,rfl⟩)
       · unfold row at h;subst h;exact .inr (.inr ⟨rfl,rfl⟩)
     · intro c h1 h2
       have e2:c.1=q:=h2
       rcases h1 with h1|h1
       · exact qi (e2.symm.trans h1.1)
       · exact qk (e2.symm.trans h1.1)
    refine ag rfl (df c2) (aq (am ?_))
    exact mid (bl,K,s,γ) _ _ ⟨rfl,rfl,rfl,C2,hbx,hK,hls,hj,hleft⟩
   refine ak (wn (df c1)) (ak (wn (df c1)) (ak (wn (df c1)) (ak (wn (df c1)) (ak (wn (df c1)) (ak (wn (df c1)) (ak (wn (df c1)) (lw (vb false) (aP rfl (df c1) rfl) (ab (ag rfl rfl ?_)))))))))
   refine aq (am ?_)
   exact mid (bl,K,s,γ) _ _ ⟨rfl,rfl,rfl,C2,hbx,hK,hls,hj,hleft⟩
  clear hbx hK hu hls hj
  rintro⟨b0,b1,b2,g1⟩ f1 w1 ⟨z0,z1,z4,hch,hbx,hK,hls,hj,hs⟩
  refine a8 rfl (lw (vi 0) (au z4) (lx (aI (m:=0) (n:=1) rfl rfl (by omega)) (ai 1 (ab (cj (aa (aa (a8 rfl (mi 1 ?_)))))))))
  refine lw (lsv) (au z1) (lx (bq dd rfl hls.flat) (lx (bm (m:=1) (n:=1) rfl rfl) (ab (ag rfl rfl (aH rfl (cM (vs:=[]) Try.func45 .nil ?_))))))
  exact⟨(b0,b1,b2,g1),rfl,hch,hbx,hK,hj,hs⟩
set_option maxRecDepth 20000 in
set_option maxHeartbeats 1000000 in
theorem kr{γ:aG}{w:World}{q i k bb:Nat}{bl l_v:Value}{K:fG}{s:Int}{xss:fG}
    (hbx:Bx γ (is q) w bb [bl,vi s])(hK:cY γ i w bl K)(hl:cY γ k w l_v xss)(hj:iB K s)(hlen:xss.length<=1000000)
    (qi:Nat.beq q i=false)(qk:Nat.beq q k=false)(ki:Nat.beq k i=false):
    Calls Try.prog 21 (List.toArray [vp bb 0,l_v]) w (λee w'=>∃xx:Value×fG×Int×aG,ee= .returned ((λ_=>vt []) xx)/\(λ(xx:Value×fG×Int×aG) (w':World)=>bD (j3 q i k) γ w xx.2.2.2 w'/\Bx xx.2.2.2 (is q) w' bb [xx.1,vi xx.2.2.1]/\cY xx.2.2.2 i w' xx.1 xx.2.1/\iB xx.2.1 xx.2.2.1/\Sl xx.2.2.2 (CP k i) w' l_v xss) xx w'):=by
  obtain⟨us,hg⟩:=jS.start (i:=i) hl
  have qi0:=ke qi
  have qk0:=ke qk
  have ki0:=ke ki
  refine av Try.func21 rfl nq (aa (a8 rfl (ai 0 (ab (ao (aY (σ:=Nat×Value×fG×Int×aG) (λ⟨j,b0,b1,b2,gq⟩ f w'=>f 0=vp bb 0/\f 1=l_v/\f 4=vi ↑j/\j<=xss.length/\bD (j3 q i k) γ w gq w'/\Bx gq (is q) w' bb [b0,vi b2]/\cY gq i w' b0 b1/\iB b1 b2/\jS gq i k j w' l_v us xss) (λ⟨j,_⟩=>xss.length-j) (0,bl,K,s,γ) ⟨rfl,rfl,rfl,Nat.zero_le _,bD.refl _ _ _,hbx,hK,hj,hg⟩ ?_))))))
  clear hbx hK hl hj hg
  rintro⟨j,b0,b1,b2,g1⟩ f1 w1 ⟨z0,z1,z4,hjl,hch,hbx,hK,hj,hg⟩ back
  have hul:=hg.len
  have hsm:=hg.heads.flat.small
  refine aa (aa (a8 rfl (lw (vi ↑j) (au z4) (lw (l_v) (au z1) (lx (bq dd rfl hg.heads.flat) (lx (bm (m:=↑j) (n:=(us.length:Int)) rfl rfl) (ab ?_)))))))
  by_cases hc:(j:Int)<(us.length:Int)
  ·
   have hjx:j<xss.length:=by omega
   have hju:j<us.length:=by omega
   refine ah rfl (dt hc) (aq (aa (ao ?_)))
   have hu:us[j]? =some us[j]:=List.getElem?_eq_getElem hju
   have hx:xss[j]? =some xss[j]:=List.getElem?_eq_getElem hjx
   have hrow:=(hg.rows j _ _ hu hx).2 (by omega)
   refine a8 rfl (lw (vp bb 0) (au z0) (lw (l_v) (au z1) (lw (vi ↑j) (au z4) (lx (ad (v:=l_v) (i:=↑j) dd rfl rfl hg.heads.flat rfl (by omega) (by omega)) (lx (bF jX rfl (nV hg.heads hu)) (lo (aC (α:=Vc) g1 (is (q+i+k+1)) (is (q+i+k+1)) (q+i+k+1,0) rfl [us[j]] dd jX (by decide) (by decide) (vs:=[(0,us[j].v)]) rfl rfl (.cons (iR rfl (c5 hrow.flat)) .nil) ?_)))))))
   intro g2 w2 v2 ch2 o2
   refine lo ?_
   have hn0:∀r c,row k r c->¬no c:=λr c _ h=>h
   refine bQ (σ:=Value×fG×Int×aG) (V:=λ_=>vt []) (aN (vals:=[vp bb 0,v2]) Try.func45 BI C9 rfl) (xf (q:=q) (i:=i) (k:=k) (j:=j) (p:=q+i+k+1) (hbx.cn ch2) (hK.cn ch2) (hrow.cn ch2) rfl o2 hj qi0 qk0 ki0 (by omega) (by omega) (by omega)) ?_
   rintro⟨b0',b1',b2',g3⟩ w3 ⟨ch3,hbx3,hK3,hj3,hs3⟩
   have hg2:jS g2 i k j w2 l_v us xss:=⟨hg.heads.cn ch2,hg.len,λr u x h1 h2=>⟨λh=>((hg.rows r u x h1 h2).1 h).chg ch2 (λc _ h=>h),λh=>((hg.rows r u x h1 h2).2 h).cn ch2⟩⟩
   have hg3:=hg2.next ch3 (dS qk0.symm) (dS ki0) (dS qi0.symm) hu hx hs3
   refine ab (am (a8 rfl (lw (vi ↑j) (au z4) (lx (aI (m:=↑j) (n:=1) rfl rfl (by omega)) (ai ((j:Int)+1) (ab (back (j+1,b0',b1',b2',g3) _ _ ⟨z0,z1,rfl,by omega,qB hch (qB (yp ch2) (ch3.mono CQ)),hbx3,hK3,hj3,hg3⟩ ?_)))))))
   show xss.length-(j+1)<xss.length-j
   omega
  refine ag rfl (df hc) (aH rfl (cM (vs:=[]) Try.func21 .nil ?_))
  exact⟨(b0,b1,b2,g1),rfl,hch,hbx,hK,hj,hg.done (by omega)⟩
end TL
