/-
  TlKeepA: the lists of a list kept, one by one, while the list itself stays readable.
  By an AI agent.
-/
import Derived.Test.YtbadiajeohbpcaaGreatTlP3
import Derived.Test.YtbadiajeohbpcaaGreatProg
import Derived.Test.YtbadiajeohbpcaaGreatTlAli
import Derived.Test.YtbadiajeohbpcaaGreatTlGenR
set_option linter.all false
namespace TL
open Go Go.Proofs
theorem gc:Tryz.prog.follows .mixedOrders=true:=by kernel_rfl
theorem qw:Tp Tryz.prog 3 false 1 8 (.int .i64 0):=Tp.of (by kernel_rfl)
theorem r7:Tp Tryz.prog 29 false 1 24 (.slice none 0 0):=Tp.of (by kernel_rfl)
theorem jq:Tp Tryz.prog 70 false 1 24 (.slice none 0 0):=Tp.of (by kernel_rfl)
theorem zZ:Tryz.f38.body.isNone=false:=rfl
theorem zQ:(Tryz.f38.name== "runtime.NumGoroutine")=false:=by decide+kernel
theorem zj:Tryz.f56.body.isNone=false:=rfl
theorem zp:(Tryz.f56.name== "runtime.NumGoroutine")=false:=by decide+kernel
theorem pG{J:cx->Prop}{γ γ1 γ2:aK}{w w1 w2:World}(h:bj J γ w γ1 w1)(h':bj J γ1 w1 γ2 w2):bj J γ w γ2 w2:=h.trans h' λ_ _ h=>h.elim id id
theorem uI{J:cx->Prop}{γ γ1:aK}{w w1:World}(h:bj no γ w γ1 w1):bj J γ w γ1 w1:=h.mono λ_ h=>h.elim
theorem du{a b:Nat}(h:a≠b):Nat.beq a b=false:=by
  cases hb:Nat.beq a b with
  |false=>rfl
  |true=>exact absurd (Nat.eq_of_beq_eq_true hb) h
set_option maxRecDepth 20000 in
set_option maxHeartbeats 1000000 in
theorem uJ{γ:aK}{w:World}{q i k j p bb:Nat}{bl lsv u:Value}{c:Vc}{K:cT}{s:Int}{x:List Int}
    (hbx:Bx γ (is q) w bb [bl,vi s])(hK:dr γ i w bl K)(hu:Ow γ (row k (j+1)) (row k (j+1)) w u x)(hc:c.v=u)(hls:Ow γ (is p) (is p) w lsv [c])(hj:gm K s)
    (qi:q≠i)(qk:q≠k)(ki:k≠i)(pq:p≠q)(pi:p≠i)(pk:p≠k):
    Calls Tryz.prog 38 (List.toArray [vp bb 0,lsv]) w (λee w'=>∃xx:Value×cT×Int×aK,ee= .returned (vt [])/\(bj (jr q i k (j+1)) γ w xx.2.2.2 w'/\Bx xx.2.2.2 (is q) w' bb [xx.1,vi xx.2.2.1]/\dr xx.2.2.2 i w' xx.1 xx.2.1/\gm xx.2.1 xx.2.2.1/\Sl xx.2.2.2 (gv i k (j+1)) w' u x)):=by
  have hjl:=hj.len
  have qi':=du qi
  have iq':=du qi.symm
  have qk':=du qk
  have kq':=du qk.symm
  have ki':=du ki
  have ik':=du ki.symm
  have pq':=du pq
  have pi':=du pi
  have pk':=du pk
  refine au Tryz.func38 rfl nq (a7 (a6 rfl (ai 0 (aa (am (fX (a7 (a7 (a6 rfl (mi 0 ?_))))))))))
  refine mv lsv (lx (aQ gM rfl hls.flat) (lx (aZ (m:=0) (n:=1) rfl rfl) (aa (af rfl rfl (ak (a7 (am (a7 ?_))))))))
  refine j0 [false,true,false,false,false] (σ:=Value×cT×Int×aK) (λ⟨b0,b1,b2,gq⟩ f w'=>f 0=vp bb 0/\f 1=lsv/\f 4=vi 0/\bj (jr q i k (j+1)) γ w gq w'/\Bx gq (is q) w' bb [b0,vi b2]/\dr gq i w' b0 b1/\Ow gq (is p) (is p) w' lsv [c]/\gm b1 b2/\Sl gq (gv i k (j+1)) w' u x) ?_ ?_
  ·
   intro mid
   refine bz γ rfl gc (by kernel_rfl) ?_
   intro w1 ch1
   refine qm lsv (qm (vi 0) ?_)
   replace hu:=hu.cn ch1
   replace hls:=hls.cn ch1
   replace hbx:=hbx.cn ch1
   replace hK:=hK.cn ch1
   refine qx (λw' hw'=>ad (v:=lsv) (i:=0) gM rfl rfl ((iE hls (VcR.consv hc hu.flat.ro VcR.nil)).bel hw') rfl (by omega) (by simp)) (qx (λw' hw'=>ba jq rfl (qA hc (hls.bel hw') rfl)) ?_)
   have len1:=hu.flat.small
   refine qx (λw' hw'=>aQ cS rfl (hu.flat.bel hw')) (qm lsv (qm (vi 0) (qx (λw' hw'=>ad (v:=lsv) (i:=0) gM rfl rfl ((iE hls (VcR.consv hc hu.flat.ro VcR.nil)).bel hw') rfl (by omega) (by simp)) (qx (λw' hw'=>ba jq rfl (qA hc (hls.bel hw') rfl)) ?_))))
   have cap1:=Sl.cap hu.flat
   refine qv (vi (dv u:Int)) (λw' hw'=>yS cS rfl (hu.flat.bel hw')) (cl (v:=vi (min (dv u:Int) ((x.length:Int)+2000))) rfl (λw' hw'=>aA (vals:=[vi (x.length:Int),vi (dv u:Int)]) Tryz.func56 zj zp rfl) (λw' hw'=>(rr w' (x.length:Int) (dv u:Int) (by omega)).mono λe w2 h2=>⟨h2.1,hw'.trans (h2.2.mono hw'.size)⟩) (qv (vi (min (dv u:Int) ((x.length:Int)+2000))) (λw' hw'=>br rfl) (bN ?_)))
   intro w2 hc2
   replace hc2:=ao hc2 γ
   replace hu:=hu.cn hc2
   replace hls:=hls.cn hc2
   replace hbx:=hbx.cn hc2
   replace hK:=hK.cn hc2
   have C2:bj (jr q i k (j+1)) γ w γ w2:=pG (uI ch1) (uI hc2)
   have hleft:Sl γ (gv i k (j+1)) w2 u x:=hu.flat.mono λc h=>.inr (by unfold row at h;subst h;exact⟨rfl,by omega,Nat.le_refl _⟩)
   refine a7 (a6 rfl (mi (min (dv u:Int) ((x.length:Int)+2000)) (lx (d8 (m:=min (dv u:Int) ((x.length:Int)+2000)) (n:=0) rfl rfl) (mv (vb (decide (0<(min (dv u:Int) ((x.length:Int)+2000))))) ?_))))
   by_cases c1:0<(min (dv u:Int) ((x.length:Int)+2000))
   ·
    refine lv (vp bb 0) (wy (dt c1)) (aq rfl) (lv (vp bb 0) (wy (dt c1)) (aI rfl) (lv (vp bb 1) (wy (dt c1)) (a8 pK rfl rfl rfl rfl) (lv (vi s) (wy (dt c1)) (ab qw rfl hbx rfl) (lv (vi (min (dv u:Int) ((x.length:Int)+2000))) (wy (dt c1)) (aq rfl) (lv (vi (s+(min (dv u:Int) ((x.length:Int)+2000)))) (wy (dt c1)) (aM (m:=s) (n:=min (dv u:Int) ((x.length:Int)+2000)) rfl rfl (by omega)) ?_)))))
    refine lv (vb (decide ((s+(min (dv u:Int) ((x.length:Int)+2000)))<=1048576))) (wy (dt c1)) (gB (m:=s+(min (dv u:Int) ((x.length:Int)+2000))) (n:=1048576) rfl rfl) (lw (vb (decide ((s+(min (dv u:Int) ((x.length:Int)+2000)))<=1048576))) (aD rfl (dt c1) rfl) (aa ?_))
    by_cases c2:(s+(min (dv u:Int) ((x.length:Int)+2000)))<=1048576
    ·
     refine af rfl (dt c2) (a7 (a6 rfl (mv (vp bb 0) (mv (vp bb 0) (lw (vp bb 0) (aI rfl) (lx (a8 pK rfl rfl rfl rfl) (lx (ab qw rfl hbx rfl) (mi (min (dv u:Int) ((x.length:Int)+2000)) (lx (aM (m:=s) (n:=min (dv u:Int) ((x.length:Int)+2000)) rfl rfl (by omega)) ?_)))))))))
     refine lw (vp bb 0) (aI rfl) (lx (a8 pK rfl rfl rfl rfl) (lo (aw (cs':=[bl,vi (s+(min (dv u:Int) ((x.length:Int)+2000)))]) qw rfl rfl hbx rfl nq (AllOne.all (.cons rfl .nil)) rfl ?_)))
     intro w3 ch3 vZ
     clear hbx
     have hrq:∀c,row k (j+1) c->¬is q c:=kI kq'
     replace hu:=hu.chg ch3 hrq hrq
     replace hls:=hls.chg ch3 (dT pq') (dT pq')
     replace hK:=hK.chg ch3 (dT iq')
     refine aa (c6 γ [0,1,2,3,4,5,6,7,8,11,12] gc ?_)
     intro w4 ch4
     replace hu:=hu.cn ch4
     replace hls:=hls.cn ch4
     replace hK:=hK.cn ch4
     replace vZ:=vZ.cn ch4
     refine xp (v:=vp bb 0) 0 rfl (λw=>aq rfl) (xp (v:=vp bb 0) 1 rfl (λw=>aq rfl) (xp (v:=vp bb 0) 2 rfl (λw=>aI rfl) (xp 3 rfl (λw=>a8 pK rfl rfl rfl rfl) (xh 4 [3,2,1,0,5,6,7,8,9] rfl (λw' hw'=>ab r7 rfl (vZ.bel hw') rfl) (xp (v:=lsv) 5 rfl (λw=>aq rfl) (xp (v:=vi 0) 6 rfl (λw=>aq rfl) (xv 7 [6,5,4,3,2,1,0] rfl (ad (v:=lsv) (i:=0) gM rfl rfl (iE hls (VcR.consv hc hu.flat.ro VcR.nil)) rfl (by omega) (by simp)) (xv 8 [7,6,5,4,3,2,1,0] rfl (ba jq rfl (qA hc hls rfl)) (ct 9 rfl (by kernel_rfl) rfl ?_)))))))))
     refine aG (α:=Vc) γ (is p) (is p) (p,0) rfl [c] gM jq (by decide) (by decide) (vs:=[(0,u)]) rfl rfl (.cons (iC hc (bK hu.flat)) .nil) ?_
     intro g5 w5 v5 ch5 o5
     refine ct 10 rfl (by kernel_rfl) rfl ?_
     replace hu:=hu.cn ch5
     replace hls:=hls.cn ch5
     replace hK:=hK.cn ch5
     replace vZ:=vZ.cn ch5
     refine nl hc (α:=Int) (xss:=K) (i:=i) (γ:=g5) gM jq rfl rfl rfl hK o5.flat hu ki' (by decide) (by omega) ?_
     intro g6 w6 v6 ch6 o6 r6
     refine xp (v:=vp bb 0) 11 rfl (λw=>aI rfl) (xp 12 rfl (λw=>a8 pK rfl rfl rfl rfl) (ct 13 rfl (by kernel_rfl) rfl ?_))
     have hn6:∀{m:Nat},m≠i->m≠k->∀c,is m c->¬(row i 0 c\/row k (j+1) c):=λ {m} h1 h2 c h3 h4=>by
       have e3:c.1=m:=h3
       rcases h4 with h4|h4
       · exact h1 (e3.symm.trans (dd c h4))
       · exact h2 (e3.symm.trans (dd c h4))
     replace vZ:=vZ.chg ch6 (hn6 qi qk)
     replace hls:=hls.chg ch6 (hn6 pi pk) (hn6 pi pk)
     refine bQ (cs':=[v6,vi (s+(min (dv u:Int) ((x.length:Int)+2000)))]) r7 rfl rfl vZ (bK o6.sl) nq (bu o6.sl) rfl ?_
     intro w7 ch7 bx7
     refine ec (by kernel_rfl) (al ?_)
     refine mid (v6,K++[x],s+(min (dv u:Int) ((x.length:Int)+2000)),g6) _ _ ⟨rfl,rfl,rfl,?_,bx7,o6.chg ch7 (dT iq'),hls.chg ch7 (dT pq') (dT pq'),gm.add hj c1 c2 (by omega),r6.chg ch7 ?_⟩
     · refine pG C2 (pG (ch3.mono λc h=>.inl h) (pG (uI ch4) (pG (uI ch5) (pG (ch6.mono λc h=>?_) (ch7.mono λc h=>.inl h)))))
       rcases h with h|h
       · unfold row at h;subst h;exact .inr (.inl ⟨rfl,rfl⟩)
       · unfold row at h;subst h;exact .inr (.inr ⟨rfl,rfl⟩)
     · intro c h1 h2
       have e2:c.1=q:=h2
       rcases h1 with h1|h1
       · exact qi (e2.symm.trans h1.1)
       · exact qk (e2.symm.trans h1.1)
    refine ag rfl (df c2) (ak (al ?_))
    exact mid (bl,K,s,γ) _ _ ⟨rfl,rfl,rfl,C2,hbx,hK,hls,hj,hleft⟩
   refine ae (wn (df c1)) (ae (wn (df c1)) (ae (wn (df c1)) (ae (wn (df c1)) (ae (wn (df c1)) (ae (wn (df c1)) (ae (wn (df c1)) (lw (vb false) (aB rfl (df c1) rfl) (aa (ag rfl rfl ?_)))))))))
   refine ak (al ?_)
   exact mid (bl,K,s,γ) _ _ ⟨rfl,rfl,rfl,C2,hbx,hK,hls,hj,hleft⟩
  clear hbx hK hu hls hj
  rintro⟨b0,b1,b2,g1⟩ f1 w1 ⟨z0,z1,z4,hch,hbx,hK,hls,hj,hs⟩
  refine a6 rfl (lw (vi 0) (aq z4) (lx (aM (m:=0) (n:=1) rfl rfl (by omega)) (ai 1 (aa (cM (a7 (a7 (a6 rfl (mi 1 ?_)))))))))
  refine lw (lsv) (aq z1) (lx (aQ gM rfl hls.flat) (lx (aZ (m:=1) (n:=1) rfl rfl) (aa (ag rfl rfl (aJ rfl (cL (vs:=[]) Tryz.func38 .nil ?_))))))
  exact⟨(b0,b1,b2,g1),rfl,hch,hbx,hK,hj,hs⟩
set_option maxRecDepth 20000 in
set_option maxHeartbeats 1000000 in
theorem nj{γ:aK}{w:World}{q i k bb:Nat}{bl l_v:Value}{K:cT}{s:Int}{xss:cT}
    (hbx:Bx γ (is q) w bb [bl,vi s])(hK:dr γ i w bl K)(hl:dr γ k w l_v xss)(hj:gm K s)(hlen:xss.length<=1000000)
    (qi:Nat.beq q i=false)(qk:Nat.beq q k=false)(ki:Nat.beq k i=false):
    Calls Tryz.prog 12 (List.toArray [vp bb 0,l_v]) w (λee w'=>∃xx:Value×cT×Int×aK,ee= .returned ((λ_=>vt []) xx)/\(λ(xx:Value×cT×Int×aK) (w':World)=>bj (j3 q i k) γ w xx.2.2.2 w'/\Bx xx.2.2.2 (is q) w' bb [xx.1,vi xx.2.2.1]/\dr xx.2.2.2 i w' xx.1 xx.2.1/\gm xx.2.1 xx.2.2.1/\Sl xx.2.2.2 (AS k i) w' l_v xss) xx w'):=by
  obtain⟨us,hg⟩:=jh.start (i:=i) hl
  have qi0:=js qi
  have qk0:=js qk
  have ki0:=js ki
  refine au Tryz.func12 rfl nq (a7 (a6 rfl (ai 0 (aa (am (aN (σ:=Nat×Value×cT×Int×aK) (λ⟨j,b0,b1,b2,gq⟩ f w'=>f 0=vp bb 0/\f 1=l_v/\f 4=vi ↑j/\j<=xss.length/\bj (j3 q i k) γ w gq w'/\Bx gq (is q) w' bb [b0,vi b2]/\dr gq i w' b0 b1/\gm b1 b2/\jh gq i k j w' l_v us xss) (λ⟨j,_⟩=>xss.length-j) (0,bl,K,s,γ) ⟨rfl,rfl,rfl,Nat.zero_le _,bj.refl _ _ _,hbx,hK,hj,hg⟩ ?_))))))
  clear hbx hK hl hj hg
  rintro⟨j,b0,b1,b2,g1⟩ f1 w1 ⟨z0,z1,z4,hjl,hch,hbx,hK,hj,hg⟩ back
  have hul:=hg.len
  have hsm:=hg.heads.flat.small
  refine a7 (a7 (a6 rfl (lw (vi ↑j) (aq z4) (lw (l_v) (aq z1) (lx (aQ gM rfl hg.heads.flat) (lx (aZ (m:=↑j) (n:=(us.length:Int)) rfl rfl) (aa ?_)))))))
  by_cases hc:(j:Int)<(us.length:Int)
  ·
   have hjx:j<xss.length:=by omega
   have hju:j<us.length:=by omega
   refine af rfl (dt hc) (ak (a7 (am ?_)))
   have hu:us[j]? =some us[j]:=List.getElem?_eq_getElem hju
   have hx:xss[j]? =some xss[j]:=List.getElem?_eq_getElem hjx
   have hrow:=(hg.rows j _ _ hu hx).2 (by omega)
   refine a6 rfl (lw (vp bb 0) (aq z0) (lw (l_v) (aq z1) (lw (vi ↑j) (aq z4) (lx (ad (v:=l_v) (i:=↑j) gM rfl rfl hg.heads.flat rfl (by omega) (by omega)) (lx (ba jq rfl (me hg.heads hu)) (lo (aG (α:=Vc) g1 (is (q+i+k+1)) (is (q+i+k+1)) (q+i+k+1,0) rfl [us[j]] gM jq (by decide) (by decide) (vs:=[(0,us[j].v)]) rfl rfl (.cons (iC rfl (bK hrow.flat)) .nil) ?_)))))))
   intro g2 w2 v2 ch2 o2
   refine lo ?_
   have hn0:∀r c,row k r c->¬no c:=λr c _ h=>h
   refine bi (σ:=Value×cT×Int×aK) (V:=λ_=>vt []) (aA (vals:=[vp bb 0,v2]) Tryz.func38 zZ zQ rfl) (uJ (q:=q) (i:=i) (k:=k) (j:=j) (p:=q+i+k+1) (hbx.cn ch2) (hK.cn ch2) (hrow.cn ch2) rfl o2 hj qi0 qk0 ki0 (by omega) (by omega) (by omega)) ?_
   rintro⟨b0',b1',b2',g3⟩ w3 ⟨ch3,hbx3,hK3,hj3,hs3⟩
   have hg2:jh g2 i k j w2 l_v us xss:=⟨hg.heads.cn ch2,hg.len,λr u x h1 h2=>⟨λh=>((hg.rows r u x h1 h2).1 h).chg ch2 (λc _ h=>h),λh=>((hg.rows r u x h1 h2).2 h).cn ch2⟩⟩
   have hg3:=hg2.next ch3 (du qk0.symm) (du ki0) (du qi0.symm) hu hx hs3
   refine aa (al (a6 rfl (lw (vi ↑j) (aq z4) (lx (aM (m:=↑j) (n:=1) rfl rfl (by omega)) (ai ((j:Int)+1) (aa (back (j+1,b0',b1',b2',g3) _ _ ⟨z0,z1,rfl,by omega,pG hch (pG (uI ch2) (ch3.mono AD)),hbx3,hK3,hj3,hg3⟩ ?_)))))))
   show xss.length-(j+1)<xss.length-j
   omega
  refine ag rfl (df hc) (aJ rfl (cL (vs:=[]) Tryz.func12 .nil ?_))
  exact⟨(b0,b1,b2,g1),rfl,hch,hbx,hK,hj,hg.done (by omega)⟩
end TL
