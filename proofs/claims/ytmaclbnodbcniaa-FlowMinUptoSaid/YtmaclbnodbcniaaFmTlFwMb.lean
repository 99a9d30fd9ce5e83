import Derived.Test.YtmaclbnodbcniaaFmTlP3
import Derived.Test.YtmaclbnodbcniaaFmTlFwA
import Derived.Test.YtmaclbnodbcniaaFmTlFwL
import Derived.Test.YtmaclbnodbcniaaFmTlFwR
import Derived.Test.YtmaclbnodbcniaaFmTlFwMa
import Derived.Test.YtmaclbnodbcniaaProg
import Derived.Test.YtmaclbnodbcniaaFmTlAli
set_option linter.all false
set_option maxRecDepth 20000
namespace TL
open Go Go.Proofs
theorem fK:Try.prog.follows .mixedOrders=true:=by kernel_rfl
set_option maxHeartbeats 8000000 in
theorem jK{b33:Nat}{w0:World}{t_v:Value}{t:(Int)×(List ((Int)×(Int)×(Int)×(Int)))×(List Int)}{t_v1:Value}{b3:Nat}{b8:Nat}{v27:Value}{O2_c1:eZ}{v28:Value}{xP:List Int}{v29:Value}{v30:Value}{W2_c1_v:Value}{ak_c1:Int}{fl1:Int}{Wl:List bq}{g944:aG}{w943:World}{Fl:List Int}{Nl:List Int}(bH:b9 w0 g944 w943)(Rt:Sl g944 (is 0) w943 t_v t.2.1)(r_t_v1:Sl g944 (is 0) w943 t_v1 t.2.2)(bx5:Bx g944 (is 1) w943 b3 [vi t.1,t_v,t_v1])(bx10:Bx g944 (is 2) w943 b8 [vn,vn,vi 0])(o23:bN g944 4 w943 v27 O2_c1)(o24:Ow g944 (is 5) (is 5) w943 v28 xP)(o25:Ow g944 (is 6) (is 6) w943 v29 Fl)(o26:Ow g944 (is 7) (is 7) w943 v30 Nl)(bx35:Bx g944 (is 8) w943 b33 [W2_c1_v,v27,v28,v29,v30,vi t.1,vi (t.1+1),vi ak_c1,vi fl1])(o_W2_c1:Ow g944 (is 12) (is 12) w943 W2_c1_v Wl)(hm:cB t)(hbd:gk (t.1+2) t.1 ((t.1+2)*1048576) (1048576+(t.1+2)*1048576) Wl O2_c1 xP)(hff:((Fl).length:Int)=t.1+2)(hnf:((Nl).length:Int)=t.1+2):
    Calls Try.prog 31 (List.toArray [vp b33 0]) w943 (λee w=>∃xx:(List Int)×(List Int)×Bool×aG,ee= .returned ((λ⟨xL,xN,rL,gq⟩=>vb rL) xx)/\(λ(⟨xL,xN,rL,gq⟩:(List Int)×(List Int)×Bool×aG) (w:World)=>b9 w0 gq w/\Sl gq (is 0) w t_v t.2.1/\Sl gq (is 0) w t_v1 t.2.2/\Bx gq (is 1) w b3 [vi t.1,t_v,t_v1]/\Bx gq (is 2) w b8 [vn,vn,vi 0]/\bN gq 4 w v27 O2_c1/\Ow gq (is 5) (is 5) w v28 xP/\Ow gq (is 6) (is 6) w v29 xL/\Ow gq (is 7) (is 7) w v30 xN/\Bx gq (is 8) w b33 [W2_c1_v,v27,v28,v29,v30,vi t.1,vi (t.1+1),vi ak_c1,vi fl1]/\Ow gq (is 12) (is 12) w W2_c1_v Wl/\(xL=(bM (t.1+2) t.1 Wl O2_c1 xP).1/\xN=gb (t.1+2)/\rL=decide (0<=gI xL (t.1+1)))) xx w):=by
 refine aC Try.func31 rfl nq ?_
 have hbp:=hbd.pt.pl
 have hm0:=hm
 obtain⟨⟨hm1,hm2⟩,hm3,hm4,hm5,hm6⟩:=hm0
 have hol:=hbd.sh.ol
 have hwl:=hbd.sh.len
 refine a9 (a6 rfl (ma (vb false) (af (a9 (a9 (a6 rfl (mv (vp b33 0) (lw (vp b33 0) (ad rfl) (lx (a7 bB rfl rfl rfl rfl) ?_)))))))))
 refine lx (a8 ao rfl bx35 rfl) ?_
 have len945:=(o25.flat).small
 refine lx (ba aW rfl o25.flat) (mi 0 (af (av ?_)))
 refine aX (σ:=Nat×(List Int)×(List Int)×aG) (λ⟨v4,lv0,nv0,gq⟩ f w=>b9 w0 gq w/\f 0=vp b33 0/\f 14=vi (Fl.length:Int)/\f 15=vi ↑v4/\Sl gq (is 0) w t_v t.2.1/\Sl gq (is 0) w t_v1 t.2.2/\Bx gq (is 1) w b3 [vi t.1,t_v,t_v1]/\Bx gq (is 2) w b8 [vn,vn,vi 0]/\bN gq 4 w v27 O2_c1/\Ow gq (is 5) (is 5) w v28 xP/\Ow gq (is 6) (is 6) w v29 lv0/\Ow gq (is 7) (is 7) w v30 nv0/\Bx gq (is 8) w b33 [W2_c1_v,v27,v28,v29,v30,vi t.1,vi (t.1+1),vi ak_c1,vi fl1]/\Ow gq (is 12) (is 12) w W2_c1_v Wl/\(v4:Int)<=((Fl.length:Int):Int)/\(mJ (t.1+2) v4 lv0 nv0)) (λ⟨v4,lv0,nv0,gq⟩=>Int.toNat (((Fl.length:Int):Int)-(v4:Int))) (0,Fl,Nl,g944) ?_ ?_
 · exact⟨bH,rfl,rfl,rfl,Rt,r_t_v1,bx5,bx10,o23,o24,o25,o26,bx35,o_W2_c1,by omega,by exact mJ.start (by omega) (by omega)⟩
 clear Rt r_t_v1 bx5 bx10 o23 o24 o25 o26 bx35 o_W2_c1 bH
 rintro⟨v4,lv0,nv0,g948⟩ f946 w947 ⟨bH,zs0_c19,zs14_c19,zs15_c19,Rt,r_t_v1,bx5,bx10,o23,o24,o25,o26,bx35,o_W2_c1,hle_v4,hfn⟩ back2_c19
 have hfn1:=hfn.l1
 have hfn2:=hfn.l2
 refine a9 (a6 rfl (lx (bo (m:=↑v4) (n:=(Fl.length:Int)) zs15_c19 zs14_c19) (af (a9 ?_))))
 by_cases p2_c19:(v4:Int)<(Fl.length:Int)
 ·
  refine aj rfl (dt p2_c19) (au (a9 (av (a9 (a6 rfl (mz zs15_c19 (ai (v4:Int) (af (aL g948 [0,1,2,3,4,5,6,7,8,9,10,12] fK ?_)))))))))
  intro w950 ch949
  refine xp (v:=vp b33 0) 0 rfl (λw=>ah zs0_c19) (xp (v:=vp b33 0) 1 rfl (λw=>ad rfl) (xp 2 rfl (λw=>a7 bB rfl rfl rfl rfl) ?_))
  replace bx35:=bx35.cn ch949
  refine xv 3 [2,1,0,4,5,9,6,7,8] rfl (a8 ao rfl bx35 rfl) (xp (v:=vi ↑v4) 4 rfl (λw=>ah rfl) (xp (v:=vp b33 0) 5 rfl (λw=>ah zs0_c19) (xp (v:=vp b33 0) 6 rfl (λw=>ad rfl) (xp 7 rfl (λw=>a7 bB rfl rfl rfl rfl) (xv 8 [7,6,5,4,3,2,1,0,9] rfl (a8 ao rfl bx35 rfl) (xp (v:=vi ↑v4) 9 rfl (λw=>ah rfl) ?_))))))
  replace o25:=o25.cn ch949
  refine xv 10 [9,8,7,6,5,4,3,2,1,0] rfl (aa (v:=v29) (i:=↑v4) aW rfl rfl o25.flat rfl (by omega) (by omega)) (aD 11 rfl (by kernel_rfl) rfl (aK (i:=↑v4) (-1) ae rfl rfl o25 (by omega) (by omega) rfl ?_))
  intro w951 ch952 bx953
  clear o25
  replace o26:=(o26.cn ch949).ce ch952
  refine xv 12 [11,10,9,8,7,6,5,4,3,2,1,0] rfl (aa (v:=v30) (i:=↑v4) aW rfl rfl o26.flat rfl (by omega) (by omega)) (aD 13 rfl (by kernel_rfl) rfl (aK (i:=↑v4) 0 ae rfl rfl o26 (by omega) (by omega) rfl ?_))
  intro w954 ch955 bx956
  clear o26
  refine bc (by kernel_rfl) (aq (a6 rfl (lx (aP (m:=↑v4) (n:=1) zs15_c19 rfl (by omega)) (mi ((v4:Int)+1) (af ?_)))))
  have C957:=cg [6,7] (ch949.n.seq ((ch952.l rfl).seq (ch955.l rfl)))
  refine back2_c19 (v4+1,(List.set lv0 (Int.toNat ↑v4) (-1)),(List.set nv0 (Int.toNat ↑v4) 0),g948) _ _ ⟨bH.ca C957,zs0_c19,zs14_c19,rfl,Rt.ca C957,r_t_v1.ca C957,bx5.ca C957,bx10.ca C957,o23.ca C957,o24.ca C957,bx953.ce ch955,bx956,(bx35.ce ch952).ce ch955,o_W2_c1.ca C957,by omega,?_⟩ ?_
  · show mJ (t.1+2) (v4+1) (List.set lv0 (Int.toNat ↑v4) (-1)) (List.set nv0 (Int.toNat ↑v4) 0)
    exact hfn.next (by omega)
  · show Int.toNat (((Fl.length:Int):Int)-((v4+1):Int))<Int.toNat (((Fl.length:Int):Int)-(v4:Int))
    omega
 refine am rfl (df p2_c19) (aM rfl (a9 (aL g948 [0,1,2,3,4,5,6,7,8] fK ?_)))
 intro w959 ch958
 refine xp (v:=vp b33 0) 0 rfl (λw=>ah zs0_c19) (xp (v:=vp b33 0) 1 rfl (λw=>ad rfl) (xp 2 rfl (λw=>a7 bB rfl rfl rfl rfl) ?_))
 replace bx35:=bx35.cn ch958
 refine xv 3 [2,1,0,4,5,6,7] rfl (a8 ao rfl bx35 rfl) (xp (v:=vp b33 0) 4 rfl (λw=>ah zs0_c19) (xp (v:=vp b33 0) 5 rfl (λw=>ad rfl) (xp 6 rfl (λw=>a7 bB rfl rfl rfl rfl) (xv 7 [6,5,4,3,2,1,0] rfl (a8 ae rfl bx35 rfl) ?_))))
 replace o25:=o25.cn ch958
 refine xv 8 [7,6,5,4,3,2,1,0] rfl (aa (v:=v29) (i:=t.1) aW rfl rfl o25.flat rfl (by omega) (by omega)) (aD 9 rfl (by kernel_rfl) rfl (aK (i:=t.1) 0 ae rfl rfl o25 (by omega) (by omega) rfl ?_))
 intro w960 ch961 bx962
 clear o25
 refine bc (by kernel_rfl) (a9 (a6 rfl (mz zs0_c19 (lw (vp b33 0) (ad rfl) (lx (a7 bB rfl rfl rfl rfl) ?_)))))
 replace bx35:=bx35.ce ch961
 refine lx (a8 ae rfl bx35 rfl) (lo (aw (α:=Int) g948 (is 36) (is 36) (36,0) rfl ([t.1]:List Int) aW ae (by decide) (by decide) (vs:=[(0,vi t.1)]) rfl rfl (.cons rfl .nil) ?_))
 intro g963 w964 v965 ch966 o967
 refine ma v965 (af (a9 (a9 (a6 rfl (ai 0 (af (av ?_)))))))
 refine aX (σ:=Value×(List Int)×Nat×(List Int)×aG) (λ⟨qu_v,qu,iq,lv1,gq⟩ f w=>b9 w0 gq w/\f 0=vp b33 0/\f 4=qu_v/\f 5=vi ↑iq/\Sl gq (is 0) w t_v t.2.1/\Sl gq (is 0) w t_v1 t.2.2/\Bx gq (is 1) w b3 [vi t.1,t_v,t_v1]/\Bx gq (is 2) w b8 [vn,vn,vi 0]/\bN gq 4 w v27 O2_c1/\Ow gq (is 5) (is 5) w v28 xP/\Ow gq (is 7) (is 7) w v30 nv0/\Bx gq (is 8) w b33 [W2_c1_v,v27,v28,v29,v30,vi t.1,vi (t.1+1),vi ak_c1,vi fl1]/\Ow gq (is 12) (is 12) w W2_c1_v Wl/\Ow gq (is 6) (is 6) w v29 lv1/\Ow gq (is 36) (is 36) w qu_v qu/\(kP (t.1+2) t.1 Wl O2_c1 xP (bM (t.1+2) t.1 Wl O2_c1 xP) lv1 qu iq)) (λ⟨qu_v,qu,iq,lv1,gq⟩=>(t.1+2).toNat-iq) (v965,([t.1]:List Int),0,(List.set lv0 (Int.toNat t.1) 0),g963) ?_ ?_
 have C968:=cg [6] (ch958.n.seq ((ch961.l rfl).seq ch966.n))
 · exact⟨bH.ca C968,zs0_c19,rfl,rfl,Rt.ca C968,r_t_v1.ca C968,bx5.ca C968,bx10.ca C968,o23.ca C968,o24.ca C968,o26.ca C968,bx35.cn ch966,o_W2_c1.ca C968,bx962.cn ch966,o967,by exact rM (by omega) (by omega) hfn (by omega)⟩
 clear Rt r_t_v1 bx5 bx10 o23 o24 o26 bx35 o_W2_c1 bx962 o967 bH
 rintro⟨qu_v,qu,iq,lv1,g971⟩ f969 w970 ⟨bH,zs0_c19,zs4_c19,zs5_c19,Rt,r_t_v1,bx5,bx10,o23,o24,o26,bx35,o_W2_c1,bx962,o_qu,hla1⟩ back9_c19
 obtain⟨hq1,hq2⟩:=hla1.qb (by omega)
 have hll1:=hla1.l.ll
 refine a9 (a9 (a6 rfl (mz zs5_c19 (mz zs4_c19 ?_))))
 have len972:=(o_qu.flat).small
 refine lx (ba aW rfl o_qu.flat) (lx (bo (m:=↑iq) (n:=(qu.length:Int)) rfl rfl) (af ?_))
 by_cases p9_c19:(iq:Int)<(qu.length:Int)
 ·
  refine aj rfl (dt p9_c19) ?_
  obtain⟨hq3,hq4⟩:=hla1.vb ‹_›
  have hrl:=hbd.sh.rl hq3 hq4
  refine au (a9 (av (a9 (a6 rfl (mz zs4_c19 (mz zs5_c19 (lx (aa (v:=qu_v) (i:=↑iq) aW rfl rfl o_qu.flat rfl (by omega) (by omega)) (lx (ay (v:=qu_v) (i:=↑iq) ae rfl o_qu.flat (by omega) (by omega) (by decide) rfl) (ai (gI qu ↑iq) ?_)))))))))
  refine af (a9 (a6 rfl (mz zs0_c19 (lw (vp b33 0) (ad rfl) (lx (a7 bB rfl rfl rfl rfl) (lx (a8 aN rfl bx35 rfl) (mi (gI qu ↑iq) (lx (aa (v:=v27) (i:=(gI qu ↑iq)) c5 rfl rfl o23.sl rfl (by omega) (by omega)) ?_))))))))
  obtain⟨v973,cel974,r975⟩:=bC (r:=(gI qu ↑iq)) o23 (by omega) (by omega)
  refine lx (bb ao rfl cel974) ?_
  have len976:=(r975.row_sl).small
  refine lx (ba aW rfl r975.row_sl) (mi 0 (af (av ?_)))
  refine aX (σ:=Value×(List Int)×Nat×(List Int)×aG) (λ⟨qu2_v,qu2,kq,lv2,gq⟩ f w=>b9 w0 gq w/\f 0=vp b33 0/\f 4=qu2_v/\f 5=vi ↑iq/\f 6=vi (gI qu ↑iq)/\f 61=v973/\f 62=vi (List.length (gI O2_c1 (gI qu ↑iq)):Int)/\f 63=vi ↑kq/\Sl gq (is 0) w t_v t.2.1/\Sl gq (is 0) w t_v1 t.2.2/\Bx gq (is 1) w b3 [vi t.1,t_v,t_v1]/\Bx gq (is 2) w b8 [vn,vn,vi 0]/\bN gq 4 w v27 O2_c1/\Ow gq (is 5) (is 5) w v28 xP/\Ow gq (is 7) (is 7) w v30 nv0/\Bx gq (is 8) w b33 [W2_c1_v,v27,v28,v29,v30,vi t.1,vi (t.1+1),vi ak_c1,vi fl1]/\Ow gq (is 12) (is 12) w W2_c1_v Wl/\Ow gq (is 6) (is 6) w v29 lv2/\Ow gq (row 4 (Int.toNat (gI qu ↑iq)+1)) (row 4 (Int.toNat (gI qu ↑iq)+1)) w v973 (gI O2_c1 (gI qu ↑iq))/\Ow gq (is 36) (is 36) w qu2_v qu2/\(kq:Int)<=((List.length (gI O2_c1 (gI qu ↑iq)):Int):Int)/\(jD (t.1+2) t.1 Wl O2_c1 xP (bM (t.1+2) t.1 Wl O2_c1 xP) lv2 qu2 iq kq (gI qu ↑iq))) (λ⟨qu2_v,qu2,kq,lv2,gq⟩=>Int.toNat (((List.length (gI O2_c1 (gI qu ↑iq)):Int):Int)-(kq:Int))) (qu_v,qu,0,lv1,g971) ?_ ?_
  · exact⟨bH,zs0_c19,zs4_c19,zs5_c19,rfl,rfl,rfl,rfl,Rt,r_t_v1,bx5,bx10,o23,o24,o26,bx35,o_W2_c1,bx962,r975,o_qu,by omega,by exact hla1.row ‹_› (by omega)⟩
  clear Rt r_t_v1 bx5 bx10 o23 o24 o26 bx35 o_W2_c1 bx962 o_qu cel974 r975 bH
  rintro⟨qu2_v,qu2,kq,lv2,g979⟩ f977 w978 ⟨bH,zs0_c19,zs4_c19,zs5_c19,zs6_c19,zs61_c19,zs62_c19,zs63_c19,Rt,r_t_v1,bx5,bx10,o23,o24,o26,bx35,o_W2_c1,bx962,r975,o_qu2,hle_kq,hlr⟩ back13_c19
  obtain⟨hr1,hr2,⟨hr3,hr4⟩,hr5,hr6,hr7⟩:=hlr.qb (by omega)
  refine a9 (a6 rfl (lx (bo (m:=↑kq) (n:=(List.length (gI O2_c1 (gI qu ↑iq)):Int)) zs63_c19 zs62_c19) (af (a9 ?_))))
  by_cases p13_c19:(kq:Int)<(List.length (gI O2_c1 (gI qu ↑iq)):Int)
  ·
   refine aj rfl (dt p13_c19) ?_
   have hmw_c19:=bx (xs:=gI O2_c1 (gI qu ↑iq)) (i:=↑kq) (by omega) ‹_›
   obtain⟨⟨hw0_c19,hw1_c19⟩,⟨hw2_c19,hw3_c19⟩,hw4_c19,hw5_c19⟩:=mZ hbd.sh hr3 hr4 hmw_c19
   have hpo1:=hbd.pot (by omega) hr3 hr4
   have hpo2:=hbd.pot (by omega) hw2_c19 hw3_c19
   refine au (a9 (av (a9 (a6 rfl (lx (aa (v:=v973) (i:=↑kq) aW rfl zs61_c19 r975.row_sl zs63_c19 (by omega) (by omega)) (lx (ay (v:=v973) (i:=↑kq) ae rfl r975.row_sl (by omega) (by omega) (by decide) rfl) (ai (gI (gI O2_c1 (gI qu ↑iq)) (kq:Int)) (af (a9 ?_)))))))))
   refine a6 rfl (mz zs0_c19 (lw (vp b33 0) (ad rfl) (lx (a7 bB rfl rfl rfl rfl) (lx (a8 aY rfl bx35 rfl) (mi (gI (gI O2_c1 (gI qu ↑iq)) (kq:Int)) (lx (aa (v:=W2_c1_v) (i:=(gI (gI O2_c1 (gI qu ↑iq)) (kq:Int))) cZ rfl rfl o_W2_c1.flat rfl (by omega) (by omega)) (lw (Value.pointer (some ⟨(aT W2_c1_v 3 (Int.toNat (gI (gI O2_c1 (gI qu ↑iq)) (kq:Int)))).block,(aT W2_c1_v 3 (Int.toNat (gI (gI O2_c1 (gI qu ↑iq)) (kq:Int)))).off+0,none⟩)) (aO ir rfl rfl rfl rfl) (lx (bi (v:=W2_c1_v) (i:=(gI (gI O2_c1 (gI qu ↑iq)) (kq:Int))) ae rfl o_W2_c1.flat (by omega) (by omega) (by decide) rfl) (ai ((gI Wl (gI (gI O2_c1 (gI qu ↑iq)) (kq:Int))).1) ?_)))))))))
   refine af (a9 (a6 rfl (mz zs0_c19 (lw (vp b33 0) (ad rfl) (lx (a7 bB rfl rfl rfl rfl) (lx (a8 aY rfl bx35 rfl) (mi (gI (gI O2_c1 (gI qu ↑iq)) (kq:Int)) (lx (aa (v:=W2_c1_v) (i:=(gI (gI O2_c1 (gI qu ↑iq)) (kq:Int))) cZ rfl rfl o_W2_c1.flat rfl (by omega) (by omega)) (lw (Value.pointer (some ⟨(aT W2_c1_v 3 (Int.toNat (gI (gI O2_c1 (gI qu ↑iq)) (kq:Int)))).block,(aT W2_c1_v 3 (Int.toNat (gI (gI O2_c1 (gI qu ↑iq)) (kq:Int)))).off+1,none⟩)) (aO ir rfl rfl rfl rfl) ?_)))))))))
   refine lx (bi (v:=W2_c1_v) (i:=(gI (gI O2_c1 (gI qu ↑iq)) (kq:Int))) ae rfl o_W2_c1.flat (by omega) (by omega) (by decide) rfl) (lx (bY (m:=((gI Wl (gI (gI O2_c1 (gI qu ↑iq)) (kq:Int))).2).1) (n:=0) rfl rfl) (mv (vb (decide (0<(((gI Wl (gI (gI O2_c1 (gI qu ↑iq)) (kq:Int))).2).1)))) ?_))
   by_cases q84_c19:0<(((gI Wl (gI (gI O2_c1 (gI qu ↑iq)) (kq:Int))).2).1)
   ·
    refine lv (vp b33 0) (wy (dt q84_c19)) (ah zs0_c19) (lv (vp b33 0) (wy (dt q84_c19)) (ad rfl) (lv (vp b33 3) (wy (dt q84_c19)) (a7 bB rfl rfl rfl rfl) (lv (v29) (wy (dt q84_c19)) (a8 ao rfl bx35 rfl) (lv (vi ((gI Wl (gI (gI O2_c1 (gI qu ↑iq)) (kq:Int))).1)) (wy (dt q84_c19)) (ah rfl) ?_))))
    refine lv (Value.pointer (some (aT v29 1 (Int.toNat ((gI Wl (gI (gI O2_c1 (gI qu ↑iq)) (kq:Int))).1))))) (wy (dt q84_c19)) (aa (α:=Int) (xs:=lv2) (v:=v29) (i:=(gI Wl (gI (gI O2_c1 (gI qu ↑iq)) (kq:Int))).1) aW rfl rfl bx962.flat rfl (by omega) (by omega)) (lv (vi (gI lv2 ((gI Wl (gI (gI O2_c1 (gI qu ↑iq)) (kq:Int))).1))) (wy (dt q84_c19)) (ay (α:=Int) (xs:=lv2) (v:=v29) (i:=(gI Wl (gI (gI O2_c1 (gI qu ↑iq)) (kq:Int))).1) ae rfl bx962.flat (by omega) (by omega) (by decide) rfl) (lv (vb (decide ((gI lv2 ((gI Wl (gI (gI O2_c1 (gI qu ↑iq)) (kq:Int))).1))<0))) (wy (dt q84_c19)) (bo (m:=(gI lv2 ((gI Wl (gI (gI O2_c1 (gI qu ↑iq)) (kq:Int))).1))) (n:=0) rfl rfl) ?_))
    refine lw (vb (decide ((gI lv2 ((gI Wl (gI (gI O2_c1 (gI qu ↑iq)) (kq:Int))).1))<0))) (az rfl (dt q84_c19) rfl) (mv (vb (decide ((gI lv2 ((gI Wl (gI (gI O2_c1 (gI qu ↑iq)) (kq:Int))).1))<0))) ?_)
    by_cases q94_c19:(gI lv2 ((gI Wl (gI (gI O2_c1 (gI qu ↑iq)) (kq:Int))).1))<0
    ·
     refine lv (vp b33 0) (wy (dt q94_c19)) (ah zs0_c19) (lv (vi (gI qu ↑iq)) (wy (dt q94_c19)) (ah zs6_c19) (lv (vi (gI (gI O2_c1 (gI qu ↑iq)) (kq:Int))) (wy (dt q94_c19)) (ah rfl) (cQ (wy (dt q94_c19)) ?_)))
     refine bE (v:=vi ((gI Wl (gI (gI O2_c1 (gI qu ↑iq)) (kq:Int))).2.2+gI xP (gI qu ↑iq)-gI xP (gI Wl (gI (gI O2_c1 (gI qu ↑iq)) (kq:Int))).1)) (aU (vals:=[vp b33 0,vi (gI qu ↑iq),vi (gI (gI O2_c1 (gI qu ↑iq)) (kq:Int))]) Try.func35 jm iU rfl) (dO w978 b33 W2_c1_v Wl (o_W2_c1.flat).ro v27 v28 xP (o24.flat).ro v29 v30 (vi t.1) (vi (t.1+1)) (vi ak_c1) (vi fl1) (jX (bx35)) (gI qu ↑iq) (gI (gI O2_c1 (gI qu ↑iq)) (kq:Int)) (by omega) (by omega) (by omega) (by omega) (by omega) (by omega)) ?_
     intro w980 hb981
     replace hb981:=aB hb981 g979
     refine lv (vb (decide (((gI Wl (gI (gI O2_c1 (gI qu ↑iq)) (kq:Int))).2.2+gI xP (gI qu ↑iq)-gI xP (gI Wl (gI (gI O2_c1 (gI qu ↑iq)) (kq:Int))).1)=0))) (wy (dt q94_c19)) (cw (m:=(gI Wl (gI (gI O2_c1 (gI qu ↑iq)) (kq:Int))).2.2+gI xP (gI qu ↑iq)-gI xP (gI Wl (gI (gI O2_c1 (gI qu ↑iq)) (kq:Int))).1) (n:=0) rfl rfl) (lw (vb (decide (((gI Wl (gI (gI O2_c1 (gI qu ↑iq)) (kq:Int))).2.2+gI xP (gI qu ↑iq)-gI xP (gI Wl (gI (gI O2_c1 (gI qu ↑iq)) (kq:Int))).1)=0))) (az rfl (dt q94_c19) rfl) (af ?_))
     by_cases p16_c19:((gI Wl (gI (gI O2_c1 (gI qu ↑iq)) (kq:Int))).2.2+gI xP (gI qu ↑iq)-gI xP (gI Wl (gI (gI O2_c1 (gI qu ↑iq)) (kq:Int))).1)=0
     ·
      refine aj rfl (dt p16_c19) (a9 (aL g979 [0,1,2,3,4,5,6,7,8,9,10,11,12,13] fK ?_))
      intro w983 ch982
      refine xp (v:=vp b33 0) 0 rfl (λw=>ah zs0_c19) (xp (v:=vp b33 0) 1 rfl (λw=>ad rfl) (xp 2 rfl (λw=>a7 bB rfl rfl rfl rfl) ?_))
      replace bx35:=(bx35.cn hb981).cn ch982
      refine xv 3 [2,1,0,4,5,9,6,7,8,10,11,12] rfl (a8 ao rfl bx35 rfl) (xp (v:=vi ((gI Wl (gI (gI O2_c1 (gI qu ↑iq)) (kq:Int))).1)) 4 rfl (λw=>ah rfl) (xp (v:=vp b33 0) 5 rfl (λw=>ah zs0_c19) (xp (v:=vp b33 0) 6 rfl (λw=>ad rfl) (xp 7 rfl (λw=>a7 bB rfl rfl rfl rfl) (xv 8 [7,6,5,4,3,2,1,0,9] rfl (a8 ao rfl bx35 rfl) (xp (v:=vi (gI qu ↑iq)) 9 rfl (λw=>ah zs6_c19) ?_))))))
      replace bx962:=(bx962.cn hb981).cn ch982
      refine xv 10 [9,8,7,6,5,4,3,2,1,0] rfl (aa (v:=v29) (i:=(gI qu ↑iq)) aW rfl rfl bx962.flat rfl (by omega) (by omega)) (xv 11 [10,9,8,7,6,5,4,3,2,1,0] rfl (ay (v:=v29) (i:=(gI qu ↑iq)) ae rfl bx962.flat (by omega) (by omega) (by decide) rfl) (xp 12 rfl (λw=>aP (m:=(gI lv2 (gI qu ↑iq))) (n:=1) rfl rfl (by omega)) (xv 13 [12,11,10,9,8,7,6,5,4,3,2,1,0] rfl (aa (v:=v29) (i:=(gI Wl (gI (gI O2_c1 (gI qu ↑iq)) (kq:Int))).1) aW rfl rfl bx962.flat rfl (by omega) (by omega)) (aD 14 rfl (by kernel_rfl) rfl (aK (i:=(gI Wl (gI (gI O2_c1 (gI qu ↑iq)) (kq:Int))).1) ((gI lv2 (gI qu ↑iq))+1) ae rfl rfl bx962 (by omega) (by omega) rfl ?_)))))
      intro w984 ch985 bx986
      clear bx962
      refine bc (by kernel_rfl) (a6 rfl (mz zs4_c19 (mi ((gI Wl (gI (gI O2_c1 (gI qu ↑iq)) (kq:Int))).1) (lo (aw (α:=Int) g979 (is 37) (is 37) (37,0) rfl ([(gI Wl (gI (gI O2_c1 (gI qu ↑iq)) (kq:Int))).1]:List Int) aW ae (by decide) (by decide) (vs:=[(0,vi ((gI Wl (gI (gI O2_c1 (gI qu ↑iq)) (kq:Int))).1))]) rfl rfl (.cons rfl .nil) ?_)))))
      intro g987 w988 v989 ch990 o991
      refine lo ?_
      have C992:=cg [6] (hb981.n.seq (ch982.n.seq ((ch985.l rfl).seq ch990.n)))
      replace o_qu2:=o_qu2.ca C992
      refine aA (α:=Int) (xs:=qu2) (ys:=([(gI Wl (gI (gI O2_c1 (gI qu ↑iq)) (kq:Int))).1]:List Int)) g987 (J:=is 36) (S:=is 36) (36,0) rfl aW ae (by decide) rfl rfl rfl o_qu2 o991.flat (by decide) (by(simp;omega)) ?_
      intro g993 w994 v995 ch996 o997
      clear o_qu2
      refine ma v995 (af (aq ?_))
      clear o991
      refine a6 rfl (lx (aP (m:=↑kq) (n:=1) zs63_c19 rfl (by omega)) (mi ((kq:Int)+1) (af ?_)))
      have C999:=cg [6,36] ((ch985.l rfl).seq (ch990.n.seq (ch996.l rfl)))
      have C998:=hb981.n.seq (ch982.n.seq C999)
      refine back13_c19 (v995,(qu2++([(gI Wl (gI (gI O2_c1 (gI qu ↑iq)) (kq:Int))).1]:List Int)),kq+1,(List.set lv2 (Int.toNat ((gI Wl (gI (gI O2_c1 (gI qu ↑iq)) (kq:Int))).1)) ((gI lv2 (gI qu ↑iq))+1)),g993) _ _ ⟨bH.ca C998,zs0_c19,rfl,zs5_c19,zs6_c19,zs61_c19,zs62_c19,rfl,Rt.ca C998,r_t_v1.ca C998,bx5.ca C998,bx10.ca C998,o23.ca C998,o24.ca C998,o26.ca C998,bx35.ca C999,o_W2_c1.ca C998,(bx986.cn ch990).ce ch996,r975.chg C998 (e7 rfl) (e7 rfl),o997,by omega,?_⟩ ?_
      · show jD (t.1+2) t.1 Wl O2_c1 xP (bM (t.1+2) t.1 Wl O2_c1 xP) (List.set lv2 (Int.toNat ((gI Wl (gI (gI O2_c1 (gI qu ↑iq)) (kq:Int))).1)) ((gI lv2 (gI qu ↑iq))+1)) (qu2++([(gI Wl (gI (gI O2_c1 (gI qu ↑iq)) (kq:Int))).1]:List Int)) iq (kq+1) (gI qu ↑iq)
        exact hlr.yes hbd.sh ‹_› ‹_› ‹_› ‹_› rfl rfl
      · show Int.toNat (((List.length (gI O2_c1 (gI qu ↑iq)):Int):Int)-((kq+1):Int))<Int.toNat (((List.length (gI O2_c1 (gI qu ↑iq)):Int):Int)-(kq:Int))
        omega
     refine am rfl (df p16_c19) (au (aq (a6 rfl (lx (aP (m:=↑kq) (n:=1) zs63_c19 rfl (by omega)) (mi ((kq:Int)+1) (af ?_))))))
     refine back13_c19 (qu2_v,qu2,kq+1,lv2,g979) _ _ ⟨bH.cn hb981,zs0_c19,zs4_c19,zs5_c19,zs6_c19,zs61_c19,zs62_c19,rfl,Rt.cn hb981,r_t_v1.cn hb981,bx5.cn hb981,bx10.cn hb981,o23.cn hb981,o24.cn hb981,o26.cn hb981,bx35.cn hb981,o_W2_c1.cn hb981,bx962.cn hb981,r975.cn hb981,o_qu2.cn hb981,by omega,?_⟩ ?_
     · show jD (t.1+2) t.1 Wl O2_c1 xP (bM (t.1+2) t.1 Wl O2_c1 xP) lv2 qu2 iq (kq+1) (gI qu ↑iq)
       exact hlr.no ‹_› (λh=>absurd h.2.2 ‹_›)
     · show Int.toNat (((List.length (gI O2_c1 (gI qu ↑iq)):Int):Int)-((kq+1):Int))<Int.toNat (((List.length (gI O2_c1 (gI qu ↑iq)):Int):Int)-(kq:Int))
       omega
    refine ag (wn (df q94_c19)) (ag (wn (df q94_c19)) (ag (wn (df q94_c19)) (ag (wn (df q94_c19)) (ag (wn (df q94_c19)) (lw (vb false) (aH rfl (df q94_c19) rfl) (af (am rfl rfl (au (aq ?_)))))))))
    refine a6 rfl (lx (aP (m:=↑kq) (n:=1) zs63_c19 rfl (by omega)) (mi ((kq:Int)+1) (af ?_)))
    refine back13_c19 (qu2_v,qu2,kq+1,lv2,g979) _ _ ⟨bH,zs0_c19,zs4_c19,zs5_c19,zs6_c19,zs61_c19,zs62_c19,rfl,Rt,r_t_v1,bx5,bx10,o23,o24,o26,bx35,o_W2_c1,bx962,r975,o_qu2,by omega,?_⟩ ?_
    · show jD (t.1+2) t.1 Wl O2_c1 xP (bM (t.1+2) t.1 Wl O2_c1 xP) lv2 qu2 iq (kq+1) (gI qu ↑iq)
      exact hlr.no ‹_› (λh=>absurd h.2.1 ‹_›)
    · show Int.toNat (((List.length (gI O2_c1 (gI qu ↑iq)):Int):Int)-((kq+1):Int))<Int.toNat (((List.length (gI O2_c1 (gI qu ↑iq)):Int):Int)-(kq:Int))
      omega
   refine ag (wn (df q84_c19)) (ag (wn (df q84_c19)) (ag (wn (df q84_c19)) (ag (wn (df q84_c19)) (ag (wn (df q84_c19)) (ag (wn (df q84_c19)) (ag (wn (df q84_c19)) (ag (wn (df q84_c19)) (lw (vb false) (aH rfl (df q84_c19) rfl) (mv (vb false) ?_)))))))))
   refine ag (wn rfl) (ag (wn rfl) (ag (wn rfl) (ag (wn rfl) (ag (wn rfl) (lw (vb false) (aH rfl rfl rfl) (af (am rfl rfl (au (aq ?_)))))))))
   refine a6 rfl (lx (aP (m:=↑kq) (n:=1) zs63_c19 rfl (by omega)) (mi ((kq:Int)+1) (af ?_)))
   refine back13_c19 (qu2_v,qu2,kq+1,lv2,g979) _ _ ⟨bH,zs0_c19,zs4_c19,zs5_c19,zs6_c19,zs61_c19,zs62_c19,rfl,Rt,r_t_v1,bx5,bx10,o23,o24,o26,bx35,o_W2_c1,bx962,r975,o_qu2,by omega,?_⟩ ?_
   · show jD (t.1+2) t.1 Wl O2_c1 xP (bM (t.1+2) t.1 Wl O2_c1 xP) lv2 qu2 iq (kq+1) (gI qu ↑iq)
     exact hlr.no ‹_› (λh=>absurd h.1 ‹_›)
   · show Int.toNat (((List.length (gI O2_c1 (gI qu ↑iq)):Int):Int)-((kq+1):Int))<Int.toNat (((List.length (gI O2_c1 (gI qu ↑iq)):Int):Int)-(kq:Int))
     omega
  refine am rfl (df p13_c19) (aM rfl (aq ?_))
  clear r975
  refine a6 rfl (mz zs5_c19 (lx (aP (m:=↑iq) (n:=1) rfl rfl (by omega)) (ai ((iq:Int)+1) (af ?_))))
  refine back9_c19 (qu2_v,qu2,iq+1,lv2,g979) _ _ ⟨bH,zs0_c19,zs4_c19,rfl,Rt,r_t_v1,bx5,bx10,o23,o24,o26,bx35,o_W2_c1,bx962,o_qu2,?_⟩ ?_
  · show kP (t.1+2) t.1 Wl O2_c1 xP (bM (t.1+2) t.1 Wl O2_c1 xP) lv2 qu2 (iq+1)
    exact hlr.done (by omega)
  · show(t.1+2).toNat-(iq+1)<(t.1+2).toNat-iq
    omega
 refine am rfl (df p9_c19) (aM rfl (a9 ?_))
 clear o_qu
 refine bt g971 rfl fK (by kernel_rfl) ?_
 intro w1001 ch1000
 refine qz zs0_c19 (qv (vp b33 0) (λw' hw'=>ad rfl) (qx (λw' hw'=>a7 bB rfl rfl rfl rfl) ?_))
 replace bx35:=bx35.cn ch1000
 refine qx (λw' hw'=>a8 ao rfl (bx35.bel hw') rfl) (qz zs0_c19 (qv (vp b33 0) (λw' hw'=>ad rfl) (qx (λw' hw'=>a7 bB rfl rfl rfl rfl) (qx (λw' hw'=>a8 ae rfl (bx35.bel hw') rfl) ?_))))
 replace bx962:=bx962.cn ch1000
 refine qx (λw' hw'=>aa (v:=v29) (i:=t.1+1) aW rfl rfl (bx962.flat.bel hw') rfl (by omega) (by omega)) (qx (λw' hw'=>ay (v:=v29) (i:=t.1+1) ae rfl (bx962.flat.bel hw') (by omega) (by omega) (by decide) rfl) (qx (λw' hw'=>ib (m:=(gI lv1 (t.1+1))) (n:=0) rfl rfl) (qv (vb (decide (0<=(gI lv1 (t.1+1))))) (λw' hw'=>bD rfl) (bX ?_))))
 intro w1002 hc1003
 replace hc1003:=aB hc1003 g971
 refine aF (vs:=[vb (decide (0<=(gI lv1 (t.1+1))))]) Try.func31 (.tmp rfl .nil) ?_
 replace bH:=bH.cn ch1000
 replace bH:=bH.cn hc1003
 replace Rt:=(Rt.cn ch1000).cn hc1003
 replace r_t_v1:=(r_t_v1.cn ch1000).cn hc1003
 replace bx5:=(bx5.cn ch1000).cn hc1003
 replace bx10:=(bx10.cn ch1000).cn hc1003
 replace o23:=(o23.cn ch1000).cn hc1003
 replace o24:=(o24.cn ch1000).cn hc1003
 replace bx962:=bx962.cn hc1003
 replace o26:=(o26.cn ch1000).cn hc1003
 replace bx35:=bx35.cn hc1003
 replace o_W2_c1:=(o_W2_c1.cn ch1000).cn hc1003
 refine⟨(lv1,nv0,decide (0<=(gI lv1 (t.1+1))),g971),rfl,bH,Rt,r_t_v1,bx5,bx10,o23,o24,bx962,o26,bx35,o_W2_c1,?_⟩
 show lv1=(bM (t.1+2) t.1 Wl O2_c1 xP).1/\nv0=gb (t.1+2)/\(decide (0<=(gI lv1 (t.1+1))))=decide (0<=gI lv1 (t.1+1))
 exact⟨hla1.fin (by omega),(hfn.done (by omega)).2,rfl⟩
end TL
