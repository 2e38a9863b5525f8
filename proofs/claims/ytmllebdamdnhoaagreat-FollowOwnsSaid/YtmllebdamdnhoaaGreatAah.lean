/-
  What the machine's calls come to: the plain functions.
-/
import Derived.Test.YtmllebdamdnhoaaGreatAag
set_option linter.unusedSimpArgs false
set_option linter.unusedVariables false
set_option maxRecDepth 100000
namespace Go.Proofs.YtmllebdamdnhoaaGreat
open Go Go.Gm
attribute [go_sem] GA ni Yv oO List.toList_toArray avOf Iy ip List.take List.drop List.length_cons List.length_nil List.length_map e8 AV.Bs List.append aZ List.getElem?_cons_zero List.getElem?_cons_succ AV.refs AV.rE AV.rows if_true if_false List.nil_append List.append_nil List.cons_append o4 unz pG Qn Hk TR List.getElem?_nil mF List.isEmpty_nil kX aUn Kd PV.cells List.replicate List.set_cons_zero List.set_cons_succ pH Ul vT eq_self AV.vJ qC.vJ ft JS Ln zj eh List.headD_cons xv A8 ez Hp qC.rE qC.refs List.flatMap_nil List.flatMap_cons tN HA mU qC.slv List.map_cons List.map_nil List.drop_zero Option.isSome_none Option.isNone_none Option.isSome_some Option.isNone_some Pp ou sQ Yj Yh Ka Vn Qw Jn om XC bA Zp Yi nV mo bx dE ej ud uU Option.map_none Nf.eq_def Dk U9 X_nil X_uptoN X_uptoR X_uptoE X_codeR X_codeE X_skip X_ret X_exit X_seq X_cond A0 FW FX FZ A2 FY A1 X_loop A3 X_cmds0 X_cmdsC mg.eq_1 mg.eq_2 W2.eq_1 W2.eq_2 W2.eq_3 W2.eq_4 W2.eq_5 pres_S Y_nil Y_op Sv Su ud.eq_1 ud.eq_2 ev.eq_1 ev.eq_2 ev.eq_3 ev.eq_4 vF.get.eq_1 vF.get.eq_2 cO.eq_1 cO.eq_2 qS.eq_1 qS.eq_2 mI.eq_1 gf.eq_1 gf.eq_2 ZY.eq_1 ZY.eq_2 nf.eq_1 nf.eq_2 aBox.eq_1 ldP.eq_1 ldP.eq_2 DU.eq_1 DU.eq_2 TI.isAgg.eq_1 ZQ.eq_1 qn.get.eq_1 qn.get.eq_2 qn.put.eq_1 qn.put.eq_2 NB Sh Si Aq Ya HE Y9 HF Ao Ap NC Nx HB HC Ny NA Nw Nv Nz Sg fO.eq_1 AV.refs.mb.eq_1 AV.refs.mb.eq_2 AV.rE.iU.eq_1 AV.rE.iU.eq_2 yV.eq_1 yV.eq_2 vj.eq_1 vj.eq_2 Pe Pd Pf narrow.eq_1 a7.eq_1 restrict.eq_1 restrict.eq_2 qn.upto.eq_1 qn.upto.eq_2 qn.below.eq_1 qn.below.eq_2 vF.below.eq_1 vF.below.eq_2 rK.eq_1 rK.eq_2 decide_true and_self AV.rows.l7.eq_1 AV.rows.l7.eq_2 Nat.zero_lt_one Nat.lt_add_one Nat.zero_le xJ Nat.zero_add Nat.add_zero and_true true_and Bool.and_true Bool.true_and decide_false w9 pJ.eq_1 pJ.eq_2 fnEnd_N fnEnd_R fnE_S dx.eq_1 dx.eq_2 VH.eq_1 VH.eq_2 finish.eq_1 List.range_zero pos.eq_1 pos.eq_2 bE.eq_1 bE.eq_2 bE.eq_3 enter.eq_1 jQ.eq_1 jQ.eq_2 zL.eq_1 zL.eq_2 sI.eq_1 sI.eq_2 setEnv.eq_1 setEnv.eq_2 S1 Z_nil Z_op Z_guard Ss Y_guard NR Bool.not_false Bool.not_true Bool.or_self Bool.or_false Bool.false_or Bool.or_true Bool.true_or bool_ff bool_ft bool_tf Bool.and_self Bool.and_false Bool.false_and pK.eq_1 pK.eq_2 Nat.mul_one Nat.one_mul true_or or_true false_or or_false or_self and_false false_and Gm.freeze.eq_1 AV.vJ.pz.eq_1 AV.vJ.pz.eq_2 jU.eq_1 jU.eq_2 iF.eq_1 iF.eq_2 iF.eq_3 Jw.eq_1 XZ.eq_1 iD.eq_1 iD.eq_2 iB.eq_1 mn.eq_1 mn.eq_2 pick.eq_1 pick.eq_2 Un.eq_1 Un.eq_2 JY.eq_1 JY.eq_2 tB.eq_1 xO.eq_1 jH.eq_1 jH.eq_2 Ke.eq_1 rV.eq_1 Mj AA AB AD AE AF again_0 again_1 again_2 again_3 again_4 leave_0 leave_1 leave_2 leave_3 leave_4 Po left_S canon.eq_1 Pa.eq_1 Pa.eq_2 VD.eq_1 VD.eq_2 aa.eq_1 aa.eq_2 Nn keptL_S Q2.eq_1 Ly.eq_1 Ly.eq_2 isBytes.eq_1 lL.eq_1 trimOff Cf.eq_1 RM szc_szc RN Bw Bx RO T7 HQ T9 HP T8 ER Hc Hb Hd XP.eq_1 XP.eq_2 kE.eq_1 bool_tt Om On range1 range2 range3 range4 range5 range6 S7 Sa A6 KT S4 lset aNil_p1 aNil_p2 aNil_p3 aNil_p4 aNil_p5 aNil_s1 aNil_s2 aNil_s3 aNil_m1 aNil_m2 aNil_f1 aNil_f2 aNil_f3 Int.natCast_zero Int.cast_ofNat_Int L6 RR List.take_length qm zt qL o5 v_l qp b_x b_r b_m Zw zX dF Hy ng Ae o0.eq_1 o0.eq_2 slot_0 slot_1 slot_2 slot_3 slot_4 slot_14 slot_19 slot_20 slot_21 D8 D9 Da Db Dc Dd XC.eq_def List.map_append List.map_set List.length_append List.map_replicate List.length_replicate szc_or iu Sf Se szc_or2 Ow Ox map_oE Nat.sub_zero oE_app oE_len oE_nil oE_setR oE_flat rG rN I7 Option.map_some z7 PB app_ne lnil lcons pP.eq_1 pP.eq_2 lh oQ oS oR bN_eq nz_t nz_f nz_or Lp Lq tF tS tP tT xW tZ bD kq take_ge oS1 oE_end oE_one oE_take szc_apC szc_apL D6 Nu rG2 rZ fE0 OW szcN beq_self_eq_true ql.qN qx.qN qT.qN qE.qN zl.qN zf.qN qu.qN qw.qN qc.qN qr.qN qo.qN gy.qN qt.qN zn.qN xd.qN xc.qN jt.qN zz.qN qA.qN zu.qN jY.qN ju.qN qU.qN qb.qN zH.qN zG.qN qM.qN kP.qN qh.qN qd.qN qz.qN qf.qN qe.T2 qe.HD qe.WI qe.WJ qe.qN tbA spA0 spA1 spA2 spA3 spA4 spA5 spA6 spA7 tiA0 tiA1 tiA2 tiA3 tiA4 tiA5 tiA6 tiA7 tiA8 tiA9 tiA10 ownL kpL prL fzL mfL cmL
set_option maxHeartbeats 4000000
@[go_sem] def fX (ss:(List qa)):((Bool)⊕(Unit))->Ex×St
 | .inl y=>(Ex.ret,⟨[(4,zt y)],[(0,bm ss)],1⟩)
 | .inr y=>(Ex.normal,⟨[(4,AV.undef)],[(0,bm ss)],1⟩)
instance:xq gB fun(n,i,ss) r=>O.loop 13 0 ⟨[(0,qm n),(1,qp 0 ss),(5,qm i)],[(0,bm ss)],1⟩=some (fX ss r):=gP gB.partial_correctness fun _ _⟨_,_,_⟩=>gW
instance(n r_):ze (fW n r_) (fun r=>O.call 13 [qm n,qp 0 r_] [(0,bm r_)]=some (zt r,[(0,bm r_)])):=⟨by unfold fW;exact gW⟩
@[go_sem] def fY:((Bool)⊕(Unit))->Ex×St
 | .inl y=>(Ex.ret,⟨[(6,zt y)],[],0⟩)
 | .inr y=>(Ex.normal,⟨[(6,AV.undef)],[],0⟩)
instance:xq gC fun(n,es,i) r=>O.loop 5 0 ⟨[(1,qm n),(2,vv es),(7,qm i)],[],0⟩=some (fY r):=gP gC.partial_correctness fun _ _⟨_,_,_⟩=>gW
instance(many n es):ze (sZ many n es) (fun r=>O.call 5 [qm many,qm n,vv es] []=some (zt r,[])):=⟨by unfold sZ;exact gW⟩
instance:xq nr fun(n,os,i,k,Xt) r=>O.loop 4 2 ⟨[(1,qm n),(2,vv os),(7,qm i),(8,qm k)],[(0,bm Xt)],1⟩=some (Ex.normal,⟨[(1,qm r),(2,vv os),(7,qm i)],[(0,bm Xt)],1⟩):=gP nr.partial_correctness fun _ _⟨_,_,_,_,_⟩=>gW
@[go_sem] def eP:((Bool)⊕(Unit))->Ex×St
 | .inl y=>(Ex.ret,⟨[(6,zt y)],[],0⟩)
 | .inr y=>(Ex.normal,⟨[(6,AV.undef)],[],0⟩)
instance:xq nq fun(n,os,i) r=>O.loop 4 0 ⟨[(1,qm n),(2,vv os),(7,qm i)],[],0⟩=some (eP r):=gP nq.partial_correctness fun _ _⟨_,_,_⟩=>gW
instance(many n os):ze (iL many n os) (fun r=>O.call 4 [qm many,qm n,vv os] []=some (zt r,[])):=⟨by unfold iL;exact gW⟩
instance(c):ze (wx c) (fun r=>O.call 93 [AV.pv (PV.int IntKind.u8 (c.toNat:Int))] []=some (zt r,[])):=⟨by unfold wx;exact gW⟩
instance(c):ze (kj c) (fun r=>O.call 94 [AV.pv (PV.int IntKind.u8 (c.toNat:Int))] []=some (zt r,[])):=⟨by unfold kj;exact gW⟩
@[go_sem] def dX:((Bool)⊕(Unit))->Ex×St
 | .inl y=>(Ex.ret,⟨[(2,zt y)],[],0⟩)
 | .inr y=>(Ex.normal,⟨[(2,AV.undef)],[],0⟩)
instance:xq xG fun(s,i) r=>O.loop 55 0 ⟨[(0,qL s),(3,qm i)],[],0⟩=some (dX r):=gP xG.partial_correctness fun _ _⟨_,_⟩=>gW
instance(s):ze (j9 s) (fun r=>O.call 55 [qL s] []=some (zt r,[])):=⟨by unfold j9;exact gW⟩
@[go_sem] def ay (name:qa) (value:qa) (out:(List qt)):((Int×(List qt))⊕(Unit))->Ex×St
 | .inl y=>(Ex.ret,⟨[(0,qL name),(1,qL value),(6,qp 0 y.2),(7,qm y.1),(8,qp 0 y.2)],[(0,bm y.2)],1⟩)
 | .inr y=>(Ex.normal,⟨[(0,qL name),(1,qL value),(6,AV.undef),(7,AV.undef),(8,qp 0 out)],[(0,bm out)],1⟩)
instance:xq gR fun(name,value,i,out) r=>O.loop 36 0 ⟨[(0,qL name),(1,qL value),(8,qp 0 out),(9,qm i)],[(0,bm out)],1⟩=some (ay name value out r):=gP gR.partial_correctness fun _ _⟨_,_,_,_⟩=>gW
instance(name value env):ze (cl name value env) (fun r=>O.call 36 [qL name,qL value,vv env] []=some (AV.xS [vv r.1,qm r.2],[])):=⟨by unfold cl;exact gW⟩
@[go_sem] def aJ (m:qa) (m2:(Sl qx)) (m3:(Sl qc)):((Int×(Sl qt))⊕((Sl qt)))->Ex×St
 | .inl y=>(Ex.ret,⟨[(2,AV.pv (PV.jk)),(3,qm y.1),(4,AV.ptr 1 0)],[(0,qC.xf),(1,qC.box [qL m,vv m2,vv m3,vv y.2,AV.pv (PV.sl true 0 []),AV.pv (PV.sl true 0 [])])],2⟩)
 | .inr y=>(Ex.normal,⟨[(2,AV.undef),(3,AV.undef),(4,AV.ptr 1 0)],[(0,qC.xf),(1,qC.box [qL m,vv m2,vv m3,vv y,AV.pv (PV.sl true 0 []),AV.pv (PV.sl true 0 [])])],2⟩)
instance:xq tc fun(env,i,m,m2,m3,m4) r=>O.loop 17 0 ⟨[(0,vv env),(4,AV.ptr 1 0),(5,qm i)],[(0,qC.xf),(1,qC.box [qL m,vv m2,vv m3,vv m4,AV.pv (PV.sl true 0 []),AV.pv (PV.sl true 0 [])])],2⟩=some (aJ m m2 m3 r):=gP tc.partial_correctness fun _ _⟨_,_,_,_,_,_⟩=>gW
@[go_sem] def l6:((Int)⊕(Int×qa×(Sl qx)×(Sl qc)×(Sl qt)))->AV×qn
 | .inl y=>(AV.xS [AV.pv (PV.jk),qm y],[])
 | .inr y=>(AV.xS [AV.ptr 0 0,qm y.1],[(0,qC.box [qL y.2.1,vv y.2.2.1,vv y.2.2.2.1,vv y.2.2.2.2,AV.pv (PV.sl true 0 []),AV.pv (PV.sl true 0 [])])])
instance:ze (aI) (fun r=>O.call 17 [AV.pv (PV.sl true 0 [])] []=some (l6 r)):=⟨by unfold aI;exact gW⟩
instance(s):ze (yn s) (fun r=>O.call 101 [vv s] []=some (vv r,[])):=⟨by unfold yn;exact gW⟩
instance:xq yw fun(l,text,i,es) r=>O.loop 57 0 ⟨[(0,vv l),(1,qL text),(5,qp 0 es),(6,qm i)],[(0,br es)],1⟩=some (Ex.normal,⟨[(5,qp 0 r)],[(0,br r)],1⟩):=gP yw.partial_correctness fun _ _⟨_,_,_,_⟩=>gW
instance(l text):ze (s7 l text) (fun r=>O.call 57 [vv l,qL text] []=some (vv r,[])):=⟨by unfold s7;exact gW⟩
instance(s n):ze (th s n) (fun r=>O.call 104 [vv s,qm n] []=some (zt r,[])):=⟨by unfold th;exact gW⟩
@[go_sem] def aL (l:(Sl qx)):(((Sl qx)×Int)⊕(Unit))->Ex×St
 | .inl y=>(Ex.ret,⟨[(1,vv l),(4,vv y.1),(5,qm y.2)],[],0⟩)
 | .inr y=>(Ex.normal,⟨[(1,vv l),(4,AV.undef),(5,AV.undef)],[],0⟩)
instance:xq bg fun(n,l,i) r=>O.loop 59 0 ⟨[(0,qm n),(1,vv l),(6,qm i)],[],0⟩=some (aL l r):=gP bg.partial_correctness fun _ _⟨_,_,_⟩=>gW
instance(a b):ze (rm a b) (fun r=>O.call 157 [vv a,vv b] []=some (zt r,[])):=⟨by unfold rm;exact gW⟩
instance:xq uP fun(l,s,i,k) r=>O.loop 105 2 ⟨[(0,vv l),(3,vv s),(4,qm i),(5,qm k)],[],0⟩=some (Ex.normal,⟨[(0,vv l),(3,vv s),(4,qm i),(5,qm r)],[],0⟩):=gP uP.partial_correctness fun _ _⟨_,_,_,_⟩=>gW
instance:xq uO fun(l,s,i) r=>O.loop 105 0 ⟨[(0,vv l),(3,vv s),(4,qm i)],[],0⟩=some (Ex.normal,⟨[(3,vv r)],[],0⟩):=gP uO.partial_correctness fun _ _⟨_,_,_⟩=>gW
instance(a b):ze (rn a b) (fun r=>O.call 156 [vv a,vv b] []=some (zt r,[])):=⟨by unfold rn;exact gW⟩
instance(s back):ze (XO s back) (fun r=>O.call 158 [vv s,zt back] []=some (vv r,[])):=⟨by unfold XO;exact gW⟩
instance:xq wE fun(s,i,out) r=>O.loop 105 4 ⟨[(3,vv s),(6,qp 0 out),(7,qm i)],[(0,br out)],1⟩=some (Ex.normal,⟨[(6,qp 0 r)],[(0,br r)],1⟩):=gP wE.partial_correctness fun _ _⟨_,_,_⟩=>gW
instance(l):ze (ro l) (fun r=>O.call 105 [vv l] []=some (vv r,[])):=⟨by unfold ro;exact gW⟩
instance(n l):ze (hU n l) (fun r=>O.call 59 [qm n,vv l] []=some (AV.xS [vv r.1,qm r.2],[])):=⟨by unfold hU;exact gW⟩
@[go_sem] def aC (st:qr):((Bool)⊕(Unit))->Ex×St
 | .inl y=>(Ex.ret,⟨[(1,AV.ptr 0 0),(2,zt y)],[(0,bb st)],1⟩)
 | .inr y=>(Ex.normal,⟨[(1,AV.ptr 0 0),(2,AV.undef)],[(0,bb st)],1⟩)
instance:xq gS fun(l,i,st) r=>O.loop 95 0 ⟨[(1,AV.ptr 0 0),(3,vv l),(5,qm i)],[(0,bb st)],1⟩=some (aC st r):=gP gS.partial_correctness fun _ _⟨_,_,_⟩=>gW
@[go_sem] def eT:((Bool)⊕(Unit))->Ex×St
 | .inl y=>(Ex.ret,⟨[(6,zt y)],[],0⟩)
 | .inr y=>(Ex.normal,⟨[(6,AV.undef)],[],0⟩)
instance:xq gq fun(l,a,b) r=>O.loop 199 0 ⟨[(0,vv l),(1,qm a),(2,qm b)],[],0⟩=some (eT r):=gP gq.partial_correctness fun _ _⟨_,_,_⟩=>gW
instance(l a b):ze (si l a b) (fun r=>O.call 199 [vv l,qm a,qm b] []=some (zt r,[])):=⟨by unfold si;exact gW⟩
instance(a b):ze (xl a b) (fun r=>O.call 23 [vv a,vv b] []=some (zt r,[])):=⟨by unfold xl;exact gW⟩
@[go_sem] def aB (k:Int) (i:qw) (x:qu) (Zu:ql):((Bool)⊕(Unit))->Ex×St
 | .inl y=>(Ex.ret,⟨[(2,AV.ptr 0 0),(4,zt y),(5,qm k)],[(0,bb i),(1,bb x),(2,bb Zu)],3⟩)
 | .inr y=>(Ex.normal,⟨[(2,AV.ptr 0 0),(4,AV.undef),(5,qm k)],[(0,bb i),(1,bb x),(2,bb Zu)],3⟩)
instance:xq jg fun(k,j,i,x,Zu) r=>O.loop 138 2 ⟨[(2,AV.ptr 0 0),(5,qm k),(6,AV.ptr 1 0),(8,qm j)],[(0,bb i),(1,bb x),(2,bb Zu)],3⟩=some (aB k i x Zu r):=gP jg.partial_correctness fun _ _⟨_,_,_,_,_⟩=>gW
@[go_sem] def aA (i:qw):((Bool)⊕(Unit))->Ex×St
 | .inl y=>(Ex.ret,⟨[(4,zt y)],[(0,bb i)],1⟩)
 | .inr y=>(Ex.normal,⟨[(4,AV.undef)],[(0,bb i)],1⟩)
instance:xq xy fun(k,i) r=>O.loop 138 0 ⟨[(2,AV.ptr 0 0),(5,qm k)],[(0,bb i)],1⟩=some (aA i r):=gP xy.partial_correctness fun _ _⟨_,_⟩=>gW
instance(i n):ze (az i n) (fun r=>O.call 138 [vv i,qm n] []=some (zt r,[])):=⟨by unfold az;exact gW⟩
instance:xq kL fun(n,is,i,k,out) r=>O.loop 20 2 ⟨[(0,qm n),(1,vv is),(5,qp 0 out),(6,qm i),(7,qm k)],[(0,br out)],1⟩=some (Ex.normal,⟨[(0,qm n),(1,vv is),(5,qp 0 r),(6,qm i)],[(0,br r)],1⟩):=gP kL.partial_correctness fun _ _⟨_,_,_,_,_⟩=>gW
instance:xq yJ fun(n,is,i,out) r=>O.loop 20 0 ⟨[(0,qm n),(1,vv is),(5,qp 0 out),(6,qm i)],[(0,br out)],1⟩=some (Ex.normal,⟨[(5,qp 0 r)],[(0,br r)],1⟩):=gP yJ.partial_correctness fun _ _⟨_,_,_,_⟩=>gW
instance(n is):ze (km n is) (fun r=>O.call 20 [qm n,vv is] []=some (vv r,[])):=⟨by unfold km;exact gW⟩
@[go_sem] def fg (s:ql):((Bool)⊕(Unit))->Ex×St
 | .inl y=>(Ex.ret,⟨[(4,zt y)],[(0,bb s)],1⟩)
 | .inr y=>(Ex.normal,⟨[(4,AV.undef)],[(0,bb s)],1⟩)
instance:xq uK fun(l,i,s) r=>O.loop 139 0 ⟨[(1,vv l),(2,AV.ptr 0 0),(5,qm i)],[(0,bb s)],1⟩=some (fg s r):=gP uK.partial_correctness fun _ _⟨_,_,_⟩=>gW
instance(s l):ze (uJ s l) (fun r=>O.call 139 [vv s,vv l] []=some (zt r,[])):=⟨by unfold uJ;exact gW⟩
@[go_sem] def aE (i:Int) (st:qr):((Bool)⊕(Unit))->Ex×St
 | .inl y=>(Ex.ret,⟨[(1,AV.ptr 0 0),(2,zt y),(6,qm i)],[(0,bb st)],1⟩)
 | .inr y=>(Ex.normal,⟨[(1,AV.ptr 0 0),(2,AV.undef),(6,qm i)],[(0,bb st)],1⟩)
instance:xq k9 fun(i,is,k,st) r=>O.loop 95 4 ⟨[(1,AV.ptr 0 0),(6,qm i),(7,vv is),(8,qm k)],[(0,bb st)],1⟩=some (aE i st r):=gP k9.partial_correctness fun _ _⟨_,_,_,_⟩=>gW
@[go_sem] def aD (st:qr):((Bool)⊕(Unit))->Ex×St
 | .inl y=>(Ex.ret,⟨[(2,zt y)],[(0,bb st)],1⟩)
 | .inr y=>(Ex.normal,⟨[(2,AV.undef)],[(0,bb st)],1⟩)
instance:xq gT fun(i,st) r=>O.loop 95 2 ⟨[(1,AV.ptr 0 0),(6,qm i)],[(0,bb st)],1⟩=some (aD st r):=gP gT.partial_correctness fun _ _⟨_,_⟩=>gW
instance(st):ze (hC st) (fun r=>O.call 95 [vv st] []=some (zt r,[])):=⟨by unfold hC;exact gW⟩
@[go_sem] def du (es:(Sl qo)):((Int)⊕(Unit))->Ex×St
 | .inl y=>(Ex.ret,⟨[(1,vv es),(4,qm y)],[],0⟩)
 | .inr y=>(Ex.normal,⟨[(1,vv es),(4,AV.undef)],[],0⟩)
instance:xq yR fun(n,es,i) r=>O.loop 140 0 ⟨[(0,qm n),(1,vv es),(5,qm i)],[],0⟩=some (du es r):=gP yR.partial_correctness fun _ _⟨_,_,_⟩=>gW
instance:xq uN fun(es,i,l) r=>O.loop 201 0 ⟨[(0,vv es),(3,qp 0 l),(4,qm i)],[(0,br l)],1⟩=some (Ex.normal,⟨[(3,qp 0 r)],[(0,br r)],1⟩):=gP uN.partial_correctness fun _ _⟨_,_,_⟩=>gW
instance(es):ze (dv es) (fun r=>O.call 201 [vv es] []=some (vv r,[])):=⟨by unfold dv;exact gW⟩
instance:xq gZ fun(l,out,i,k) r=>O.loop 155 2 ⟨[(0,vv l),(3,vv out),(4,qm i),(5,qm k)],[],0⟩=some (Ex.normal,⟨[(0,vv l),(3,vv out),(4,qm i),(5,qm r)],[],0⟩):=gP gZ.partial_correctness fun _ _⟨_,_,_,_⟩=>gW
instance:xq gY fun(l,out,i) r=>O.loop 155 0 ⟨[(0,vv l),(3,vv out),(4,qm i)],[],0⟩=some (Ex.normal,⟨[(3,vv r)],[],0⟩):=gP gY.partial_correctness fun _ _⟨_,_,_⟩=>gW
instance(l):ze (cn l) (fun r=>O.call 155 [vv l] []=some (vv r,[])):=⟨by unfold cn;exact gW⟩
@[go_sem] def fh:((Bool)⊕(Unit))->Ex×St
 | .inl y=>(Ex.ret,⟨[(2,zt y)],[],0⟩)
 | .inr y=>(Ex.normal,⟨[(2,AV.undef)],[],0⟩)
instance:xq yf fun(s,i) r=>O.loop 200 0 ⟨[(3,vv s),(4,qm i)],[],0⟩=some (fh r):=gP yf.partial_correctness fun _ _⟨_,_⟩=>gW
instance(l):ze (dn l) (fun r=>O.call 200 [vv l] []=some (zt r,[])):=⟨by unfold dn;exact gW⟩
instance(n es):ze (sr n es) (fun r=>O.call 140 [qm n,vv es] []=some (qm r,[])):=⟨by unfold sr;exact gW⟩
instance:xq uM fun(n,es,i) r=>O.loop 141 0 ⟨[(0,qm n),(1,vv es),(5,qm i)],[],0⟩=some (Ex.normal,⟨[(0,qm r)],[],0⟩):=gP uM.partial_correctness fun _ _⟨_,_,_⟩=>gW
instance(n es):ze (dq n es) (fun r=>O.call 141 [qm n,vv es] []=some (qm r,[])):=⟨by unfold dq;exact gW⟩
instance(n es):ze (aK n es) (fun r=>O.call 96 [qm n,vv es] []=some (qm r,[])):=⟨by unfold aK;exact gW⟩
instance:xq kM fun(a,s,fl) r=>O.loop 142 0 ⟨[(1,AV.ptr 0 0),(3,qp 1 fl.l),(4,qm a)],[(0,bb s),(1,nV [1] 1 zX fl)],2⟩=some (Ex.normal,⟨[(3,qp 1 r.l)],[(0,bb s),(1,nV [1] 1 zX r)],2⟩):=gP kM.partial_correctness fun _ _⟨_,_,_⟩=>gW
instance(s):ze (hK s) (fun r=>O.call 142 [vv s] []=some (qp 0 r.l,[(0,nV [1] 1 zX r)])):=⟨by unfold hK;exact gW⟩
instance:xq yL fun(i,st,zb,qR,w,mw) r=>O.loop 97 0 ⟨[(1,AV.ptr 0 0),(3,AV.ptr 3 0),(4,qm i)],[(0,bb st),(1,bm zb),(2,bm qR),(3,qC.box [qL w,qp 1 zb,qp 2 qR,qp 4 mw.l]),(4,nV [1,1] 1 (ng 1 zX) mw)],5⟩=some (Ex.normal,⟨[(3,AV.ptr 3 0)],[(0,bb st),(1,bm zb),(2,bm qR),(3,qC.box [qL w,qp 1 zb,qp 2 qR,qp 4 r.l]),(4,nV [1,1] 1 (ng 1 zX) r)],5⟩):=gP yL.partial_correctness fun _ _⟨_,_,_,_,_,_⟩=>gW
instance(st):ze (pw st) (fun r=>O.call 97 [vv st] []=some (AV.ptr 0 0,[(0,qC.box [qL r.1,vv r.2.1,qp 1 r.2.2.1,qp 2 r.2.2.2.l]),(1,bm r.2.2.1),(2,nV [1,1] 1 (ng 1 zX) r.2.2.2)])):=⟨by unfold pw;exact gW⟩
@[go_sem] def df (a:Int) (s:qc) (qk:ql):((Int)⊕(Unit))->Ex×St
 | .inl y=>(Ex.ret,⟨[(2,AV.ptr 0 0),(3,AV.ptr 1 0),(4,qm a),(5,qm y),(6,qm a)],[(0,bb s),(1,bb qk)],2⟩)
 | .inr y=>(Ex.normal,⟨[(2,AV.ptr 0 0),(3,AV.ptr 1 0),(4,AV.undef),(5,AV.undef),(6,qm a)],[(0,bb s),(1,bb qk)],2⟩)
instance:xq xY fun(a,k,s,qk) r=>O.loop 10 2 ⟨[(2,AV.ptr 0 0),(3,AV.ptr 1 0),(6,qm a),(7,qm k)],[(0,bb s),(1,bb qk)],2⟩=some (df a s qk r):=gP xY.partial_correctness fun _ _⟨_,_,_,_⟩=>gW
@[go_sem] def de (s:qc) (qk:ql):((Int×Int)⊕(Unit))->Ex×St
 | .inl y=>(Ex.ret,⟨[(4,qm y.1),(5,qm y.2)],[(0,bb s),(1,bb qk)],2⟩)
 | .inr y=>(Ex.normal,⟨[(4,AV.undef),(5,AV.undef)],[(0,bb s),(1,bb qk)],2⟩)
instance:xq jn fun(a,s,qk) r=>O.loop 10 0 ⟨[(2,AV.ptr 0 0),(3,AV.ptr 1 0),(6,qm a)],[(0,bb s),(1,bb qk)],2⟩=some (de s qk r):=gP jn.partial_correctness fun _ _⟨_,_,_⟩=>gW
instance(s qk):ze (ko s qk) (fun r=>O.call 10 [vv s,vv qk] []=some (AV.xS [qm r.1,qm r.2],[])):=⟨by unfold ko;exact gW⟩
@[go_sem] def dg (s:qc):((Bool)⊕(Unit))->Ex×St
 | .inl y=>(Ex.ret,⟨[(4,zt y)],[(0,bb s)],1⟩)
 | .inr y=>(Ex.normal,⟨[(4,AV.undef)],[(0,bb s)],1⟩)
instance:xq jo fun(es,i,s) r=>O.loop 12 0 ⟨[(1,vv es),(2,AV.ptr 0 0),(5,qm i)],[(0,bb s)],1⟩=some (dg s r):=gP jo.partial_correctness fun _ _⟨_,_,_⟩=>gW
instance(s es):ze (ur s es) (fun r=>O.call 12 [vv s,vv es] []=some (zt r,[])):=⟨by unfold ur;exact gW⟩
instance:xq jN fun(es,n,w,w2,zb,qR) r=>O.loop 98 0 ⟨[(0,AV.ptr 0 0),(1,vv es),(4,qm n)],[(0,qC.box [qL w,vv w2,qp 1 zb,qp 2 qR.l]),(1,bm zb),(2,nV [1,1] 1 (ng 1 zX) qR)],3⟩=some (Ex.normal,⟨[(0,AV.ptr 0 0),(1,vv es),(4,qm r)],[(0,qC.box [qL w,vv w2,qp 1 zb,qp 2 qR.l]),(1,bm zb),(2,nV [1,1] 1 (ng 1 zX) qR)],3⟩):=gP jN.partial_correctness fun _ _⟨_,_,_,_,_,_⟩=>gW
instance:xq bc fun(es,out,i,k) r=>O.loop 143 2 ⟨[(0,vv es),(3,vv out),(4,qm i),(5,qm k)],[],0⟩=some (Ex.normal,⟨[(0,vv es),(3,vv out),(4,qm i),(5,qm r)],[],0⟩):=gP bc.partial_correctness fun _ _⟨_,_,_,_⟩=>gW
instance:xq ba fun(es,out,i) r=>O.loop 143 0 ⟨[(0,vv es),(3,vv out),(4,qm i)],[],0⟩=some (Ex.normal,⟨[(3,vv r)],[],0⟩):=gP ba.partial_correctness fun _ _⟨_,_,_⟩=>gW
instance(es):ze (cq es) (fun r=>O.call 143 [vv es] []=some (vv r,[])):=⟨by unfold cq;exact gW⟩
instance:xq kh fun(top,inst,stop,mark,i,w,w2,ss,qR,e,is,ks) r=>O.loop 144 0 ⟨[(0,AV.ptr 0 0),(1,qm top),(2,qm inst),(3,qm stop),(5,zt mark),(10,AV.ptr 3 0),(12,qp 1 ss),(13,qp 4 is),(14,qp 5 ks),(15,qm i)],[(0,qC.box [qL w,vv w2,qp 1 ss,qp 2 qR.l]),(1,bm ss),(2,nV [1,1] 1 (ng 1 zX) qR),(3,bb e),(4,bm is),(5,bm ks)],6⟩=some (Ex.normal,⟨[(0,AV.ptr 0 0),(1,qm top),(2,qm inst),(3,qm stop),(5,zt mark),(10,AV.ptr 3 0),(12,qp 1 ss),(13,qp 4 r.1),(14,qp 5 r.2)],[(0,qC.box [qL w,vv w2,qp 1 ss,qp 2 qR.l]),(1,bm ss),(2,nV [1,1] 1 (ng 1 zX) qR),(3,bb e),(4,bm r.1),(5,bm r.2)],6⟩):=gP kh.partial_correctness fun _ _⟨_,_,_,_,_,_,_,_,_,_,_,_⟩=>gW
instance:xq jr fun(top,mark,i,w,w2,ss,qR,e,is,ks,qk) r=>O.loop 144 2 ⟨[(0,AV.ptr 0 0),(1,qm top),(5,zt mark),(10,AV.ptr 3 0),(12,qp 1 ss),(13,qp 4 is),(14,qp 5 ks),(16,AV.ptr 6 0),(17,qm i)],[(0,qC.box [qL w,vv w2,qp 1 ss,qp 2 qR.l]),(1,bm ss),(2,nV [1,1] 1 (ng 1 zX) qR),(3,bb e),(4,bm is),(5,bm ks),(6,bb qk)],7⟩=some (Ex.normal,⟨[(0,AV.ptr 0 0),(1,qm top),(5,zt mark),(10,AV.ptr 3 0),(12,qp 1 ss),(13,qp 4 r.1),(14,qp 5 r.2.1)],[(0,qC.box [qL w,vv w2,qp 1 ss,qp 2 qR.l]),(1,bm ss),(2,nV [1,1] 1 (ng 1 zX) qR),(3,bb e),(4,bm r.1),(5,bm r.2.1),(6,bb r.2.2)],7⟩):=gP jr.partial_correctness fun _ _⟨_,_,_,_,_,_,_,_,_,_,_⟩=>gW
instance:xq gV fun(a,base,k,s,l,qR) r=>O.loop 255 2 ⟨[(1,AV.ptr 0 0),(3,qp 1 l),(4,qm a),(5,qm base),(6,qm k)],[(0,bb s),(1,br l),(2,bm qR)],3⟩=some (Ex.normal,⟨[(1,AV.ptr 0 0),(3,qp 1 r),(4,qm a)],[(0,bb s),(1,br r),(2,bm qR)],3⟩):=gP gV.partial_correctness fun _ _⟨_,_,_,_,_,_⟩=>gW
instance:xq gU fun(a,s,l) r=>O.loop 255 0 ⟨[(1,AV.ptr 0 0),(3,qp 1 l),(4,qm a)],[(0,bb s),(1,br l)],2⟩=some (Ex.normal,⟨[(3,qp 1 r)],[(0,bb s),(1,br r)],2⟩):=gP gU.partial_correctness fun _ _⟨_,_,_⟩=>gW
instance(s):ze (aF s) (fun r=>O.call 255 [vv s] []=some (vv r,[])):=⟨by unfold aF;exact gW⟩
instance:xq yN fun(inst,qk,a,s) r=>O.loop 258 0 ⟨[(1,qm inst),(3,AV.ptr 0 0),(7,qm qk),(8,qm a)],[(0,bb s)],1⟩=some (Ex.normal,⟨[(7,qm r)],[(0,bb s)],1⟩):=gP yN.partial_correctness fun _ _⟨_,_,_,_⟩=>gW
instance(s inst stop):ze (nB s inst stop) (fun r=>O.call 258 [vv s,qm inst,qm stop] []=some (qm r,[])):=⟨by unfold nB;exact gW⟩
instance:xq ye fun(l,xu,deep,r_,e,h_,w6) r=>O.loop 257 0 ⟨[(0,vv l),(1,qm xu),(3,zt deep),(6,AV.ptr 0 0),(9,qp 1 h_),(10,qp 2 w6),(11,qm r_)],[(0,bb e),(1,bm h_),(2,bm w6)],3⟩=some (Ex.normal,⟨[(0,vv l),(1,qm xu),(3,zt deep),(6,AV.ptr 0 0),(9,qp 1 r),(10,qp 2 w6)],[(0,bb e),(1,bm r),(2,bm w6)],3⟩):=gP ye.partial_correctness fun _ _⟨_,_,_,_,_,_,_⟩=>gW
instance:xq qD fun(l,xu,deep,r_,e,h_,w6) r=>O.loop 257 2 ⟨[(0,vv l),(1,qm xu),(3,zt deep),(6,AV.ptr 0 0),(9,qp 1 h_),(10,qp 2 w6),(12,qm r_)],[(0,bb e),(1,bm h_),(2,bm w6)],3⟩=some (Ex.normal,⟨[(9,qp 1 r.1)],[(0,bb e),(1,bm r.1),(2,bm r.2)],3⟩):=gP qD.partial_correctness fun _ _⟨_,_,_,_,_,_,_⟩=>gW
instance(l xu e deep):ze (dh l xu e deep) (fun r=>O.call 257 [vv l,qm xu,vv e,zt deep] []=some (vv r,[])):=⟨by unfold dh;exact gW⟩
instance:xq wN fun(l,h_,last,r_,e) r=>O.loop 256 0 ⟨[(0,vv l),(1,vv h_),(5,AV.ptr 0 0),(7,qm last),(8,qm r_)],[(0,bb e)],1⟩=some (Ex.normal,⟨[(0,vv l),(1,vv h_),(5,AV.ptr 0 0),(7,qm r)],[(0,bb e)],1⟩):=gP wN.partial_correctness fun _ _⟨_,_,_,_,_⟩=>gW
instance:xq zK fun(l,h_,last,r_,e,out) r=>O.loop 256 2 ⟨[(0,vv l),(1,vv h_),(5,AV.ptr 0 0),(7,qm last),(9,qp 1 out),(10,qm r_)],[(0,bb e),(1,bm out)],2⟩=some (Ex.normal,⟨[(9,qp 1 r)],[(0,bb e),(1,bm r)],2⟩):=gP zK.partial_correctness fun _ _⟨_,_,_,_,_,_⟩=>gW
instance(l h_ e):ze (sk l h_ e) (fun r=>O.call 256 [vv l,vv h_,vv e] []=some (vv r,[])):=⟨by unfold sk;exact gW⟩
instance(qk right e):ze (dr qk right e) (fun r=>O.call 296 [qm qk,zt right,vv e] []=some (qm r,[])):=⟨by unfold dr;exact gW⟩
instance(s side e):ze (px s side e) (fun r=>O.call 259 [vv s,qm side,vv e] []=some (vv r,[])):=⟨by unfold px;exact gW⟩
instance:xq xZ fun(mark,sd,r_,a,alive,k,fl,s,e,Wu,out,flags,pD,i,i2,z6,f,pC) r=>O.loop 202 2 ⟨[(1,qp 0 fl.l),(6,zt mark),(7,AV.ptr 1 0),(11,AV.ptr 2 0),(14,AV.ptr 3 0),(17,vv sd),(18,AV.ptr 4 0),(19,qp 5 flags.l),(20,qm r_),(21,qm a),(22,AV.ptr 7 0),(23,zt alive),(24,qp 9 f),(25,qp 8 z6),(26,qm k)],[(0,nV [1] 1 zX fl),(1,bb s),(2,bb e),(3,bb Wu),(4,qC.box [qm out,qp 6 pD]),(5,nV [1] 1 zX flags),(6,br pD),(7,qC.box [qm i,qm i2,qp 10 pC]),(8,bm z6),(9,br f),(10,br pC)],11⟩=some (Ex.normal,⟨[(1,qp 0 r.2.1.l),(6,zt mark),(7,AV.ptr 1 0),(11,AV.ptr 2 0),(14,AV.ptr 3 0),(17,vv sd),(18,AV.ptr 4 0),(19,qp 5 flags.l),(20,qm r.1),(21,qm a),(22,AV.ptr 7 0),(23,zt alive),(24,qp 9 r.2.2.2.1)],[(0,nV [1] 1 zX r.2.1),(1,bb s),(2,bb e),(3,bb Wu),(4,qC.box [qm out,qp 6 pD]),(5,nV [1] 1 zX flags),(6,br pD),(7,qC.box [qm i,qm i2,qp 10 r.2.2.2.2]),(8,bm r.2.2.1),(9,br r.2.2.2.1),(10,br r.2.2.2.2)],11⟩):=gP xZ.partial_correctness fun _ _⟨_,_,_,_,_,_,_,_,_,_,_,_,_,_,_,_,_,_⟩=>gW
instance:xq wM fun(mark,sd,r_,a,fl,s,e,Wu,out,flags,pD) r=>O.loop 202 0 ⟨[(1,qp 0 fl.l),(6,zt mark),(7,AV.ptr 1 0),(11,AV.ptr 2 0),(14,AV.ptr 3 0),(17,vv sd),(18,AV.ptr 4 0),(19,qp 5 flags.l),(20,qm r_),(21,qm a)],[(0,nV [1] 1 zX fl),(1,bb s),(2,bb e),(3,bb Wu),(4,qC.box [qm out,qp 6 pD]),(5,nV [1] 1 zX flags),(6,br pD)],7⟩=some (Ex.normal,⟨[(14,AV.ptr 3 0),(18,AV.ptr 4 0),(19,qp 5 r.2.1.l)],[(0,nV [1] 1 zX r.1),(1,bb s),(2,bb e),(3,bb Wu),(4,qC.box [qm out,qp 6 r.2.2]),(5,nV [1] 1 zX r.2.1),(6,br r.2.2)],7⟩):=gP wM.partial_correctness fun _ _⟨_,_,_,_,_,_,_,_,_,_,_⟩=>gW
instance(s inst stop e deep mark r_):ze (uu s inst stop e deep mark r_) (fun r=>O.call 202 [vv s,qp 0 r_.l,qm inst,qm stop,vv e,zt deep,zt mark] [(0,nV [1] 1 zX r_)]=some (AV.xS [vv r.1,qp 1 r.2.2.l],[(0,nV [1] 1 zX r.2.1),(1,nV [1] 1 zX r.2.2)])):=⟨by unfold uu;exact gW⟩
instance:xq js fun(top,mark,i,w,w2,ss,qR,e,is,ks,b6_) r=>O.loop 144 4 ⟨[(0,AV.ptr 0 0),(1,qm top),(5,zt mark),(10,AV.ptr 3 0),(12,qp 1 ss),(13,qp 4 is),(14,qp 5 ks),(20,qm i)],[(0,qC.box [qL w,vv w2,qp 1 ss,qp 2 qR.l]),(1,bm ss),(2,nV [1,1] 1 (ng 1 zX) qR),(3,bb e),(4,bm is),(5,bm ks),(6,bb b6_)],7⟩=some (Ex.normal,⟨[(0,AV.ptr 0 0),(10,AV.ptr 3 0)],[(0,qC.box [qL w,vv w2,qp 1 r.1,qp 2 r.2.l]),(1,bm r.1),(2,nV [1,1] 1 (ng 1 zX) r.2),(3,bb e),(4,bm is),(5,bm ks),(6,bb b6_)],7⟩):=gP js.partial_correctness fun _ _⟨_,_,_,_,_,_,_,_,_,_,_⟩=>gW
instance:xq nQ fun(qk,right,l,i) r=>O.loop 260 0 ⟨[(0,qm qk),(1,zt right),(7,vv l),(8,qm i)],[],0⟩=some (Ex.normal,⟨[(0,qm r)],[],0⟩):=gP nQ.partial_correctness fun _ _⟨_,_,_,_⟩=>gW
instance(qk right es):ze (cp qk right es) (fun r=>O.call 260 [qm qk,zt right,vv es] []=some (qm r,[])):=⟨by unfold cp;exact gW⟩
instance:xq bf fun(l,es,i,out) r=>O.loop 203 0 ⟨[(0,vv l),(1,vv es),(5,qp 1 out),(6,qm i)],[(0,qC.xf),(1,br out)],2⟩=some (Ex.normal,⟨[(5,qp 1 r)],[(0,qC.xf),(1,br r)],2⟩):=gP bf.partial_correctness fun _ _⟨_,_,_,_⟩=>gW
instance(l r_):ze (cr l r_) (fun r=>O.call 203 [vv l,qp 0 r_] [(0,bm r_)]=some (vv r,[(0,qC.xf)])):=⟨by unfold cr;exact gW⟩
instance:xq xN fun(top,mark,i,w,w2,ss,qR,e,is,ks) r=>O.loop 144 4 ⟨[(0,AV.ptr 0 0),(1,qm top),(5,zt mark),(10,AV.ptr 3 0),(12,qp 1 ss),(13,qp 4 is),(14,qp 5 ks),(20,qm i)],[(0,qC.box [qL w,vv w2,qp 1 ss,qp 2 qR.l]),(1,bm ss),(2,nV [1,1] 1 (ng 1 zX) qR),(3,bb e),(4,bm is),(5,bm ks)],6⟩=some (Ex.normal,⟨[(0,AV.ptr 0 0),(10,AV.ptr 3 0)],[(0,qC.box [qL w,vv w2,qp 1 r.1,qp 2 r.2.l]),(1,bm r.1),(2,nV [1,1] 1 (ng 1 zX) r.2),(3,bb e),(4,bm is),(5,bm ks)],6⟩):=gP xN.partial_correctness fun _ _⟨_,_,_,_,_,_,_,_,_,_⟩=>gW
instance(top inst stop e mark b b_2 r_ r_2):ze (jy top inst stop e mark b b_2 r_ r_2) (fun r=>O.call 144 [AV.ptr 0 0,qm top,qm inst,qm stop,vv e,zt mark] [(0,qC.box [qL b,vv b_2,qp 1 r_,qp 2 r_2.l]),(1,bm r_),(2,nV [1,1] 1 (ng 1 zX) r_2)]=some (AV.xS [],[(0,qC.box [qL r.1,vv r.2.1,qp 1 r.2.2.1,qp 2 r.2.2.2.l]),(1,bm r.2.2.1),(2,nV [1,1] 1 (ng 1 zX) r.2.2.2)])):=⟨by unfold jy;exact gW⟩
instance:xq xz fun(n,l,i,w,w2,zT,mw) r=>O.loop 98 2 ⟨[(0,AV.ptr 0 0),(4,qm n),(5,vv l),(6,qm i)],[(0,qC.box [qL w,vv w2,qp 3 zT,qp 4 mw.l]),(1,qC.xf),(2,qC.xf),(3,bm zT),(4,nV [1,1] 1 (ng 1 zX) mw)],5⟩=some (Ex.normal,⟨[],[(0,qC.box [qL r.1,vv r.2.1,qp 3 r.2.2.1,qp 4 r.2.2.2.l]),(1,qC.xf),(2,qC.xf),(3,bm r.2.2.1),(4,nV [1,1] 1 (ng 1 zX) r.2.2.2)],5⟩):=gP xz.partial_correctness fun _ _⟨_,_,_,_,_,_,_⟩=>gW
instance(es b b_2 r_ r_2):ze (ym es b b_2 r_ r_2) (fun r=>O.call 98 [AV.ptr 0 0,vv es] [(0,qC.box [qL b,vv b_2,qp 1 r_,qp 2 r_2.l]),(1,bm r_),(2,nV [1,1] 1 (ng 1 zX) r_2)]=some (AV.xS [],[(0,qC.box [qL r.1,vv r.2.1,qp 3 r.2.2.1,qp 4 r.2.2.2.l]),(1,qC.xf),(2,qC.xf),(3,bm r.2.2.1),(4,nV [1,1] 1 (ng 1 zX) r.2.2.2)])):=⟨by unfold ym;exact gW⟩
instance:xq gQ fun(ns,n,k) r=>O.loop 173 0 ⟨[(0,vv ns),(1,qm n),(5,qm k)],[],0⟩=some (Ex.normal,⟨[(0,vv ns),(1,qm n),(5,qm r)],[],0⟩):=gP gQ.partial_correctness fun _ _⟨_,_,_⟩=>gW
instance(ns n):ze (pj ns n) (fun r=>O.call 173 [vv ns,qm n] []=some (vv r,[])):=⟨by unfold pj;exact gW⟩
instance:xq yH fun(tz,k,i) r=>O.loop 145 0 ⟨[(1,AV.ptr 0 0),(3,vv tz),(4,qm k)],[(0,bb i)],1⟩=some (Ex.normal,⟨[(1,AV.ptr 0 0),(3,vv r)],[(0,bb i)],1⟩):=gP yH.partial_correctness fun _ _⟨_,_,_⟩=>gW
@[go_sem] def dc (l:(List Int)):((Bool)⊕(Unit))->Ex×St
 | .inl y=>(Ex.ret,⟨[(4,zt y)],[(0,br l)],1⟩)
 | .inr y=>(Ex.normal,⟨[(4,AV.undef)],[(0,br l)],1⟩)
instance:xq yK fun(n,i,l) r=>O.loop 204 0 ⟨[(0,qp 0 l),(1,qm n),(5,qm i)],[(0,br l)],1⟩=some (dc l r):=gP yK.partial_correctness fun _ _⟨_,_,_⟩=>gW
instance(n r_):ze (nA n r_) (fun r=>O.call 204 [qp 0 r_,qm n] [(0,br r_)]=some (zt r,[(0,br r_)])):=⟨by unfold nA;exact gW⟩
@[go_sem] def ff (l:(Sl qu)) (n:Int) (a:Int) (zE:(List Int)):((Bool)⊕(Unit))->Ex×St
 | .inl y=>(Ex.ret,⟨[(0,vv l),(1,qm n),(2,qp 0 zE),(6,zt y),(7,qm a)],[(0,br zE)],1⟩)
 | .inr y=>(Ex.normal,⟨[(0,vv l),(1,qm n),(2,qp 0 zE),(6,AV.undef),(7,qm a)],[(0,br zE)],1⟩)
instance:xq yd fun(l,n,a,b,zE) r=>O.loop 205 2 ⟨[(0,vv l),(1,qm n),(2,qp 0 zE),(7,qm a),(8,qm b)],[(0,br zE)],1⟩=some (ff l n a zE r):=gP yd.partial_correctness fun _ _⟨_,_,_,_,_⟩=>gW
@[go_sem] def fe (zE:(List Int)):((Bool)⊕(Unit))->Ex×St
 | .inl y=>(Ex.ret,⟨[(6,zt y)],[(0,br zE)],1⟩)
 | .inr y=>(Ex.normal,⟨[(6,AV.undef)],[(0,br zE)],1⟩)
instance:xq wD fun(l,n,a,zE) r=>O.loop 205 0 ⟨[(0,vv l),(1,qm n),(2,qp 0 zE),(7,qm a)],[(0,br zE)],1⟩=some (fe zE r):=gP wD.partial_correctness fun _ _⟨_,_,_,_⟩=>gW
instance(l n r_):ze (dd l n r_) (fun r=>O.call 205 [vv l,qm n,qp 0 r_] [(0,br r_)]=some (zt r,[(0,br r_)])):=⟨by unfold dd;exact gW⟩
instance:xq kK fun(tz,next,found,k,i,zE) r=>O.loop 145 4 ⟨[(1,AV.ptr 0 0),(3,vv tz),(5,qp 1 zE),(6,qm next),(7,zt found),(8,qm k)],[(0,bb i),(1,br zE)],2⟩=some (Ex.normal,⟨[(1,AV.ptr 0 0),(3,vv tz),(5,qp 1 zE),(6,qm r.1),(7,zt r.2)],[(0,bb i),(1,br zE)],2⟩):=gP kK.partial_correctness fun _ _⟨_,_,_,_,_,_⟩=>gW
instance:xq wL fun(tz,next,found,k,i,zE) r=>O.loop 145 6 ⟨[(1,AV.ptr 0 0),(3,vv tz),(5,qp 1 zE),(6,qm next),(7,zt found),(9,qm k)],[(0,bb i),(1,br zE)],2⟩=some (Ex.normal,⟨[(1,AV.ptr 0 0),(3,vv tz),(5,qp 1 zE),(6,qm r)],[(0,bb i),(1,br zE)],2⟩):=gP wL.partial_correctness fun _ _⟨_,_,_,_,_,_⟩=>gW
instance:xq yI fun(tz,i,zE) r=>O.loop 145 2 ⟨[(1,AV.ptr 0 0),(3,vv tz),(5,qp 1 zE)],[(0,bb i),(1,br zE)],2⟩=some (Ex.normal,⟨[(5,qp 1 r)],[(0,bb i),(1,br r)],2⟩):=gP yI.partial_correctness fun _ _⟨_,_,_⟩=>gW
instance(i):ze (sj i) (fun r=>O.call 145 [vv i] []=some (vv r,[])):=⟨by unfold sj;exact gW⟩
instance:xq jd fun(i,a,n,k,w,w2,zb,qR,w6,held) r=>O.loop 146 0 ⟨[(0,AV.ptr 0 0),(1,qm i),(2,qm a),(3,qm n),(9,AV.ptr 3 0),(10,qp 4 held),(11,qm k)],[(0,qC.box [qL w,vv w2,qp 1 zb,qp 2 qR.l]),(1,bm zb),(2,nV [1,1] 1 (ng 1 zX) qR),(3,bb w6),(4,bm held)],5⟩=some (Ex.normal,⟨[(0,AV.ptr 0 0),(1,qm i),(2,qm a),(3,qm n),(9,AV.ptr 3 0),(10,qp 4 r.2)],[(0,qC.box [qL w,vv w2,qp 1 zb,qp 2 r.1.l]),(1,bm zb),(2,nV [1,1] 1 (ng 1 zX) r.1),(3,bb w6),(4,bm r.2)],5⟩):=gP jd.partial_correctness fun _ _⟨_,_,_,_,_,_,_,_,_,_⟩=>gW
@[go_sem] def sN (i:qw):((Int×Int×Int)⊕(Int×Int))->Ex×St
 | .inl y=>(Ex.ret,⟨[(6,qm y.1),(7,qm y.2.1),(8,qm y.2.2)],[(0,bb i)],1⟩)
 | .inr y=>(Ex.normal,⟨[(6,AV.undef),(7,qm y.1),(8,qm y.2)],[(0,bb i)],1⟩)
instance:xq zA fun(n,held,first,QX,k,i) r=>O.loop 206 0 ⟨[(1,qm n),(2,vv held),(3,AV.ptr 0 0),(7,qm first),(8,qm QX),(9,qm k)],[(0,bb i)],1⟩=some (sN i r):=gP zA.partial_correctness fun _ _⟨_,_,_,_,_,_⟩=>gW
instance(i n held):ze (pZ i n held) (fun r=>O.call 206 [vv i,qm n,vv held] []=some (qm r,[])):=⟨by unfold pZ;exact gW⟩
instance:xq je fun(i,a,n,src,k,w,w2,zb,qR,w6) r=>O.loop 146 2 ⟨[(0,AV.ptr 0 0),(1,qm i),(2,qm a),(3,qm n),(9,AV.ptr 3 0),(12,qm src),(13,qm k)],[(0,qC.box [qL w,vv w2,qp 1 zb,qp 2 qR.l]),(1,bm zb),(2,nV [1,1] 1 (ng 1 zX) qR),(3,bb w6),(4,qC.xf)],5⟩=some (Ex.normal,⟨[(0,AV.ptr 0 0),(1,qm i),(2,qm a),(3,qm n),(9,AV.ptr 3 0),(12,qm src)],[(0,qC.box [qL w,vv w2,qp 1 zb,qp 2 r.l]),(1,bm zb),(2,nV [1,1] 1 (ng 1 zX) r),(3,bb w6),(4,qC.xf)],5⟩):=gP je.partial_correctness fun _ _⟨_,_,_,_,_,_,_,_,_,_⟩=>gW
theorem eS:(∀ p r,uf p=some r->O.call 323 [vv p] []=some (qm r,[]))/\(∀ p r,kF p=some r->match p with|(n,i,x)=>O.loop 323 0 ⟨[(1,AV.ptr 0 0),(3,qm n),(4,qm i)],[(0,bb x)],1⟩=some (Ex.normal,⟨[(3,qm r)],[(0,bb x)],1⟩)):=by
 refine uf.mutual_partial_correctness _ _ ?_ ?_
 ·intro kF i;have j128:=fun p=>ze.mk (i p);clear i;rintro _;exact gW
 intro uf kF i127 i128;have j127:=fun p=>ze.mk (i127 p);clear i127;have j128:=fun p=>ze.mk (i128 p);clear i128;rintro⟨_,_,_⟩;exact gW
instance(p):ze (uf p) (fun r=>O.call 323 [vv p] []=some (qm r,[])):=⟨fun r=>eS.1 p r⟩
instance(p):ze (kF p) (fun r=>match p with|(n,i,x)=>O.loop 323 0 ⟨[(1,AV.ptr 0 0),(3,qm n),(4,qm i)],[(0,bb x)],1⟩=some (Ex.normal,⟨[(3,qm r)],[(0,bb x)],1⟩)):=⟨fun r=>eS.2 p r⟩
theorem iR:(∀ p r,gI p=some r->O.call 324 [vv p] []=some (qm r,[]))/\(∀ p r,wy p=some r->match p with|(n,i,x)=>O.loop 324 0 ⟨[(1,AV.ptr 0 0),(3,qm n),(4,qm i)],[(0,bb x)],1⟩=some (Ex.normal,⟨[(1,AV.ptr 0 0),(3,qm r)],[(0,bb x)],1⟩)):=by
 refine gI.mutual_partial_correctness _ _ ?_ ?_
 ·intro wy i;have j130:=fun p=>ze.mk (i p);clear i;rintro _;exact gW
 intro gI wy i129 i130;have j129:=fun p=>ze.mk (i129 p);clear i129;have j130:=fun p=>ze.mk (i130 p);clear i130;rintro⟨_,_,_⟩;exact gW
instance(p):ze (gI p) (fun r=>O.call 324 [vv p] []=some (qm r,[])):=⟨fun r=>iR.1 p r⟩
instance(p):ze (wy p) (fun r=>match p with|(n,i,x)=>O.loop 324 0 ⟨[(1,AV.ptr 0 0),(3,qm n),(4,qm i)],[(0,bb x)],1⟩=some (Ex.normal,⟨[(1,AV.ptr 0 0),(3,qm r)],[(0,bb x)],1⟩)):=⟨fun r=>iR.2 p r⟩
@[go_sem] def aq (n:Int) (x:qE):((Bool)⊕(Unit))->Ex×St
 | .inl y=>(Ex.ret,⟨[(1,AV.ptr 0 0),(2,zt y),(3,qm n)],[(0,bb x)],1⟩)
 | .inr y=>(Ex.normal,⟨[(1,AV.ptr 0 0),(2,AV.undef),(3,qm n)],[(0,bb x)],1⟩)
instance:xq gJ fun(n,i,x) r=>O.loop 325 3 ⟨[(1,AV.ptr 0 0),(3,qm n),(5,qm i)],[(0,bb x)],1⟩=some (aq n x r):=gP gJ.partial_correctness fun _ _⟨_,_,_⟩=>gW
instance(x):ze (yy x) (fun r=>O.call 343 [vv x] []=some (zt r,[])):=⟨by unfold yy;exact gW⟩
@[go_sem] def ar (n:Int) (x:qE):((Bool)⊕(Unit))->Ex×St
 | .inl y=>(Ex.ret,⟨[(1,AV.ptr 0 0),(2,zt y),(3,qm n)],[(0,bb x)],1⟩)
 | .inr y=>(Ex.normal,⟨[(1,AV.ptr 0 0),(2,AV.undef),(3,qm n)],[(0,bb x)],1⟩)
instance:xq gK fun(n,i,x) r=>O.loop 325 5 ⟨[(1,AV.ptr 0 0),(3,qm n),(6,qm i)],[(0,bb x)],1⟩=some (ar n x r):=gP gK.partial_correctness fun _ _⟨_,_,_⟩=>gW
instance(c):ze (vh c) (fun r=>O.call 210 [AV.pv (PV.int IntKind.u8 (c.toNat:Int))] []=some (zt r,[])):=⟨by unfold vh;exact gW⟩
instance:xq zy fun(s,qO,i,l) r=>O.loop 265 0 ⟨[(0,qL s),(3,qp 0 l),(4,qm qO),(5,qm i)],[(0,br l)],1⟩=some (Ex.normal,⟨[(3,qp 0 r)],[(0,br r)],1⟩):=gP zy.partial_correctness fun _ _⟨_,_,_,_⟩=>gW
instance(s):ze (vX s) (fun r=>O.call 265 [qL s] []=some (vv r,[])):=⟨by unfold vX;exact gW⟩
instance(c):ze (jf c) (fun r=>O.call 344 [qL c] []=some (zt r,[])):=⟨by unfold jf;exact gW⟩
@[go_sem] def ai:((Bool)⊕(Unit))->Ex×St
 | .inl y=>(Ex.ret,⟨[(2,zt y)],[],0⟩)
 | .inr y=>(Ex.normal,⟨[(2,AV.undef)],[],0⟩)
instance:xq ue fun(rows,i) r=>O.loop 345 0 ⟨[(0,vv rows),(3,qm i)],[],0⟩=some (ai r):=gP ue.partial_correctness fun _ _⟨_,_⟩=>gW
instance(rows):ze (ah rows) (fun r=>O.call 345 [vv rows] []=some (zt r,[])):=⟨by unfold ah;exact gW⟩
instance(x):ze (pU x) (fun r=>O.call 346 [vv x] []=some (zt r,[])):=⟨by unfold pU;exact gW⟩
@[go_sem] def re (n:Int) (x:qE):((Bool)⊕(Unit))->Ex×St
 | .inl y=>(Ex.ret,⟨[(1,AV.ptr 0 0),(2,zt y),(3,qm n)],[(0,bb x)],1⟩)
 | .inr y=>(Ex.normal,⟨[(1,AV.ptr 0 0),(2,AV.undef),(3,qm n)],[(0,bb x)],1⟩)
theorem l5:(∀ p r,nP p=some r->O.call 325 [vv p] []=some (zt r,[]))/\(∀ p r,vO p=some r->match p with|(n,i,x)=>O.loop 325 0 ⟨[(1,AV.ptr 0 0),(3,qm n),(4,qm i)],[(0,bb x)],1⟩=some (re n x r)):=by
 refine nP.mutual_partial_correctness _ _ ?_ ?_
 ·intro vO i;have j132:=fun p=>ze.mk (i p);clear i;rintro _;exact gW
 intro nP vO i131 i132;have j131:=fun p=>ze.mk (i131 p);clear i131;have j132:=fun p=>ze.mk (i132 p);clear i132;rintro⟨_,_,_⟩;exact gW
instance(p):ze (nP p) (fun r=>O.call 325 [vv p] []=some (zt r,[])):=⟨fun r=>l5.1 p r⟩
instance(p):ze (vO p) (fun r=>match p with|(n,i,x)=>O.loop 325 0 ⟨[(1,AV.ptr 0 0),(3,qm n),(4,qm i)],[(0,bb x)],1⟩=some (re n x r)):=⟨fun r=>l5.2 p r⟩
instance(x):ze (r9 x) (fun r=>O.call 297 [vv x] []=some (zt r,[])):=⟨by unfold r9;exact gW⟩
instance(w7):ze (rf w7) (fun r=>O.call 309 [qm w7] []=some (qL r,[])):=⟨by unfold rf;exact gW⟩
@[go_sem] def aw:((Bool)⊕(Unit))->Ex×St
 | .inl y=>(Ex.ret,⟨[(2,zt y)],[],0⟩)
 | .inr y=>(Ex.normal,⟨[(2,AV.undef)],[],0⟩)
instance:xq xw fun(fs,i) r=>O.loop 298 0 ⟨[(0,vv fs),(3,qm i)],[],0⟩=some (aw r):=gP xw.partial_correctness fun _ _⟨_,_⟩=>gW
instance(fs):ze (cd fs) (fun r=>O.call 298 [vv fs] []=some (zt r,[])):=⟨by unfold cd;exact gW⟩
instance(f):ze (cf f) (fun r=>O.call 261 [vv f] []=some (zt r,[])):=⟨by unfold cf;exact gW⟩
instance:xq xX fun(s,i,l) r=>O.loop 326 0 ⟨[(0,qL s),(3,qp 0 l),(4,qm i)],[(0,bm l)],1⟩=some (Ex.normal,⟨[(3,qp 0 r)],[(0,bm r)],1⟩):=gP xX.partial_correctness fun _ _⟨_,_,_⟩=>gW
instance(s):ze (pS s) (fun r=>O.call 326 [qL s] []=some (vv r,[])):=⟨by unfold pS;exact gW⟩
instance(fold s fuel):ze (ph fold s fuel) (fun r=>O.call 299 [zt fold,qL s,qm fuel] []=some (AV.ptr 0 0,[(0,bb r)])):=⟨by unfold ph;exact gW⟩
theorem ak:(∀ p r,jC p=some r->O.call 347 [vv p] []=some (qm r,[]))/\(∀ p r,jw p=some r->match p with|(n,i,x)=>O.loop 347 0 ⟨[(1,AV.ptr 0 0),(3,qm n),(4,qm i)],[(0,bb x)],1⟩=some (Ex.normal,⟨[(3,qm r)],[(0,bb x)],1⟩)):=by
 refine jC.mutual_partial_correctness _ _ ?_ ?_
 ·intro jw i;have j156:=fun p=>ze.mk (i p);clear i;rintro _;exact gW
 intro jC jw i155 i156;have j155:=fun p=>ze.mk (i155 p);clear i155;have j156:=fun p=>ze.mk (i156 p);clear i156;rintro⟨_,_,_⟩;exact gW
instance(p):ze (jC p) (fun r=>O.call 347 [vv p] []=some (qm r,[])):=⟨fun r=>ak.1 p r⟩
instance(p):ze (jw p) (fun r=>match p with|(n,i,x)=>O.loop 347 0 ⟨[(1,AV.ptr 0 0),(3,qm n),(4,qm i)],[(0,bb x)],1⟩=some (Ex.normal,⟨[(3,qm r)],[(0,bb x)],1⟩)):=⟨fun r=>ak.2 p r⟩
instance:xq yX fun(i,j,r_,x,t6,Vj) r=>O.loop 327 0 ⟨[(0,AV.ptr 0 0),(2,qm i),(4,AV.ptr 1 0),(6,AV.ptr 2 0),(8,qp 3 Vj),(9,qm j)],[(0,bb r_),(1,bb x),(2,bb t6),(3,br Vj)],4⟩=some (Ex.normal,⟨[(0,AV.ptr 0 0),(2,qm i),(4,AV.ptr 1 0),(6,AV.ptr 2 0),(8,qp 3 r)],[(0,bb r_),(1,bb x),(2,bb t6),(3,br r)],4⟩):=gP yX.partial_correctness fun _ _⟨_,_,_,_,_,_⟩=>gW
instance:xq vd fun(k,i,j,r_,p_) r=>O.loop 373 0 ⟨[(0,AV.ptr 0 0),(1,AV.pv (qe.rP k)),(2,qm i),(11,qp 1 p_),(12,qm j)],[(0,bb r_),(1,bm p_)],2⟩=some (Ex.normal,⟨[(0,AV.ptr 0 0),(1,AV.pv (qe.rP k)),(2,qm i),(11,qp 1 r)],[(0,bb r_),(1,bm r)],2⟩):=gP vd.partial_correctness fun _ _⟨_,_,_,_,_⟩=>gW
instance:xq vu fun(k,i,parts,rest,g,j,r_) r=>O.loop 348 1 ⟨[(0,AV.ptr 0 0),(1,AV.pv (qe.rP k)),(2,qm i),(3,vv parts),(12,AV.pv (qe.rP rest)),(13,qm g),(14,qm j)],[(0,bb r_)],1⟩=some (Ex.normal,⟨[(0,AV.ptr 0 0),(2,qm i),(3,vv parts),(12,AV.pv (qe.rP r))],[(0,bb r_)],1⟩):=gP vu.partial_correctness fun _ _⟨_,_,_,_,_,_,_⟩=>gW
instance(c):ze (mO c) (fun r=>O.call 376 [qL c] []=some (zt r,[])):=⟨by unfold mO;exact gW⟩
@[go_sem] def eR:((Bool)⊕(Unit))->Ex×St
 | .inl y=>(Ex.ret,⟨[(4,zt y)],[],0⟩)
 | .inr y=>(Ex.normal,⟨[(4,AV.undef)],[],0⟩)
instance:xq gn fun(rows,c,i) r=>O.loop 378 0 ⟨[(0,vv rows),(1,qL c),(5,qm i)],[],0⟩=some (eR r):=gP gn.partial_correctness fun _ _⟨_,_,_⟩=>gW
instance(rows c):ze (cQ rows c) (fun r=>O.call 378 [vv rows,qL c] []=some (zt r,[])):=⟨by unfold cQ;exact gW⟩
instance:xq kz fun(i,b) r=>O.loop 368 0 ⟨[(3,qp 0 b),(4,qm i)],[(0,bm b)],1⟩=some (Ex.normal,⟨[(3,qp 0 r)],[(0,bm r)],1⟩):=gP kz.partial_correctness fun _ _⟨_,_⟩=>gW
instance(s):ze (uC s) (fun r=>O.call 368 [qL s] []=some (qL r,[])):=⟨by unfold uC;exact gW⟩
instance:xq wI fun(i,b) r=>O.loop 379 0 ⟨[(3,qp 0 b),(4,qm i)],[(0,bm b)],1⟩=some (Ex.normal,⟨[(3,qp 0 r)],[(0,bm r)],1⟩):=gP wI.partial_correctness fun _ _⟨_,_⟩=>gW
instance(s):ze (s8 s) (fun r=>O.call 379 [qL s] []=some (qL r,[])):=⟨by unfold s8;exact gW⟩
instance(rows not fold c):ze (ag rows not fold c) (fun r=>O.call 377 [vv rows,zt not,zt fold,qL c] []=some (zt r,[])):=⟨by unfold ag;exact gW⟩
end Go.Proofs.YtmllebdamdnhoaaGreat
