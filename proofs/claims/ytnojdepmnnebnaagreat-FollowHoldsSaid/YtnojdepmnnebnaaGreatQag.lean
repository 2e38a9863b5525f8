/-
  What the machine's calls come to: the plain functions.
-/
import Derived.Test.YtnojdepmnnebnaaGreatQaf
open Go.Gm.AV renaming ptr->x?,undef->f?,xV->Y?,pv->A?
open Go.Gm.Ex renaming normal->j?,ret->G?
open Go.Gm.PV renaming int->n?,sl->l?
open Go.Gm.qE renaming box->y?,xw->g!
open Go.IntKind renaming u8->R?
open Go.Proofs.YtnojdepmnnebnaaGreat.qe renaming cE->Q_
set_option linter.unusedSimpArgs false
set_option linter.unusedVariables false
set_option maxRecDepth 100000
namespace Go.Proofs.YtnojdepmnnebnaaGreat
open Go Go.Gm
attribute [go_sem] NT mD Ht QJ List.toList_toArray avOf pvOf lv List.take List.drop List.length_cons List.length_nil List.length_map og AV.MN List.append oe List.getElem?_cons_zero List.getElem?_cons_succ AV.refs AV.cq AV.rows if_true if_false List.nil_append List.append_nil List.cons_append Q9 unz rH X2 Br Cu List.getElem?_nil tB List.isEmpty_nil ki aUn WU PV.cells List.replicate List.set_cons_zero List.set_cons_succ rI Gn yI eq_self AV.yz qE.yz ek Wt aEq uX aO List.headD_cons jN Oi oG Bw qE.cq qE.refs List.flatMap_nil List.flatMap_cons sC BJ tX qE.slv List.map_cons List.map_nil List.drop_zero Option.isSome_none Option.isNone_none Option.isSome_some Option.isNone_some RZ Qu dB Hc Ha WQ U9 Xd KZ Qp Ke nN Jb Hb mb pX mH Q4 freshA uW bf Option.map_none PJ.eq_def Ed G6 X_nil X_uptoN X_uptoR X_uptoE X_codeR X_codeE X_skip X_ret X_exit X_seq X_cond Oa O6 O7 O9 Oc O8 Ob X_loop Od X_cmds0 X_cmdsC pR.eq_1 pR.eq_2 VN.eq_1 VN.eq_2 VN.eq_3 VN.eq_4 VN.eq_5 pres_S Y_nil Y_op Fe Fdq uW.eq_1 uW.eq_2 ev.eq_1 ev.eq_2 ev.eq_3 ev.eq_4 yp.get.eq_1 yp.get.eq_2 fq.eq_1 fq.eq_2 qZ.eq_1 qZ.eq_2 tG.eq_1 bG.eq_1 bG.eq_2 JD.eq_1 JD.eq_2 my.eq_1 my.eq_2 aBox.eq_1 ldP.eq_1 ldP.eq_2 EP.eq_1 EP.eq_2 TI.isAgg.eq_1 Jy.eq_1 qr.get.eq_1 qr.get.eq_2 qr.put.eq_1 qr.put.eq_2 T7 DZ F0 OI UZ BO UY BP OG OH T8 T3 BK BL T4 T6 T2 T1 T5 DY eQ.eq_1 AV.refs.pN.eq_1 AV.refs.pN.eq_2 AV.cq.Q1.eq_1 AV.cq.Q1.eq_2 uL.eq_1 uL.eq_2 vW.eq_1 vW.eq_2 RO RN RQ narrow.eq_1 i9.eq_1 restrict.eq_1 restrict.eq_2 qr.upto.eq_1 qr.upto.eq_2 qr.below.eq_1 qr.below.eq_2 yp.below.eq_1 yp.below.eq_2 cz.eq_1 cz.eq_2 decide_true and_self AV.rows.QV.eq_1 AV.rows.QV.eq_2 Nat.zero_lt_one Nat.lt_add_one Nat.zero_le jx Nat.zero_add Nat.add_zero and_true true_and Bool.and_true Bool.true_and decide_false ko rK.eq_1 rK.eq_2 fnEnd_N fnEnd_R fnE_S aj.eq_1 aj.eq_2 Uu.eq_1 Uu.eq_2 finish.eq_1 List.range_zero pos.eq_1 pos.eq_2 nU.eq_1 nU.eq_2 nU.eq_3 enter.eq_1 kc.eq_1 kc.eq_2 xe.eq_1 xe.eq_2 dq.eq_1 dq.eq_2 setEnv.eq_1 setEnv.eq_2 DF Z_nil Z_op Z_guard Fc Y_guard Tn Bool.not_false Bool.not_true Bool.or_self Bool.or_false Bool.false_or Bool.or_true Bool.true_or bool_ff bool_ft bool_tf Bool.and_self Bool.and_false Bool.false_and rL.eq_1 rL.eq_2 Nat.mul_one Nat.one_mul true_or or_true false_or or_false or_self and_false false_and Gm.freeze.eq_1 AV.yz.ry.eq_1 AV.yz.ry.eq_2 kj.eq_1 kj.eq_2 H7.eq_1 H7.eq_2 H7.eq_3 N4.eq_1 KB.eq_1 lG.eq_1 lG.eq_2 lE.eq_1 pW.eq_1 pW.eq_2 pick.eq_1 pick.eq_2 Gq.eq_1 Gq.eq_2 Wz.eq_1 Wz.eq_2 so.eq_1 jc.eq_1 jX.eq_1 jX.eq_2 WV.eq_1 cL.eq_1 TR OU OV OW OX OY again_0 again_1 again_2 again_3 again_4 leave_0 leave_1 leave_2 leave_3 leave_4 RW left_S canon.eq_1 RK.eq_1 RK.eq_2 Uq.eq_1 Uq.eq_2 ie.eq_1 ie.eq_2 PS keptL_S ZM.eq_1 orT.eq_1 orT.eq_2 isBytes.eq_1 Zv.eq_1 trimOff A0.eq_1 Dm szc_szc Dn MR MS Dp SG N1 SI N0 SH q0g Bj Bi Bk Kq.eq_1 Kq.eq_2 kE.eq_1 bool_tt rowApp_F rowApp_T range1 range2 range3 range4 range5 range6 DM DP Og VF DJ lset aNil_p1 aNil_p2 aNil_p3 aNil_p4 aNil_p5 aNil_s1 aNil_s2 aNil_s3 aNil_m1 aNil_m2 aNil_f1 aNil_f2 aNil_f3 Int.natCast_zero Int.cast_ofNat_Int u8_nat Dr List.take_length qi zu qM Qa v_l qt b_x b_r b_m Jg zL ay BH mz Ou Q8.eq_1 Q8.eq_2 slot_0 slot_1 slot_2 slot_3 slot_4 slot_14 slot_19 slot_20 slot_21 E0 E1 E2 E3 E4 E5 E6 Ke.eq_def List.map_append List.map_set List.length_append List.map_replicate List.length_replicate szc_or lz DX DW szc_or2 scal_int scal_rep map_oE Nat.sub_zero oE_app oE_len oE_nil oE_setR oE_flat rG rN q0y Option.map_some qS Sb app_ne lnil lcons mQ.eq_1 mQ.eq_2 ma nO nQ nP bN_eq nz_t nz_f nz_or Lp Lq tF tS tP tT jk sN mq kL take_ge oS1 oE_end oE_one oE_take szc_apC szc_apL AX T0 rG2 rZ fE0 szc_repI szcN beq_self_eq_true qn.qQ ql.qQ qy.qQ qV.qQ qG.qQ zt.qQ zn.qQ qq.qQ qj.qQ qb.qQ qv.qQ bO.qQ qw.qQ zy.qQ qN.qQ zh.qQ zK.qQ jG.qQ zP.qQ qD.qQ zG.qQ jH.qQ qW.qQ qc.qQ zX.qQ zW.qQ qP.qQ wk.qQ qk.qQ qd.qQ qC.qQ qf.qQ qe.SB qe.BM qe.Ys qe.Yt qe.qQ tbA tiA0 tiA1 tiA2 tiA3 ownL kpL prL fzL mfL cmL spL
set_option maxHeartbeats 4000000
@[go_sem] def i4 (ss:(List qa)):((Bool)⊕(Unit))->Ex×St
 | .inl y=>(G?,⟨[(4,zu y)],[(0,bm ss)],1⟩)
 | .inr y=>(j?,⟨[(4,f?)],[(0,bm ss)],1⟩)
instance:xy bQ fun(n,i,ss) r=>O.loop 11 0 ⟨[(0,qi n),(1,qt 0 ss),(5,qi i)],[(0,bm ss)],1⟩=some (i4 ss r):=gP bQ.partial_correctness fun _ _⟨_,_,_⟩=>gW
instance(n r_):zf (eZ n r_) (fun r=>O.call 11 [qi n,qt 0 r_] [(0,bm r_)]=some (zu r,[(0,bm r_)])):=⟨by unfold eZ;exact gW⟩
@[go_sem] def i6:((Bool)⊕(Unit))->Ex×St
 | .inl y=>(G?,⟨[(6,zu y)],[],0⟩)
 | .inr y=>(j?,⟨[(6,f?)],[],0⟩)
instance:xy bR fun(n,es,i) r=>O.loop 12 0 ⟨[(1,qi n),(2,vv es),(7,qi i)],[],0⟩=some (i6 r):=gP bR.partial_correctness fun _ _⟨_,_,_⟩=>gW
instance(many n es):zf (i5 many n es) (fun r=>O.call 12 [qi many,qi n,vv es] []=some (zu r,[])):=⟨by unfold i5;exact gW⟩
instance:xy mP fun(n,os,i,k,QG) r=>O.loop 4 2 ⟨[(1,qi n),(2,vv os),(7,qi i),(8,qi k)],[(0,bm QG)],1⟩=some (j?,⟨[(1,qi r),(2,vv os),(7,qi i)],[(0,bm QG)],1⟩):=gP mP.partial_correctness fun _ _⟨_,_,_,_,_⟩=>gW
@[go_sem] def oS:((Bool)⊕(Unit))->Ex×St
 | .inl y=>(G?,⟨[(6,zu y)],[],0⟩)
 | .inr y=>(j?,⟨[(6,f?)],[],0⟩)
instance:xy mO fun(n,os,i) r=>O.loop 4 0 ⟨[(1,qi n),(2,vv os),(7,qi i)],[],0⟩=some (oS r):=gP mO.partial_correctness fun _ _⟨_,_,_⟩=>gW
instance(many n os):zf (lQ many n os) (fun r=>O.call 4 [qi many,qi n,vv os] []=some (zu r,[])):=⟨by unfold lQ;exact gW⟩
instance(c):zf (wV c) (fun r=>O.call 96 [A? (n? R? (c.toNat:Int))] []=some (zu r,[])):=⟨by unfold wV;exact gW⟩
instance(c):zf (kG c) (fun r=>O.call 97 [A? (n? R? (c.toNat:Int))] []=some (zu r,[])):=⟨by unfold kG;exact gW⟩
@[go_sem] def aY:((Bool)⊕(Unit))->Ex×St
 | .inl y=>(G?,⟨[(2,zu y)],[],0⟩)
 | .inr y=>(j?,⟨[(2,f?)],[],0⟩)
instance:xy xW fun(s,i) r=>O.loop 57 0 ⟨[(0,qM s),(3,qi i)],[],0⟩=some (aY r):=gP xW.partial_correctness fun _ _⟨_,_⟩=>gW
instance(s):zf (jl s) (fun r=>O.call 57 [qM s] []=some (zu r,[])):=⟨by unfold jl;exact gW⟩
@[go_sem] def iC (name:qa) (value:qa) (out:(List qw)):((Int×(List qw))⊕(Unit))->Ex×St
 | .inl y=>(G?,⟨[(0,qM name),(1,qM value),(6,qt 0 y.2),(7,qi y.1),(8,qt 0 y.2)],[(0,bm y.2)],1⟩)
 | .inr y=>(j?,⟨[(0,qM name),(1,qM value),(6,f?),(7,f?),(8,qt 0 out)],[(0,bm out)],1⟩)
instance:xy ni fun(name,value,i,out) r=>O.loop 34 0 ⟨[(0,qM name),(1,qM value),(8,qt 0 out),(9,qi i)],[(0,bm out)],1⟩=some (iC name value out r):=gP ni.partial_correctness fun _ _⟨_,_,_,_⟩=>gW
instance(name value env):zf (dQ name value env) (fun r=>O.call 34 [qM name,qM value,vv env] []=some (Y? [vv r.1,qi r.2],[])):=⟨by unfold dQ;exact gW⟩
@[go_sem] def iM (m:qa) (m2:(Sl qy)) (m3:(Sl qb)):((Int×(Sl qw))⊕((Sl qw)))->Ex×St
 | .inl y=>(G?,⟨[(2,A? (PV.yd)),(3,qi y.1),(4,x? 1 0)],[(0,g!),(1,y? [qM m,vv m2,vv m3,vv y.2,A? (l? true 0 []),A? (l? true 0 [])])],2⟩)
 | .inr y=>(j?,⟨[(2,f?),(3,f?),(4,x? 1 0)],[(0,g!),(1,y? [qM m,vv m2,vv m3,vv y,A? (l? true 0 []),A? (l? true 0 [])])],2⟩)
instance:xy sc fun(env,i,m,m2,m3,m4) r=>O.loop 16 0 ⟨[(0,vv env),(4,x? 1 0),(5,qi i)],[(0,g!),(1,y? [qM m,vv m2,vv m3,vv m4,A? (l? true 0 []),A? (l? true 0 [])])],2⟩=some (iM m m2 m3 r):=gP sc.partial_correctness fun _ _⟨_,_,_,_,_,_⟩=>gW
@[go_sem] def QU:((Int)⊕(Int×qa×(Sl qy)×(Sl qb)×(Sl qw)))->AV×qr
 | .inl y=>(Y? [A? (PV.yd),qi y],[])
 | .inr y=>(Y? [x? 0 0,qi y.1],[(0,y? [qM y.2.1,vv y.2.2.1,vv y.2.2.2.1,vv y.2.2.2.2,A? (l? true 0 []),A? (l? true 0 [])])])
instance:zf (iL) (fun r=>O.call 16 [A? (l? true 0 [])] []=some (QU r)):=⟨by unfold iL;exact gW⟩
instance(s):zf (yX s) (fun r=>O.call 104 [vv s] []=some (vv r,[])):=⟨by unfold yX;exact gW⟩
instance:xy ua fun(l,text,i,es) r=>O.loop 59 0 ⟨[(0,vv l),(1,qM text),(5,qt 0 es),(6,qi i)],[(0,br es)],1⟩=some (j?,⟨[(5,qt 0 r)],[(0,br r)],1⟩):=gP ua.partial_correctness fun _ _⟨_,_,_,_⟩=>gW
instance(l text):zf (cN l text) (fun r=>O.call 59 [vv l,qM text] []=some (vv r,[])):=⟨by unfold cN;exact gW⟩
instance(s n):zf (tw s n) (fun r=>O.call 107 [vv s,qi n] []=some (zu r,[])):=⟨by unfold tw;exact gW⟩
@[go_sem] def iP (l:(Sl qy)):(((Sl qy)×Int)⊕(Unit))->Ex×St
 | .inl y=>(G?,⟨[(1,vv l),(4,vv y.1),(5,qi y.2)],[],0⟩)
 | .inr y=>(j?,⟨[(1,vv l),(4,f?),(5,f?)],[],0⟩)
instance:xy nB fun(n,l,i) r=>O.loop 61 0 ⟨[(0,qi n),(1,vv l),(6,qi i)],[],0⟩=some (iP l r):=gP nB.partial_correctness fun _ _⟨_,_,_⟩=>gW
instance(a b):zf (sX a b) (fun r=>O.call 163 [vv a,vv b] []=some (zu r,[])):=⟨by unfold sX;exact gW⟩
instance:xy gU fun(l,s,i,k) r=>O.loop 108 2 ⟨[(0,vv l),(3,vv s),(4,qi i),(5,qi k)],[],0⟩=some (j?,⟨[(0,vv l),(3,vv s),(4,qi i),(5,qi r)],[],0⟩):=gP gU.partial_correctness fun _ _⟨_,_,_,_⟩=>gW
instance:xy gT fun(l,s,i) r=>O.loop 108 0 ⟨[(0,vv l),(3,vv s),(4,qi i)],[],0⟩=some (j?,⟨[(3,vv r)],[],0⟩):=gP gT.partial_correctness fun _ _⟨_,_,_⟩=>gW
instance(a b):zf (sY a b) (fun r=>O.call 162 [vv a,vv b] []=some (zu r,[])):=⟨by unfold sY;exact gW⟩
instance(s back):zf (Kp s back) (fun r=>O.call 164 [vv s,zu back] []=some (vv r,[])):=⟨by unfold Kp;exact gW⟩
instance:xy vg fun(s,i,out) r=>O.loop 108 4 ⟨[(3,vv s),(6,qt 0 out),(7,qi i)],[(0,br out)],1⟩=some (j?,⟨[(6,qt 0 r)],[(0,br r)],1⟩):=gP vg.partial_correctness fun _ _⟨_,_,_⟩=>gW
instance(l):zf (sZ l) (fun r=>O.call 108 [vv l] []=some (vv r,[])):=⟨by unfold sZ;exact gW⟩
instance(n l):zf (bB n l) (fun r=>O.call 61 [qi n,vv l] []=some (Y? [vv r.1,qi r.2],[])):=⟨by unfold bB;exact gW⟩
@[go_sem] def iF (st:qv):((Bool)⊕(Unit))->Ex×St
 | .inl y=>(G?,⟨[(1,x? 0 0),(2,zu y)],[(0,bb st)],1⟩)
 | .inr y=>(j?,⟨[(1,x? 0 0),(2,f?)],[(0,bb st)],1⟩)
instance:xy nj fun(l,i,st) r=>O.loop 98 0 ⟨[(1,x? 0 0),(3,vv l),(5,qi i)],[(0,bb st)],1⟩=some (iF st r):=gP nj.partial_correctness fun _ _⟨_,_,_⟩=>gW
@[go_sem] def oW:((Bool)⊕(Unit))->Ex×St
 | .inl y=>(G?,⟨[(6,zu y)],[],0⟩)
 | .inr y=>(j?,⟨[(6,f?)],[],0⟩)
instance:xy kI fun(l,a,b) r=>O.loop 200 0 ⟨[(0,vv l),(1,qi a),(2,qi b)],[],0⟩=some (oW r):=gP kI.partial_correctness fun _ _⟨_,_,_⟩=>gW
instance(l a b):zf (tu l a b) (fun r=>O.call 200 [vv l,qi a,qi b] []=some (zu r,[])):=⟨by unfold tu;exact gW⟩
instance(a b):zf (xl a b) (fun r=>O.call 201 [vv a,vv b] []=some (zu r,[])):=⟨by unfold xl;exact gW⟩
@[go_sem] def iE (k:Int) (i:qj) (x:qq) (BF:qn):((Bool)⊕(Unit))->Ex×St
 | .inl y=>(G?,⟨[(2,x? 0 0),(4,zu y),(5,qi k)],[(0,bb i),(1,bb x),(2,bb BF)],3⟩)
 | .inr y=>(j?,⟨[(2,x? 0 0),(4,f?),(5,qi k)],[(0,bb i),(1,bb x),(2,bb BF)],3⟩)
instance:xy xD fun(k,j,i,x,BF) r=>O.loop 141 2 ⟨[(2,x? 0 0),(5,qi k),(6,x? 1 0),(8,qi j)],[(0,bb i),(1,bb x),(2,bb BF)],3⟩=some (iE k i x BF r):=gP xD.partial_correctness fun _ _⟨_,_,_,_,_⟩=>gW
@[go_sem] def iD (i:qj):((Bool)⊕(Unit))->Ex×St
 | .inl y=>(G?,⟨[(4,zu y)],[(0,bb i)],1⟩)
 | .inr y=>(j?,⟨[(4,f?)],[(0,bb i)],1⟩)
instance:xy zD fun(k,i) r=>O.loop 141 0 ⟨[(2,x? 0 0),(5,qi k)],[(0,bb i)],1⟩=some (iD i r):=gP zD.partial_correctness fun _ _⟨_,_⟩=>gW
instance(i n):zf (sV i n) (fun r=>O.call 141 [vv i,qi n] []=some (zu r,[])):=⟨by unfold sV;exact gW⟩
instance:xy wa fun(n,is,i,k,out) r=>O.loop 143 2 ⟨[(0,qi n),(1,vv is),(5,qt 0 out),(6,qi i),(7,qi k)],[(0,br out)],1⟩=some (j?,⟨[(0,qi n),(1,vv is),(5,qt 0 r),(6,qi i)],[(0,br r)],1⟩):=gP wa.partial_correctness fun _ _⟨_,_,_,_,_⟩=>gW
instance:xy uu fun(n,is,i,out) r=>O.loop 143 0 ⟨[(0,qi n),(1,vv is),(5,qt 0 out),(6,qi i)],[(0,br out)],1⟩=some (j?,⟨[(5,qt 0 r)],[(0,br r)],1⟩):=gP uu.partial_correctness fun _ _⟨_,_,_,_⟩=>gW
instance(n is):zf (wo n is) (fun r=>O.call 143 [qi n,vv is] []=some (vv r,[])):=⟨by unfold wo;exact gW⟩
@[go_sem] def ec (s:qn):((Bool)⊕(Unit))->Ex×St
 | .inl y=>(G?,⟨[(4,zu y)],[(0,bb s)],1⟩)
 | .inr y=>(j?,⟨[(4,f?)],[(0,bb s)],1⟩)
instance:xy gO fun(l,i,s) r=>O.loop 142 0 ⟨[(1,vv l),(2,x? 0 0),(5,qi i)],[(0,bb s)],1⟩=some (ec s r):=gP gO.partial_correctness fun _ _⟨_,_,_⟩=>gW
instance(s l):zf (gN s l) (fun r=>O.call 142 [vv s,vv l] []=some (zu r,[])):=⟨by unfold gN;exact gW⟩
@[go_sem] def iH (i:Int) (st:qv):((Bool)⊕(Unit))->Ex×St
 | .inl y=>(G?,⟨[(1,x? 0 0),(2,zu y),(6,qi i)],[(0,bb st)],1⟩)
 | .inr y=>(j?,⟨[(1,x? 0 0),(2,f?),(6,qi i)],[(0,bb st)],1⟩)
instance:xy kr fun(i,is,k,st) r=>O.loop 98 4 ⟨[(1,x? 0 0),(6,qi i),(7,vv is),(8,qi k)],[(0,bb st)],1⟩=some (iH i st r):=gP kr.partial_correctness fun _ _⟨_,_,_,_⟩=>gW
@[go_sem] def iG (st:qv):((Bool)⊕(Unit))->Ex×St
 | .inl y=>(G?,⟨[(2,zu y)],[(0,bb st)],1⟩)
 | .inr y=>(j?,⟨[(2,f?)],[(0,bb st)],1⟩)
instance:xy nk fun(i,st) r=>O.loop 98 2 ⟨[(1,x? 0 0),(6,qi i)],[(0,bb st)],1⟩=some (iG st r):=gP nk.partial_correctness fun _ _⟨_,_⟩=>gW
instance(st):zf (bu st) (fun r=>O.call 98 [vv st] []=some (zu r,[])):=⟨by unfold bu;exact gW⟩
@[go_sem] def ag (es:(Sl ql)):((Int)⊕(Unit))->Ex×St
 | .inl y=>(G?,⟨[(1,vv es),(4,qi y)],[],0⟩)
 | .inr y=>(j?,⟨[(1,vv es),(4,f?)],[],0⟩)
instance:xy uF fun(n,es,i) r=>O.loop 144 0 ⟨[(0,qi n),(1,vv es),(5,qi i)],[],0⟩=some (ag es r):=gP uF.partial_correctness fun _ _⟨_,_,_⟩=>gW
instance:xy gS fun(es,i,l) r=>O.loop 203 0 ⟨[(0,vv es),(3,qt 0 l),(4,qi i)],[(0,br l)],1⟩=some (j?,⟨[(3,qt 0 r)],[(0,br r)],1⟩):=gP gS.partial_correctness fun _ _⟨_,_,_⟩=>gW
instance(es):zf (ah es) (fun r=>O.call 203 [vv es] []=some (vv r,[])):=⟨by unfold ah;exact gW⟩
instance:xy nv fun(l,out,i,k) r=>O.loop 161 2 ⟨[(0,vv l),(3,vv out),(4,qi i),(5,qi k)],[],0⟩=some (j?,⟨[(0,vv l),(3,vv out),(4,qi i),(5,qi r)],[],0⟩):=gP nv.partial_correctness fun _ _⟨_,_,_,_⟩=>gW
instance:xy nu fun(l,out,i) r=>O.loop 161 0 ⟨[(0,vv l),(3,vv out),(4,qi i)],[],0⟩=some (j?,⟨[(3,vv r)],[],0⟩):=gP nu.partial_correctness fun _ _⟨_,_,_⟩=>gW
instance(l):zf (dS l) (fun r=>O.call 161 [vv l] []=some (vv r,[])):=⟨by unfold dS;exact gW⟩
@[go_sem] def ed:((Bool)⊕(Unit))->Ex×St
 | .inl y=>(G?,⟨[(2,zu y)],[],0⟩)
 | .inr y=>(j?,⟨[(2,f?)],[],0⟩)
instance:xy yQ fun(s,i) r=>O.loop 202 0 ⟨[(3,vv s),(4,qi i)],[],0⟩=some (ed r):=gP yQ.partial_correctness fun _ _⟨_,_⟩=>gW
instance(l):zf (a7 l) (fun r=>O.call 202 [vv l] []=some (zu r,[])):=⟨by unfold a7;exact gW⟩
instance(n es):zf (d9 n es) (fun r=>O.call 144 [qi n,vv es] []=some (qi r,[])):=⟨by unfold d9;exact gW⟩
instance:xy gR fun(n,es,i) r=>O.loop 145 0 ⟨[(0,qi n),(1,vv es),(5,qi i)],[],0⟩=some (j?,⟨[(0,qi r)],[],0⟩):=gP gR.partial_correctness fun _ _⟨_,_,_⟩=>gW
instance(n es):zf (aa n es) (fun r=>O.call 145 [qi n,vv es] []=some (qi r,[])):=⟨by unfold aa;exact gW⟩
instance(n es):zf (iN n es) (fun r=>O.call 99 [qi n,vv es] []=some (qi r,[])):=⟨by unfold iN;exact gW⟩
instance:xy wb fun(a,s,fl) r=>O.loop 146 0 ⟨[(1,x? 0 0),(3,qt 1 fl.l),(4,qi a)],[(0,bb s),(1,mb [1] 1 zL fl)],2⟩=some (j?,⟨[(3,qt 1 r.l)],[(0,bb s),(1,mb [1] 1 zL r)],2⟩):=gP wb.partial_correctness fun _ _⟨_,_,_⟩=>gW
instance(s):zf (uA s) (fun r=>O.call 146 [vv s] []=some (qt 0 r.l,[(0,mb [1] 1 zL r)])):=⟨by unfold uA;exact gW⟩
instance:xy uw fun(i,st,z7,qT,w,nL) r=>O.loop 100 0 ⟨[(1,x? 0 0),(3,x? 3 0),(4,qi i)],[(0,bb st),(1,bm z7),(2,bm qT),(3,y? [qM w,qt 1 z7,qt 2 qT,qt 4 nL.l]),(4,mb [1,1] 1 (mz 1 zL) nL)],5⟩=some (j?,⟨[(3,x? 3 0)],[(0,bb st),(1,bm z7),(2,bm qT),(3,y? [qM w,qt 1 z7,qt 2 qT,qt 4 r.l]),(4,mb [1,1] 1 (mz 1 zL) r)],5⟩):=gP uw.partial_correctness fun _ _⟨_,_,_,_,_,_⟩=>gW
instance(st):zf (rn st) (fun r=>O.call 100 [vv st] []=some (x? 0 0,[(0,y? [qM r.1,vv r.2.1,qt 1 r.2.2.1,qt 2 r.2.2.2.l]),(1,bm r.2.2.1),(2,mb [1,1] 1 (mz 1 zL) r.2.2.2)])):=⟨by unfold rn;exact gW⟩
@[go_sem] def fU (a:Int) (s:qb) (qp:qn):((Int)⊕(Unit))->Ex×St
 | .inl y=>(G?,⟨[(2,x? 0 0),(3,x? 1 0),(4,qi a),(5,qi y),(6,qi a)],[(0,bb s),(1,bb qp)],2⟩)
 | .inr y=>(j?,⟨[(2,x? 0 0),(3,x? 1 0),(4,f?),(5,f?),(6,qi a)],[(0,bb s),(1,bb qp)],2⟩)
instance:xy vA fun(a,k,s,qp) r=>O.loop 149 2 ⟨[(2,x? 0 0),(3,x? 1 0),(6,qi a),(7,qi k)],[(0,bb s),(1,bb qp)],2⟩=some (fU a s qp r):=gP vA.partial_correctness fun _ _⟨_,_,_,_⟩=>gW
@[go_sem] def fT (s:qb) (qp:qn):((Int×Int)⊕(Unit))->Ex×St
 | .inl y=>(G?,⟨[(4,qi y.1),(5,qi y.2)],[(0,bb s),(1,bb qp)],2⟩)
 | .inr y=>(j?,⟨[(4,f?),(5,f?)],[(0,bb s),(1,bb qp)],2⟩)
instance:xy ux fun(a,s,qp) r=>O.loop 149 0 ⟨[(2,x? 0 0),(3,x? 1 0),(6,qi a)],[(0,bb s),(1,bb qp)],2⟩=some (fT s qp r):=gP ux.partial_correctness fun _ _⟨_,_,_⟩=>gW
instance(s qp):zf (gm s qp) (fun r=>O.call 149 [vv s,vv qp] []=some (Y? [qi r.1,qi r.2],[])):=⟨by unfold gm;exact gW⟩
@[go_sem] def fV (s:qb):((Bool)⊕(Unit))->Ex×St
 | .inl y=>(G?,⟨[(4,zu y)],[(0,bb s)],1⟩)
 | .inr y=>(j?,⟨[(4,f?)],[(0,bb s)],1⟩)
instance:xy uy fun(es,i,s) r=>O.loop 147 0 ⟨[(1,vv es),(2,x? 0 0),(5,qi i)],[(0,bb s)],1⟩=some (fV s r):=gP uy.partial_correctness fun _ _⟨_,_,_⟩=>gW
instance(s es):zf (cY s es) (fun r=>O.call 147 [vv s,vv es] []=some (zu r,[])):=⟨by unfold cY;exact gW⟩
instance:xy k9 fun(es,n,w,w2,z7,qT) r=>O.loop 101 0 ⟨[(0,x? 0 0),(1,vv es),(4,qi n)],[(0,y? [qM w,vv w2,qt 1 z7,qt 2 qT.l]),(1,bm z7),(2,mb [1,1] 1 (mz 1 zL) qT)],3⟩=some (j?,⟨[(0,x? 0 0),(1,vv es),(4,qi r)],[(0,y? [qM w,vv w2,qt 1 z7,qt 2 qT.l]),(1,bm z7),(2,mb [1,1] 1 (mz 1 zL) qT)],3⟩):=gP k9.partial_correctness fun _ _⟨_,_,_,_,_,_⟩=>gW
instance:xy ny fun(es,out,i,k) r=>O.loop 148 2 ⟨[(0,vv es),(3,vv out),(4,qi i),(5,qi k)],[],0⟩=some (j?,⟨[(0,vv es),(3,vv out),(4,qi i),(5,qi r)],[],0⟩):=gP ny.partial_correctness fun _ _⟨_,_,_,_⟩=>gW
instance:xy nw fun(es,out,i) r=>O.loop 148 0 ⟨[(0,vv es),(3,vv out),(4,qi i)],[],0⟩=some (j?,⟨[(3,vv r)],[],0⟩):=gP nw.partial_correctness fun _ _⟨_,_,_⟩=>gW
instance(es):zf (dU es) (fun r=>O.call 148 [vv es] []=some (vv r,[])):=⟨by unfold dU;exact gW⟩
instance:xy kC fun(top,inst,stop,mark,i,w,w2,ss,qT,e,is,ks) r=>O.loop 150 0 ⟨[(0,x? 0 0),(1,qi top),(2,qi inst),(3,qi stop),(5,zu mark),(10,x? 3 0),(12,qt 1 ss),(13,qt 4 is),(14,qt 5 ks),(15,qi i)],[(0,y? [qM w,vv w2,qt 1 ss,qt 2 qT.l]),(1,bm ss),(2,mb [1,1] 1 (mz 1 zL) qT),(3,bb e),(4,bm is),(5,bm ks)],6⟩=some (j?,⟨[(0,x? 0 0),(1,qi top),(2,qi inst),(3,qi stop),(5,zu mark),(10,x? 3 0),(12,qt 1 ss),(13,qt 4 r.1),(14,qt 5 r.2)],[(0,y? [qM w,vv w2,qt 1 ss,qt 2 qT.l]),(1,bm ss),(2,mb [1,1] 1 (mz 1 zL) qT),(3,bb e),(4,bm r.1),(5,bm r.2)],6⟩):=gP kC.partial_correctness fun _ _⟨_,_,_,_,_,_,_,_,_,_,_,_⟩=>gW
instance:xy jE fun(top,mark,i,w,w2,ss,qT,e,is,ks,qp) r=>O.loop 150 2 ⟨[(0,x? 0 0),(1,qi top),(5,zu mark),(10,x? 3 0),(12,qt 1 ss),(13,qt 4 is),(14,qt 5 ks),(16,x? 6 0),(17,qi i)],[(0,y? [qM w,vv w2,qt 1 ss,qt 2 qT.l]),(1,bm ss),(2,mb [1,1] 1 (mz 1 zL) qT),(3,bb e),(4,bm is),(5,bm ks),(6,bb qp)],7⟩=some (j?,⟨[(0,x? 0 0),(1,qi top),(5,zu mark),(10,x? 3 0),(12,qt 1 ss),(13,qt 4 r.1),(14,qt 5 r.2.1)],[(0,y? [qM w,vv w2,qt 1 ss,qt 2 qT.l]),(1,bm ss),(2,mb [1,1] 1 (mz 1 zL) qT),(3,bb e),(4,bm r.1),(5,bm r.2.1),(6,bb r.2.2)],7⟩):=gP jE.partial_correctness fun _ _⟨_,_,_,_,_,_,_,_,_,_,_⟩=>gW
instance:xy nq fun(a,base,k,s,l,qT) r=>O.loop 254 2 ⟨[(1,x? 0 0),(3,qt 1 l),(4,qi a),(5,qi base),(6,qi k)],[(0,bb s),(1,br l),(2,bm qT)],3⟩=some (j?,⟨[(1,x? 0 0),(3,qt 1 r),(4,qi a)],[(0,bb s),(1,br r),(2,bm qT)],3⟩):=gP nq.partial_correctness fun _ _⟨_,_,_,_,_,_⟩=>gW
instance:xy np fun(a,s,l) r=>O.loop 254 0 ⟨[(1,x? 0 0),(3,qt 1 l),(4,qi a)],[(0,bb s),(1,br l)],2⟩=some (j?,⟨[(3,qt 1 r)],[(0,bb s),(1,br r)],2⟩):=gP np.partial_correctness fun _ _⟨_,_,_⟩=>gW
instance(s):zf (iI s) (fun r=>O.call 254 [vv s] []=some (vv r,[])):=⟨by unfold iI;exact gW⟩
instance:xy uB fun(inst,qp,a,s) r=>O.loop 257 0 ⟨[(1,qi inst),(3,x? 0 0),(7,qi qp),(8,qi a)],[(0,bb s)],1⟩=some (j?,⟨[(7,qi r)],[(0,bb s)],1⟩):=gP uB.partial_correctness fun _ _⟨_,_,_,_⟩=>gW
instance(s inst stop):zf (mW s inst stop) (fun r=>O.call 257 [vv s,qi inst,qi stop] []=some (qi r,[])):=⟨by unfold mW;exact gW⟩
instance:xy yP fun(l,xK,deep,r_,e,h_,kU) r=>O.loop 256 0 ⟨[(0,vv l),(1,qi xK),(3,zu deep),(6,x? 0 0),(9,qt 1 h_),(10,qt 2 kU),(11,qi r_)],[(0,bb e),(1,bm h_),(2,bm kU)],3⟩=some (j?,⟨[(0,vv l),(1,qi xK),(3,zu deep),(6,x? 0 0),(9,qt 1 r),(10,qt 2 kU)],[(0,bb e),(1,bm r),(2,bm kU)],3⟩):=gP yP.partial_correctness fun _ _⟨_,_,_,_,_,_,_⟩=>gW
instance:xy qI fun(l,xK,deep,r_,e,h_,kU) r=>O.loop 256 2 ⟨[(0,vv l),(1,qi xK),(3,zu deep),(6,x? 0 0),(9,qt 1 h_),(10,qt 2 kU),(12,qi r_)],[(0,bb e),(1,bm h_),(2,bm kU)],3⟩=some (j?,⟨[(9,qt 1 r.1)],[(0,bb e),(1,bm r.1),(2,bm r.2)],3⟩):=gP qI.partial_correctness fun _ _⟨_,_,_,_,_,_,_⟩=>gW
instance(l xK e deep):zf (fW l xK e deep) (fun r=>O.call 256 [vv l,qi xK,vv e,zu deep] []=some (vv r,[])):=⟨by unfold fW;exact gW⟩
instance:xy vC fun(l,h_,last,r_,e) r=>O.loop 255 0 ⟨[(0,vv l),(1,vv h_),(5,x? 0 0),(7,qi last),(8,qi r_)],[(0,bb e)],1⟩=some (j?,⟨[(0,vv l),(1,vv h_),(5,x? 0 0),(7,qi r)],[(0,bb e)],1⟩):=gP vC.partial_correctness fun _ _⟨_,_,_,_,_⟩=>gW
instance:xy xb fun(l,h_,last,r_,e,out) r=>O.loop 255 2 ⟨[(0,vv l),(1,vv h_),(5,x? 0 0),(7,qi last),(9,qt 1 out),(10,qi r_)],[(0,bb e),(1,bm out)],2⟩=some (j?,⟨[(9,qt 1 r)],[(0,bb e),(1,bm r)],2⟩):=gP xb.partial_correctness fun _ _⟨_,_,_,_,_,_⟩=>gW
instance(l h_ e):zf (cZ l h_ e) (fun r=>O.call 255 [vv l,vv h_,vv e] []=some (vv r,[])):=⟨by unfold cZ;exact gW⟩
instance(qp right e):zf (ae qp right e) (fun r=>O.call 295 [qi qp,zu right,vv e] []=some (qi r,[])):=⟨by unfold ae;exact gW⟩
instance(s side e):zf (ro s side e) (fun r=>O.call 258 [vv s,qi side,vv e] []=some (vv r,[])):=⟨by unfold ro;exact gW⟩
instance:xy ji fun(mark,sd,r_,a,alive,k,fl,s,e,aB,out,flags,uJ,i,i2,qY,f,rA) r=>O.loop 204 2 ⟨[(1,qt 0 fl.l),(6,zu mark),(7,x? 1 0),(11,x? 2 0),(14,x? 3 0),(17,vv sd),(18,x? 4 0),(19,qt 5 flags.l),(20,qi r_),(21,qi a),(22,x? 7 0),(23,zu alive),(24,qt 9 f),(25,qt 8 qY),(26,qi k)],[(0,mb [1] 1 zL fl),(1,bb s),(2,bb e),(3,bb aB),(4,y? [qi out,qt 6 uJ]),(5,mb [1] 1 zL flags),(6,br uJ),(7,y? [qi i,qi i2,qt 10 rA]),(8,bm qY),(9,br f),(10,br rA)],11⟩=some (j?,⟨[(1,qt 0 r.2.1.l),(6,zu mark),(7,x? 1 0),(11,x? 2 0),(14,x? 3 0),(17,vv sd),(18,x? 4 0),(19,qt 5 flags.l),(20,qi r.1),(21,qi a),(22,x? 7 0),(23,zu alive),(24,qt 9 r.2.2.2.1)],[(0,mb [1] 1 zL r.2.1),(1,bb s),(2,bb e),(3,bb aB),(4,y? [qi out,qt 6 uJ]),(5,mb [1] 1 zL flags),(6,br uJ),(7,y? [qi i,qi i2,qt 10 r.2.2.2.2]),(8,bm r.2.2.1),(9,br r.2.2.2.1),(10,br r.2.2.2.2)],11⟩):=gP ji.partial_correctness fun _ _⟨_,_,_,_,_,_,_,_,_,_,_,_,_,_,_,_,_,_⟩=>gW
instance:xy vB fun(mark,sd,r_,a,fl,s,e,aB,out,flags,uJ) r=>O.loop 204 0 ⟨[(1,qt 0 fl.l),(6,zu mark),(7,x? 1 0),(11,x? 2 0),(14,x? 3 0),(17,vv sd),(18,x? 4 0),(19,qt 5 flags.l),(20,qi r_),(21,qi a)],[(0,mb [1] 1 zL fl),(1,bb s),(2,bb e),(3,bb aB),(4,y? [qi out,qt 6 uJ]),(5,mb [1] 1 zL flags),(6,br uJ)],7⟩=some (j?,⟨[(14,x? 3 0),(18,x? 4 0),(19,qt 5 r.2.1.l)],[(0,mb [1] 1 zL r.1),(1,bb s),(2,bb e),(3,bb aB),(4,y? [qi out,qt 6 r.2.2]),(5,mb [1] 1 zL r.2.1),(6,br r.2.2)],7⟩):=gP vB.partial_correctness fun _ _⟨_,_,_,_,_,_,_,_,_,_,_⟩=>gW
instance(s inst stop e deep mark r_):zf (wq s inst stop e deep mark r_) (fun r=>O.call 204 [vv s,qt 0 r_.l,qi inst,qi stop,vv e,zu deep,zu mark] [(0,mb [1] 1 zL r_)]=some (Y? [vv r.1,qt 1 r.2.2.l],[(0,mb [1] 1 zL r.2.1),(1,mb [1] 1 zL r.2.2)])):=⟨by unfold wq;exact gW⟩
instance:xy jF fun(top,mark,i,w,w2,ss,qT,e,is,ks,b6_) r=>O.loop 150 4 ⟨[(0,x? 0 0),(1,qi top),(5,zu mark),(10,x? 3 0),(12,qt 1 ss),(13,qt 4 is),(14,qt 5 ks),(20,qi i)],[(0,y? [qM w,vv w2,qt 1 ss,qt 2 qT.l]),(1,bm ss),(2,mb [1,1] 1 (mz 1 zL) qT),(3,bb e),(4,bm is),(5,bm ks),(6,bb b6_)],7⟩=some (j?,⟨[(0,x? 0 0),(10,x? 3 0)],[(0,y? [qM w,vv w2,qt 1 r.1,qt 2 r.2.l]),(1,bm r.1),(2,mb [1,1] 1 (mz 1 zL) r.2),(3,bb e),(4,bm is),(5,bm ks),(6,bb b6_)],7⟩):=gP jF.partial_correctness fun _ _⟨_,_,_,_,_,_,_,_,_,_,_⟩=>gW
instance:xy pz fun(qp,right,l,i) r=>O.loop 259 0 ⟨[(0,qi qp),(1,zu right),(7,vv l),(8,qi i)],[],0⟩=some (j?,⟨[(0,qi r)],[],0⟩):=gP pz.partial_correctness fun _ _⟨_,_,_,_⟩=>gW
instance(qp right es):zf (dT qp right es) (fun r=>O.call 259 [qi qp,zu right,vv es] []=some (qi r,[])):=⟨by unfold dT;exact gW⟩
instance:xy nA fun(l,es,i,out) r=>O.loop 205 0 ⟨[(0,vv l),(1,vv es),(5,qt 1 out),(6,qi i)],[(0,g!),(1,br out)],2⟩=some (j?,⟨[(5,qt 1 r)],[(0,g!),(1,br r)],2⟩):=gP nA.partial_correctness fun _ _⟨_,_,_,_⟩=>gW
instance(l r_):zf (dV l r_) (fun r=>O.call 205 [vv l,qt 0 r_] [(0,bm r_)]=some (vv r,[(0,g!)])):=⟨by unfold dV;exact gW⟩
instance:xy jb fun(top,mark,i,w,w2,ss,qT,e,is,ks) r=>O.loop 150 4 ⟨[(0,x? 0 0),(1,qi top),(5,zu mark),(10,x? 3 0),(12,qt 1 ss),(13,qt 4 is),(14,qt 5 ks),(20,qi i)],[(0,y? [qM w,vv w2,qt 1 ss,qt 2 qT.l]),(1,bm ss),(2,mb [1,1] 1 (mz 1 zL) qT),(3,bb e),(4,bm is),(5,bm ks)],6⟩=some (j?,⟨[(0,x? 0 0),(10,x? 3 0)],[(0,y? [qM w,vv w2,qt 1 r.1,qt 2 r.2.l]),(1,bm r.1),(2,mb [1,1] 1 (mz 1 zL) r.2),(3,bb e),(4,bm is),(5,bm ks)],6⟩):=gP jb.partial_correctness fun _ _⟨_,_,_,_,_,_,_,_,_,_⟩=>gW
instance(top inst stop e mark b b_2 r_ r_2):zf (jL top inst stop e mark b b_2 r_ r_2) (fun r=>O.call 150 [x? 0 0,qi top,qi inst,qi stop,vv e,zu mark] [(0,y? [qM b,vv b_2,qt 1 r_,qt 2 r_2.l]),(1,bm r_),(2,mb [1,1] 1 (mz 1 zL) r_2)]=some (Y? [],[(0,y? [qM r.1,vv r.2.1,qt 1 r.2.2.1,qt 2 r.2.2.2.l]),(1,bm r.2.2.1),(2,mb [1,1] 1 (mz 1 zL) r.2.2.2)])):=⟨by unfold jL;exact gW⟩
instance:xy xO fun(n,l,i,w,w2,zS,nL) r=>O.loop 101 2 ⟨[(0,x? 0 0),(4,qi n),(5,vv l),(6,qi i)],[(0,y? [qM w,vv w2,qt 3 zS,qt 4 nL.l]),(1,g!),(2,g!),(3,bm zS),(4,mb [1,1] 1 (mz 1 zL) nL)],5⟩=some (j?,⟨[],[(0,y? [qM r.1,vv r.2.1,qt 3 r.2.2.1,qt 4 r.2.2.2.l]),(1,g!),(2,g!),(3,bm r.2.2.1),(4,mb [1,1] 1 (mz 1 zL) r.2.2.2)],5⟩):=gP xO.partial_correctness fun _ _⟨_,_,_,_,_,_,_⟩=>gW
instance(es b b_2 r_ r_2):zf (yW es b b_2 r_ r_2) (fun r=>O.call 101 [x? 0 0,vv es] [(0,y? [qM b,vv b_2,qt 1 r_,qt 2 r_2.l]),(1,bm r_),(2,mb [1,1] 1 (mz 1 zL) r_2)]=some (Y? [],[(0,y? [qM r.1,vv r.2.1,qt 3 r.2.2.1,qt 4 r.2.2.2.l]),(1,g!),(2,g!),(3,bm r.2.2.1),(4,mb [1,1] 1 (mz 1 zL) r.2.2.2)])):=⟨by unfold yW;exact gW⟩
instance:xy ng fun(ns,n,k) r=>O.loop 179 0 ⟨[(0,vv ns),(1,qi n),(5,qi k)],[],0⟩=some (j?,⟨[(0,vv ns),(1,qi n),(5,qi r)],[],0⟩):=gP ng.partial_correctness fun _ _⟨_,_,_⟩=>gW
instance(ns n):zf (ri ns n) (fun r=>O.call 179 [vv ns,qi n] []=some (vv r,[])):=⟨by unfold ri;exact gW⟩
instance:xy uq fun(mI,k,i) r=>O.loop 151 0 ⟨[(1,x? 0 0),(3,vv mI),(4,qi k)],[(0,bb i)],1⟩=some (j?,⟨[(1,x? 0 0),(3,vv r)],[(0,bb i)],1⟩):=gP uq.partial_correctness fun _ _⟨_,_,_⟩=>gW
@[go_sem] def fR (l:(List Int)):((Bool)⊕(Unit))->Ex×St
 | .inl y=>(G?,⟨[(4,zu y)],[(0,br l)],1⟩)
 | .inr y=>(j?,⟨[(4,f?)],[(0,br l)],1⟩)
instance:xy uv fun(n,i,l) r=>O.loop 206 0 ⟨[(0,qt 0 l),(1,qi n),(5,qi i)],[(0,br l)],1⟩=some (fR l r):=gP uv.partial_correctness fun _ _⟨_,_,_⟩=>gW
instance(n r_):zf (mV n r_) (fun r=>O.call 206 [qt 0 r_,qi n] [(0,br r_)]=some (zu r,[(0,br r_)])):=⟨by unfold mV;exact gW⟩
@[go_sem] def eb (l:(Sl qq)) (n:Int) (a:Int) (zU:(List Int)):((Bool)⊕(Unit))->Ex×St
 | .inl y=>(G?,⟨[(0,vv l),(1,qi n),(2,qt 0 zU),(6,zu y),(7,qi a)],[(0,br zU)],1⟩)
 | .inr y=>(j?,⟨[(0,vv l),(1,qi n),(2,qt 0 zU),(6,f?),(7,qi a)],[(0,br zU)],1⟩)
instance:xy yO fun(l,n,a,b,zU) r=>O.loop 207 2 ⟨[(0,vv l),(1,qi n),(2,qt 0 zU),(7,qi a),(8,qi b)],[(0,br zU)],1⟩=some (eb l n a zU r):=gP yO.partial_correctness fun _ _⟨_,_,_,_,_⟩=>gW
@[go_sem] def ea (zU:(List Int)):((Bool)⊕(Unit))->Ex×St
 | .inl y=>(G?,⟨[(6,zu y)],[(0,br zU)],1⟩)
 | .inr y=>(j?,⟨[(6,f?)],[(0,br zU)],1⟩)
instance:xy ve fun(l,n,a,zU) r=>O.loop 207 0 ⟨[(0,vv l),(1,qi n),(2,qt 0 zU),(7,qi a)],[(0,br zU)],1⟩=some (ea zU r):=gP ve.partial_correctness fun _ _⟨_,_,_,_⟩=>gW
instance(l n r_):zf (fS l n r_) (fun r=>O.call 207 [vv l,qi n,qt 0 r_] [(0,br r_)]=some (zu r,[(0,br r_)])):=⟨by unfold fS;exact gW⟩
instance:xy w9 fun(mI,next,found,k,i,zU) r=>O.loop 151 4 ⟨[(1,x? 0 0),(3,vv mI),(5,qt 1 zU),(6,qi next),(7,zu found),(8,qi k)],[(0,bb i),(1,br zU)],2⟩=some (j?,⟨[(1,x? 0 0),(3,vv mI),(5,qt 1 zU),(6,qi r.1),(7,zu r.2)],[(0,bb i),(1,br zU)],2⟩):=gP w9.partial_correctness fun _ _⟨_,_,_,_,_,_⟩=>gW
instance:xy vw fun(mI,next,found,k,i,zU) r=>O.loop 151 6 ⟨[(1,x? 0 0),(3,vv mI),(5,qt 1 zU),(6,qi next),(7,zu found),(9,qi k)],[(0,bb i),(1,br zU)],2⟩=some (j?,⟨[(1,x? 0 0),(3,vv mI),(5,qt 1 zU),(6,qi r)],[(0,bb i),(1,br zU)],2⟩):=gP vw.partial_correctness fun _ _⟨_,_,_,_,_,_⟩=>gW
instance:xy ur fun(mI,i,zU) r=>O.loop 151 2 ⟨[(1,x? 0 0),(3,vv mI),(5,qt 1 zU)],[(0,bb i),(1,br zU)],2⟩=some (j?,⟨[(5,qt 1 r)],[(0,bb i),(1,br r)],2⟩):=gP ur.partial_correctness fun _ _⟨_,_,_⟩=>gW
instance(i):zf (cX i) (fun r=>O.call 151 [vv i] []=some (vv r,[])):=⟨by unfold cX;exact gW⟩
instance:xy jq fun(i,a,n,k,w,w2,z7,qT,kU,held) r=>O.loop 152 0 ⟨[(0,x? 0 0),(1,qi i),(2,qi a),(3,qi n),(9,x? 3 0),(10,qt 4 held),(11,qi k)],[(0,y? [qM w,vv w2,qt 1 z7,qt 2 qT.l]),(1,bm z7),(2,mb [1,1] 1 (mz 1 zL) qT),(3,bb kU),(4,bm held)],5⟩=some (j?,⟨[(0,x? 0 0),(1,qi i),(2,qi a),(3,qi n),(9,x? 3 0),(10,qt 4 r.2)],[(0,y? [qM w,vv w2,qt 1 z7,qt 2 r.1.l]),(1,bm z7),(2,mb [1,1] 1 (mz 1 zL) r.1),(3,bb kU),(4,bm r.2)],5⟩):=gP jq.partial_correctness fun _ _⟨_,_,_,_,_,_,_,_,_,_⟩=>gW
@[go_sem] def dx (i:qj):((Int×Int×Int)⊕(Int×Int))->Ex×St
 | .inl y=>(G?,⟨[(6,qi y.1),(7,qi y.2.1),(8,qi y.2.2)],[(0,bb i)],1⟩)
 | .inr y=>(j?,⟨[(6,f?),(7,qi y.1),(8,qi y.2)],[(0,bb i)],1⟩)
instance:xy zQ fun(n,held,first,XI,k,i) r=>O.loop 208 0 ⟨[(1,qi n),(2,vv held),(3,x? 0 0),(7,qi first),(8,qi XI),(9,qi k)],[(0,bb i)],1⟩=some (dx i r):=gP zQ.partial_correctness fun _ _⟨_,_,_,_,_,_⟩=>gW
instance(i n held):zf (s8 i n held) (fun r=>O.call 208 [vv i,qi n,vv held] []=some (qi r,[])):=⟨by unfold s8;exact gW⟩
instance:xy jr fun(i,a,n,src,k,w,w2,z7,qT,kU) r=>O.loop 152 2 ⟨[(0,x? 0 0),(1,qi i),(2,qi a),(3,qi n),(9,x? 3 0),(12,qi src),(13,qi k)],[(0,y? [qM w,vv w2,qt 1 z7,qt 2 qT.l]),(1,bm z7),(2,mb [1,1] 1 (mz 1 zL) qT),(3,bb kU),(4,g!)],5⟩=some (j?,⟨[(0,x? 0 0),(1,qi i),(2,qi a),(3,qi n),(9,x? 3 0),(12,qi src)],[(0,y? [qM w,vv w2,qt 1 z7,qt 2 r.l]),(1,bm z7),(2,mb [1,1] 1 (mz 1 zL) r),(3,bb kU),(4,g!)],5⟩):=gP jr.partial_correctness fun _ _⟨_,_,_,_,_,_,_,_,_,_⟩=>gW
theorem oV:(∀ p r,uZ p=some r->O.call 322 [vv p] []=some (qi r,[]))/\(∀ p r,kY p=some r->match p with|(n,i,x)=>O.loop 322 0 ⟨[(1,x? 0 0),(3,qi n),(4,qi i)],[(0,bb x)],1⟩=some (j?,⟨[(3,qi r)],[(0,bb x)],1⟩)):=by refine uZ.mutual_partial_correctness _ _ ?_ ?_;intro kY i;have j128:=fun p=>zf.mk (i p);clear i;rintro _;exact gW;intro uZ kY i127 i128;have j127:=fun p=>zf.mk (i127 p);clear i127;have j128:=fun p=>zf.mk (i128 p);clear i128;rintro⟨_,_,_⟩;exact gW
instance(p):zf (uZ p) (fun r=>O.call 322 [vv p] []=some (qi r,[])):=⟨fun r=>oV.1 p r⟩
instance(p):zf (kY p) (fun r=>match p with|(n,i,x)=>O.loop 322 0 ⟨[(1,x? 0 0),(3,qi n),(4,qi i)],[(0,bb x)],1⟩=some (j?,⟨[(3,qi r)],[(0,bb x)],1⟩)):=⟨fun r=>oV.2 p r⟩
theorem lY:(∀ p r,bV p=some r->O.call 323 [vv p] []=some (qi r,[]))/\(∀ p r,wW p=some r->match p with|(n,i,x)=>O.loop 323 0 ⟨[(1,x? 0 0),(3,qi n),(4,qi i)],[(0,bb x)],1⟩=some (j?,⟨[(1,x? 0 0),(3,qi r)],[(0,bb x)],1⟩)):=by refine bV.mutual_partial_correctness _ _ ?_ ?_;intro wW i;have j130:=fun p=>zf.mk (i p);clear i;rintro _;exact gW;intro bV wW i129 i130;have j129:=fun p=>zf.mk (i129 p);clear i129;have j130:=fun p=>zf.mk (i130 p);clear i130;rintro⟨_,_,_⟩;exact gW
instance(p):zf (bV p) (fun r=>O.call 323 [vv p] []=some (qi r,[])):=⟨fun r=>lY.1 p r⟩
instance(p):zf (wW p) (fun r=>match p with|(n,i,x)=>O.loop 323 0 ⟨[(1,x? 0 0),(3,qi n),(4,qi i)],[(0,bb x)],1⟩=some (j?,⟨[(1,x? 0 0),(3,qi r)],[(0,bb x)],1⟩)):=⟨fun r=>lY.2 p r⟩
@[go_sem] def iv (n:Int) (x:qG):((Bool)⊕(Unit))->Ex×St
 | .inl y=>(G?,⟨[(1,x? 0 0),(2,zu y),(3,qi n)],[(0,bb x)],1⟩)
 | .inr y=>(j?,⟨[(1,x? 0 0),(2,f?),(3,qi n)],[(0,bb x)],1⟩)
instance:xy bX fun(n,i,x) r=>O.loop 324 3 ⟨[(1,x? 0 0),(3,qi n),(5,qi i)],[(0,bb x)],1⟩=some (iv n x r):=gP bX.partial_correctness fun _ _⟨_,_,_⟩=>gW
instance(x):zf (ue x) (fun r=>O.call 342 [vv x] []=some (zu r,[])):=⟨by unfold ue;exact gW⟩
@[go_sem] def iw (n:Int) (x:qG):((Bool)⊕(Unit))->Ex×St
 | .inl y=>(G?,⟨[(1,x? 0 0),(2,zu y),(3,qi n)],[(0,bb x)],1⟩)
 | .inr y=>(j?,⟨[(1,x? 0 0),(2,f?),(3,qi n)],[(0,bb x)],1⟩)
instance:xy bY fun(n,i,x) r=>O.loop 324 5 ⟨[(1,x? 0 0),(3,qi n),(6,qi i)],[(0,bb x)],1⟩=some (iw n x r):=gP bY.partial_correctness fun _ _⟨_,_,_⟩=>gW
instance(c):zf (vU c) (fun r=>O.call 212 [A? (n? R? (c.toNat:Int))] []=some (zu r,[])):=⟨by unfold vU;exact gW⟩
instance:xy zM fun(s,qB,i,l) r=>O.loop 264 0 ⟨[(0,qM s),(3,qt 0 l),(4,qi qB),(5,qi i)],[(0,br l)],1⟩=some (j?,⟨[(3,qt 0 r)],[(0,br r)],1⟩):=gP zM.partial_correctness fun _ _⟨_,_,_,_⟩=>gW
instance(s):zf (yJ s) (fun r=>O.call 264 [qM s] []=some (vv r,[])):=⟨by unfold yJ;exact gW⟩
instance(c):zf (jt c) (fun r=>O.call 343 [qM c] []=some (zu r,[])):=⟨by unfold jt;exact gW⟩
@[go_sem] def ip:((Bool)⊕(Unit))->Ex×St
 | .inl y=>(G?,⟨[(2,zu y)],[],0⟩)
 | .inr y=>(j?,⟨[(2,f?)],[],0⟩)
instance:xy uY fun(rows,i) r=>O.loop 344 0 ⟨[(0,vv rows),(3,qi i)],[],0⟩=some (ip r):=gP uY.partial_correctness fun _ _⟨_,_⟩=>gW
instance(rows):zf (ik rows) (fun r=>O.call 344 [vv rows] []=some (zu r,[])):=⟨by unfold ik;exact gW⟩
instance(x):zf (rV x) (fun r=>O.call 345 [vv x] []=some (zu r,[])):=⟨by unfold rV;exact gW⟩
@[go_sem] def sQ (n:Int) (x:qG):((Bool)⊕(Unit))->Ex×St
 | .inl y=>(G?,⟨[(1,x? 0 0),(2,zu y),(3,qi n)],[(0,bb x)],1⟩)
 | .inr y=>(j?,⟨[(1,x? 0 0),(2,f?),(3,qi n)],[(0,bb x)],1⟩)
theorem QT:(∀ p r,py p=some r->O.call 324 [vv p] []=some (zu r,[]))/\(∀ p r,yE p=some r->match p with|(n,i,x)=>O.loop 324 0 ⟨[(1,x? 0 0),(3,qi n),(4,qi i)],[(0,bb x)],1⟩=some (sQ n x r)):=by refine py.mutual_partial_correctness _ _ ?_ ?_;intro yE i;have j132:=fun p=>zf.mk (i p);clear i;rintro _;exact gW;intro py yE i131 i132;have j131:=fun p=>zf.mk (i131 p);clear i131;have j132:=fun p=>zf.mk (i132 p);clear i132;rintro⟨_,_,_⟩;exact gW
instance(p):zf (py p) (fun r=>O.call 324 [vv p] []=some (zu r,[])):=⟨fun r=>QT.1 p r⟩
instance(p):zf (yE p) (fun r=>match p with|(n,i,x)=>O.loop 324 0 ⟨[(1,x? 0 0),(3,qi n),(4,qi i)],[(0,bb x)],1⟩=some (sQ n x r)):=⟨fun r=>QT.2 p r⟩
instance(x):zf (sO x) (fun r=>O.call 296 [vv x] []=some (zu r,[])):=⟨by unfold sO;exact gW⟩
instance(wA):zf (sR wA) (fun r=>O.call 308 [qi wA] []=some (qM r,[])):=⟨by unfold sR;exact gW⟩
@[go_sem] def iz:((Bool)⊕(Unit))->Ex×St
 | .inl y=>(G?,⟨[(2,zu y)],[],0⟩)
 | .inr y=>(j?,⟨[(2,f?)],[],0⟩)
instance:xy xM fun(fs,i) r=>O.loop 297 0 ⟨[(0,vv fs),(3,qi i)],[],0⟩=some (iz r):=gP xM.partial_correctness fun _ _⟨_,_⟩=>gW
instance(fs):zf (dM fs) (fun r=>O.call 297 [vv fs] []=some (zu r,[])):=⟨by unfold dM;exact gW⟩
instance(f):zf (dN f) (fun r=>O.call 260 [vv f] []=some (zu r,[])):=⟨by unfold dN;exact gW⟩
instance:xy jh fun(s,i,l) r=>O.loop 325 0 ⟨[(0,qM s),(3,qt 0 l),(4,qi i)],[(0,bm l)],1⟩=some (j?,⟨[(3,qt 0 r)],[(0,bm r)],1⟩):=gP jh.partial_correctness fun _ _⟨_,_,_⟩=>gW
instance(s):zf (rT s) (fun r=>O.call 325 [qM s] []=some (vv r,[])):=⟨by unfold rT;exact gW⟩
instance(fold s fuel):zf (rh fold s fuel) (fun r=>O.call 298 [zu fold,qM s,qi fuel] []=some (x? 0 0,[(0,bb r)])):=⟨by unfold rh;exact gW⟩
theorem ir:(∀ p r,jP p=some r->O.call 346 [vv p] []=some (qi r,[]))/\(∀ p r,jJ p=some r->match p with|(n,i,x)=>O.loop 346 0 ⟨[(1,x? 0 0),(3,qi n),(4,qi i)],[(0,bb x)],1⟩=some (j?,⟨[(3,qi r)],[(0,bb x)],1⟩)):=by refine jP.mutual_partial_correctness _ _ ?_ ?_;intro jJ i;have j156:=fun p=>zf.mk (i p);clear i;rintro _;exact gW;intro jP jJ i155 i156;have j155:=fun p=>zf.mk (i155 p);clear i155;have j156:=fun p=>zf.mk (i156 p);clear i156;rintro⟨_,_,_⟩;exact gW
instance(p):zf (jP p) (fun r=>O.call 346 [vv p] []=some (qi r,[])):=⟨fun r=>ir.1 p r⟩
instance(p):zf (jJ p) (fun r=>match p with|(n,i,x)=>O.loop 346 0 ⟨[(1,x? 0 0),(3,qi n),(4,qi i)],[(0,bb x)],1⟩=some (j?,⟨[(3,qi r)],[(0,bb x)],1⟩)):=⟨fun r=>ir.2 p r⟩
instance:xy uN fun(i,j,r_,x,t6,U4) r=>O.loop 326 0 ⟨[(0,x? 0 0),(2,qi i),(4,x? 1 0),(6,x? 2 0),(8,qt 3 U4),(9,qi j)],[(0,bb r_),(1,bb x),(2,bb t6),(3,br U4)],4⟩=some (j?,⟨[(0,x? 0 0),(2,qi i),(4,x? 1 0),(6,x? 2 0),(8,qt 3 r)],[(0,bb r_),(1,bb x),(2,bb t6),(3,br r)],4⟩):=gP uN.partial_correctness fun _ _⟨_,_,_,_,_,_⟩=>gW
instance:xy vR fun(k,i,j,r_,p_) r=>O.loop 372 0 ⟨[(0,x? 0 0),(1,A? (Q_ k)),(2,qi i),(11,qt 1 p_),(12,qi j)],[(0,bb r_),(1,bm p_)],2⟩=some (j?,⟨[(0,x? 0 0),(1,A? (Q_ k)),(2,qi i),(11,qt 1 r)],[(0,bb r_),(1,bm r)],2⟩):=gP vR.partial_correctness fun _ _⟨_,_,_,_,_⟩=>gW
instance:xy yg fun(k,i,parts,rest,g,j,r_) r=>O.loop 347 1 ⟨[(0,x? 0 0),(1,A? (Q_ k)),(2,qi i),(3,vv parts),(12,A? (Q_ rest)),(13,qi g),(14,qi j)],[(0,bb r_)],1⟩=some (j?,⟨[(0,x? 0 0),(2,qi i),(3,vv parts),(12,A? (Q_ r))],[(0,bb r_)],1⟩):=gP yg.partial_correctness fun _ _⟨_,_,_,_,_,_,_⟩=>gW
instance(c):zf (tO c) (fun r=>O.call 375 [qM c] []=some (zu r,[])):=⟨by unfold tO;exact gW⟩
@[go_sem] def oU:((Bool)⊕(Unit))->Ex×St
 | .inl y=>(G?,⟨[(4,zu y)],[],0⟩)
 | .inr y=>(j?,⟨[(4,f?)],[],0⟩)
instance:xy bK fun(rows,c,i) r=>O.loop 377 0 ⟨[(0,vv rows),(1,qM c),(5,qi i)],[],0⟩=some (oU r):=gP bK.partial_correctness fun _ _⟨_,_,_⟩=>gW
instance(rows c):zf (fu rows c) (fun r=>O.call 377 [vv rows,qM c] []=some (zu r,[])):=⟨by unfold fu;exact gW⟩
instance:xy kR fun(i,b) r=>O.loop 367 0 ⟨[(3,qt 0 b),(4,qi i)],[(0,bm b)],1⟩=some (j?,⟨[(3,qt 0 r)],[(0,bm r)],1⟩):=gP kR.partial_correctness fun _ _⟨_,_⟩=>gW
instance(s):zf (gD s) (fun r=>O.call 367 [qM s] []=some (qM r,[])):=⟨by unfold gD;exact gW⟩
instance:xy vq fun(i,b) r=>O.loop 378 0 ⟨[(3,qt 0 b),(4,qi i)],[(0,bm b)],1⟩=some (j?,⟨[(3,qt 0 r)],[(0,bm r)],1⟩):=gP vq.partial_correctness fun _ _⟨_,_⟩=>gW
instance(s):zf (cO s) (fun r=>O.call 378 [qM s] []=some (qM r,[])):=⟨by unfold cO;exact gW⟩
instance(rows not fold c):zf (ij rows not fold c) (fun r=>O.call 376 [vv rows,zu not,zu fold,qM c] []=some (zu r,[])):=⟨by unfold ij;exact gW⟩
end Go.Proofs.YtnojdepmnnebnaaGreat
