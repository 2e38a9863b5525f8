/-
  What the machine's calls come to: the plain functions.
-/
import Derived.Test.YtoflcafolmmaaaaGreatQaf
open Go.Gm.AV renaming ptr->x?,undef->f?,xR->V?,pv->C?
open Go.Gm.Ex renaming normal->j?,ret->G?
open Go.Gm.PV renaming int->n?,sl->i?
open Go.Gm.qD renaming box->y?,xt->h!
open Go.IntKind renaming u8->P?
open Go.Proofs.YtoflcafolmmaaaaGreat.qe renaming cx->a_
set_option linter.unusedSimpArgs false
set_option linter.unusedVariables false
set_option maxRecDepth 100000
namespace Go.Proofs.YtoflcafolmmaaaaGreat
open Go Go.Gm
attribute [go_sem] Nq mB H7 QC List.toList_toArray avOf pvOf lp List.take List.drop List.length_cons List.length_nil List.length_map o6 AV.Mp List.append o5 List.getElem?_cons_zero List.getElem?_cons_succ AV.refs AV.c9 AV.rows if_true if_false List.nil_append List.append_nil List.cons_append Q5 unz ru ZU B4 C4 List.getElem?_nil tg List.isEmpty_nil kG aUn WB PV.cells List.replicate List.set_cons_zero List.set_cons_succ ry G0 yH eq_self AV.yy qD.yy ei Wg aEq uX aK List.headD_cons jL IV oA B9 qD.c9 qD.refs List.flatMap_nil List.flatMap_cons sr Bm tH qD.slv List.map_cons List.map_nil List.drop_zero Option.isSome_none Option.isNone_none Option.isSome_some Option.isNone_some Rv Qn du UN UK Wy YK X3 KM Qj K2 nK XY UM m9 pQ mE Q1 freshA uW gZ Option.map_none Pe.eq_def AO HK X_nil X_uptoN X_uptoR X_uptoE X_codeR X_codeE X_skip X_ret X_exit X_seq X_cond II IE IF IH IK IG IJ X_loop IL X_cmds0 X_cmdsC pL.eq_1 pL.eq_2 Vv.eq_1 Vv.eq_2 Vv.eq_3 Vv.eq_4 Vv.eq_5 pres_S Y_nil Y_op DQ DP uW.eq_1 uW.eq_2 ev.eq_1 ev.eq_2 ev.eq_3 ev.eq_4 yo.get.eq_1 yo.get.eq_2 fj.eq_1 fj.eq_2 z6.eq_1 z6.eq_2 tq.eq_1 bC.eq_1 bC.eq_2 Jr.eq_1 Jr.eq_2 mw.eq_1 mw.eq_2 aBox.eq_1 ldP.eq_1 ldP.eq_2 Es.eq_1 Es.eq_2 TI.isAgg.eq_1 Jm.eq_1 qp.get.eq_1 qp.get.eq_2 qp.put.eq_1 qp.put.eq_2 PC DC DD Oh UC Bq UB Br Of Og PD Py Bn Bo Pz PB Px Pw PA DB eM.eq_1 AV.refs.pH.eq_1 AV.refs.pH.eq_2 AV.c9.lX.eq_1 AV.c9.lX.eq_2 uM.eq_1 uM.eq_2 vV.eq_1 vV.eq_2 Rl Rk Rm narrow.eq_1 i5.eq_1 restrict.eq_1 restrict.eq_2 qp.upto.eq_1 qp.upto.eq_2 qp.below.eq_1 qp.below.eq_2 yo.below.eq_1 yo.below.eq_2 cq.eq_1 cq.eq_2 decide_true and_self AV.rows.QN.eq_1 AV.rows.QN.eq_2 Nat.zero_lt_one Nat.lt_add_one Nat.zero_le jv Nat.zero_add Nat.add_zero and_true true_and Bool.and_true Bool.true_and decide_false wA rA.eq_1 rA.eq_2 fnEnd_N fnEnd_R fnE_S ah.eq_1 ah.eq_2 U6.eq_1 U6.eq_2 finish.eq_1 List.range_zero pos.eq_1 pos.eq_2 nR.eq_1 nR.eq_2 nR.eq_3 enter.eq_1 k9.eq_1 k9.eq_2 xb.eq_1 xb.eq_2 dh.eq_1 dh.eq_2 setEnv.eq_1 setEnv.eq_2 Di Z_nil Z_op Z_guard DO Y_guard PW Bool.not_false Bool.not_true Bool.or_self Bool.or_false Bool.false_or Bool.or_true Bool.true_or bool_ff bool_ft bool_tf Bool.and_self Bool.and_false Bool.false_and rB.eq_1 rB.eq_2 Nat.mul_one Nat.one_mul true_or or_true false_or or_false or_self and_false false_and Gm.freeze.eq_1 AV.yy.rf.eq_1 AV.yy.rf.eq_2 ki.eq_1 ki.eq_2 UH.eq_1 UH.eq_2 UH.eq_3 BF.eq_1 Kp.eq_1 lD.eq_1 lD.eq_2 lB.eq_1 pP.eq_1 pP.eq_2 pick.eq_1 pick.eq_2 G2.eq_1 G2.eq_2 Wm.eq_1 Wm.eq_2 sc.eq_1 j9.eq_1 jV.eq_1 jV.eq_2 WC.eq_1 cD.eq_1 To Ow Ox Oy Oz OA again_0 again_1 again_2 again_3 again_4 leave_0 leave_1 leave_2 leave_3 leave_4 Rs left_S canon.eq_1 Rg.eq_1 Rg.eq_2 U2.eq_1 U2.eq_2 i9.eq_1 i9.eq_2 Po keptL_S ZB.eq_1 orT.eq_1 orT.eq_2 isBytes.eq_1 Zm.eq_1 trimOff FA.eq_1 CZ szc_szc D1 Mu Mv D2 Sb BC Sd BB Sc LM GW GV GX Ke.eq_1 Ke.eq_2 kE.eq_1 bool_tt rowApp_F rowApp_T range1 range2 range3 range4 range5 range6 Dq Dt IQ Vn Dm lset aNil_p1 aNil_p2 aNil_p3 aNil_p4 aNil_p5 aNil_s1 aNil_s2 aNil_s3 aNil_m1 aNil_m2 aNil_f1 aNil_f2 aNil_f3 Int.natCast_zero Int.cast_ofNat_Int u8_nat D4 List.take_length qi zu qM Q6 v_l qq b_x b_r b_m J4 zK aw Bk my O2 Q4.eq_1 Q4.eq_2 slot_0 slot_1 slot_2 slot_3 slot_4 slot_14 slot_19 slot_20 slot_21 Az AA AB AD AE AF AG K2.eq_def List.map_append List.map_set List.length_append List.map_replicate List.length_replicate szc_or lv DA Dz szc_or2 scal_int scal_rep map_oE Nat.sub_zero oE_app oE_len oE_nil oE_setR oE_flat rG rN q04 Option.map_some qS RH app_ne lnil lcons mL.eq_1 mL.eq_2 nY nL nN nM bN_eq nz_t nz_f nz_or Lp Lq tF tS tP tT jh sG mn kM take_ge oS1 oE_end oE_one oE_take szc_apC szc_apL Ax Pv rG2 rZ fE0 szc_repI szcN beq_self_eq_true qn.qQ ql.qQ qy.qQ qV.qQ qE.qQ zs.qQ zn.qQ qr.qQ qk.qQ qb.qQ qw.qQ bJ.qQ qv.qQ zx.qQ qN.qQ zh.qQ zI.qQ jF.qQ qB.qQ zN.qQ qC.qQ zE.qQ jG.qQ qX.qQ qc.qQ zV.qQ zU.qQ qP.qQ wq.qQ qj.qQ qd.qQ qf.qQ qe.S5 qe.Bp qe.Y9 qe.Ya qe.qQ tbA tiA0 tiA1 tiA2 tiA3 ownL kpL prL fzL mfL cmL spL
set_option maxHeartbeats 4000000
@[go_sem] def eX (ss:(List qa)):((Bool)⊕(Unit))->Ex×St
 | .inl y=>(G?,⟨[(4,zu y)],[(0,bm ss)],1⟩)
 | .inr y=>(j?,⟨[(4,f?)],[(0,bm ss)],1⟩)
instance:xv bL fun(n,i,ss) r=>O.loop 12 0 ⟨[(0,qi n),(1,qq 0 ss),(5,qi i)],[(0,bm ss)],1⟩=some (eX ss r):=gP bL.partial_correctness fun _ _⟨_,_,_⟩=>gW
instance(n r_):zf (eW n r_) (fun r=>O.call 12 [qi n,qq 0 r_] [(0,bm r_)]=some (zu r,[(0,bm r_)])):=⟨by unfold eW;exact gW⟩
@[go_sem] def eZ:((Bool)⊕(Unit))->Ex×St
 | .inl y=>(G?,⟨[(6,zu y)],[],0⟩)
 | .inr y=>(j?,⟨[(6,f?)],[],0⟩)
instance:xv bM fun(n,es,i) r=>O.loop 13 0 ⟨[(1,qi n),(2,vv es),(7,qi i)],[],0⟩=some (eZ r):=gP bM.partial_correctness fun _ _⟨_,_,_⟩=>gW
instance(many n es):zf (eY many n es) (fun r=>O.call 13 [qi many,qi n,vv es] []=some (zu r,[])):=⟨by unfold eY;exact gW⟩
instance:xv mK fun(n,os,i,k,Qz) r=>O.loop 4 2 ⟨[(1,qi n),(2,vv os),(7,qi i),(8,qi k)],[(0,bm Qz)],1⟩=some (j?,⟨[(1,qi r),(2,vv os),(7,qi i)],[(0,bm Qz)],1⟩):=gP mK.partial_correctness fun _ _⟨_,_,_,_,_⟩=>gW
@[go_sem] def oO:((Bool)⊕(Unit))->Ex×St
 | .inl y=>(G?,⟨[(6,zu y)],[],0⟩)
 | .inr y=>(j?,⟨[(6,f?)],[],0⟩)
instance:xv mJ fun(n,os,i) r=>O.loop 4 0 ⟨[(1,qi n),(2,vv os),(7,qi i)],[],0⟩=some (oO r):=gP mJ.partial_correctness fun _ _⟨_,_,_⟩=>gW
instance(many n os):zf (lM many n os) (fun r=>O.call 4 [qi many,qi n,vv os] []=some (zu r,[])):=⟨by unfold lM;exact gW⟩
instance(c):zf (wW c) (fun r=>O.call 112 [C? (n? P? (c.toNat:Int))] []=some (zu r,[])):=⟨by unfold wW;exact gW⟩
instance(c):zf (kH c) (fun r=>O.call 113 [C? (n? P? (c.toNat:Int))] []=some (zu r,[])):=⟨by unfold kH;exact gW⟩
@[go_sem] def aU:((Bool)⊕(Unit))->Ex×St
 | .inl y=>(G?,⟨[(2,zu y)],[],0⟩)
 | .inr y=>(j?,⟨[(2,f?)],[],0⟩)
instance:xv xS fun(s,i) r=>O.loop 67 0 ⟨[(0,qM s),(3,qi i)],[],0⟩=some (aU r):=gP xS.partial_correctness fun _ _⟨_,_⟩=>gW
instance(s):zf (ji s) (fun r=>O.call 67 [qM s] []=some (zu r,[])):=⟨by unfold ji;exact gW⟩
@[go_sem] def iy (name:qa) (value:qa) (out:(List qv)):((Int×(List qv))⊕(Unit))->Ex×St
 | .inl y=>(G?,⟨[(0,qM name),(1,qM value),(6,qq 0 y.2),(7,qi y.1),(8,qq 0 y.2)],[(0,bm y.2)],1⟩)
 | .inr y=>(j?,⟨[(0,qM name),(1,qM value),(6,f?),(7,f?),(8,qq 0 out)],[(0,bm out)],1⟩)
instance:xv bZ fun(name,value,i,out) r=>O.loop 36 0 ⟨[(0,qM name),(1,qM value),(8,qq 0 out),(9,qi i)],[(0,bm out)],1⟩=some (iy name value out r):=gP bZ.partial_correctness fun _ _⟨_,_,_,_⟩=>gW
instance(name value env):zf (dL name value env) (fun r=>O.call 36 [qM name,qM value,vv env] []=some (V? [vv r.1,qi r.2],[])):=⟨by unfold dL;exact gW⟩
@[go_sem] def iK (m:qa) (m2:(Sl qy)) (m3:(Sl qb)):((Int×(Sl qv))⊕((Sl qv)))->Ex×St
 | .inl y=>(G?,⟨[(2,C? (PV.yc)),(3,qi y.1),(4,x? 1 0)],[(0,h!),(1,y? [qM m,vv m2,vv m3,vv y.2,C? (i? true 0 []),C? (i? true 0 [])])],2⟩)
 | .inr y=>(j?,⟨[(2,f?),(3,f?),(4,x? 1 0)],[(0,h!),(1,y? [qM m,vv m2,vv m3,vv y,C? (i? true 0 []),C? (i? true 0 [])])],2⟩)
instance:xv rV fun(env,i,m,m2,m3,m4) r=>O.loop 17 0 ⟨[(0,vv env),(4,x? 1 0),(5,qi i)],[(0,h!),(1,y? [qM m,vv m2,vv m3,vv m4,C? (i? true 0 []),C? (i? true 0 [])])],2⟩=some (iK m m2 m3 r):=gP rV.partial_correctness fun _ _⟨_,_,_,_,_,_⟩=>gW
@[go_sem] def QM:((Int)⊕(Int×qa×(Sl qy)×(Sl qb)×(Sl qv)))->AV×qp
 | .inl y=>(V? [C? (PV.yc),qi y],[])
 | .inr y=>(V? [x? 0 0,qi y.1],[(0,y? [qM y.2.1,vv y.2.2.1,vv y.2.2.2.1,vv y.2.2.2.2,C? (i? true 0 []),C? (i? true 0 [])])])
instance:zf (iJ) (fun r=>O.call 17 [C? (i? true 0 [])] []=some (QM r)):=⟨by unfold iJ;exact gW⟩
instance(s):zf (yY s) (fun r=>O.call 120 [vv s] []=some (vv r,[])):=⟨by unfold yY;exact gW⟩
instance:xv ue fun(l,text,i,es) r=>O.loop 69 0 ⟨[(0,vv l),(1,qM text),(5,qq 0 es),(6,qi i)],[(0,br es)],1⟩=some (j?,⟨[(5,qq 0 r)],[(0,br r)],1⟩):=gP ue.partial_correctness fun _ _⟨_,_,_,_⟩=>gW
instance(l text):zf (cF l text) (fun r=>O.call 69 [vv l,qM text] []=some (vv r,[])):=⟨by unfold cF;exact gW⟩
instance(s n):zf (rX s n) (fun r=>O.call 123 [vv s,qi n] []=some (zu r,[])):=⟨by unfold rX;exact gW⟩
@[go_sem] def iM (l:(Sl qy)):(((Sl qy)×Int)⊕(Unit))->Ex×St
 | .inl y=>(G?,⟨[(1,vv l),(4,vv y.1),(5,qi y.2)],[],0⟩)
 | .inr y=>(j?,⟨[(1,vv l),(4,f?),(5,f?)],[],0⟩)
instance:xv nv fun(n,l,i) r=>O.loop 71 0 ⟨[(0,qi n),(1,vv l),(6,qi i)],[],0⟩=some (iM l r):=gP nv.partial_correctness fun _ _⟨_,_,_⟩=>gW
instance(a b):zf (sP a b) (fun r=>O.call 179 [vv a,vv b] []=some (zu r,[])):=⟨by unfold sP;exact gW⟩
instance:xv gS fun(l,s,i,k) r=>O.loop 124 2 ⟨[(0,vv l),(3,vv s),(4,qi i),(5,qi k)],[],0⟩=some (j?,⟨[(0,vv l),(3,vv s),(4,qi i),(5,qi r)],[],0⟩):=gP gS.partial_correctness fun _ _⟨_,_,_,_⟩=>gW
instance:xv gR fun(l,s,i) r=>O.loop 124 0 ⟨[(0,vv l),(3,vv s),(4,qi i)],[],0⟩=some (j?,⟨[(3,vv r)],[],0⟩):=gP gR.partial_correctness fun _ _⟨_,_,_⟩=>gW
instance(a b):zf (sQ a b) (fun r=>O.call 178 [vv a,vv b] []=some (zu r,[])):=⟨by unfold sQ;exact gW⟩
instance(s back):zf (Kd s back) (fun r=>O.call 180 [vv s,zu back] []=some (vv r,[])):=⟨by unfold Kd;exact gW⟩
instance:xv vh fun(s,i,out) r=>O.loop 124 4 ⟨[(3,vv s),(6,qq 0 out),(7,qi i)],[(0,br out)],1⟩=some (j?,⟨[(6,qq 0 r)],[(0,br r)],1⟩):=gP vh.partial_correctness fun _ _⟨_,_,_⟩=>gW
instance(l):zf (sR l) (fun r=>O.call 124 [vv l] []=some (vv r,[])):=⟨by unfold sR;exact gW⟩
instance(n l):zf (bt n l) (fun r=>O.call 71 [qi n,vv l] []=some (V? [vv r.1,qi r.2],[])):=⟨by unfold bt;exact gW⟩
@[go_sem] def iD (st:qw):((Bool)⊕(Unit))->Ex×St
 | .inl y=>(G?,⟨[(1,x? 0 0),(2,zu y)],[(0,bb st)],1⟩)
 | .inr y=>(j?,⟨[(1,x? 0 0),(2,f?)],[(0,bb st)],1⟩)
instance:xv n9 fun(l,i,st) r=>O.loop 114 0 ⟨[(1,x? 0 0),(3,vv l),(5,qi i)],[(0,bb st)],1⟩=some (iD st r):=gP n9.partial_correctness fun _ _⟨_,_,_⟩=>gW
@[go_sem] def oS:((Bool)⊕(Unit))->Ex×St
 | .inl y=>(G?,⟨[(6,zu y)],[],0⟩)
 | .inr y=>(j?,⟨[(6,f?)],[],0⟩)
instance:xv bG fun(l,a,b) r=>O.loop 216 0 ⟨[(0,vv l),(1,qi a),(2,qi b)],[],0⟩=some (oS r):=gP bG.partial_correctness fun _ _⟨_,_,_⟩=>gW
instance(l a b):zf (cP l a b) (fun r=>O.call 216 [vv l,qi a,qi b] []=some (zu r,[])):=⟨by unfold cP;exact gW⟩
instance(a b):zf (xz a b) (fun r=>O.call 87 [vv a,vv b] []=some (zu r,[])):=⟨by unfold xz;exact gW⟩
@[go_sem] def iC (k:Int) (i:qk) (x:qr) (Bi:qn):((Bool)⊕(Unit))->Ex×St
 | .inl y=>(G?,⟨[(2,x? 0 0),(4,zu y),(5,qi k)],[(0,bb i),(1,bb x),(2,bb Bi)],3⟩)
 | .inr y=>(j?,⟨[(2,x? 0 0),(4,f?),(5,qi k)],[(0,bb i),(1,bb x),(2,bb Bi)],3⟩)
instance:xv jr fun(k,j,i,x,Bi) r=>O.loop 158 2 ⟨[(2,x? 0 0),(5,qi k),(6,x? 1 0),(8,qi j)],[(0,bb i),(1,bb x),(2,bb Bi)],3⟩=some (iC k i x Bi r):=gP jr.partial_correctness fun _ _⟨_,_,_,_,_⟩=>gW
@[go_sem] def iB (i:qk):((Bool)⊕(Unit))->Ex×St
 | .inl y=>(G?,⟨[(4,zu y)],[(0,bb i)],1⟩)
 | .inr y=>(j?,⟨[(4,f?)],[(0,bb i)],1⟩)
instance:xv xI fun(k,i) r=>O.loop 158 0 ⟨[(2,x? 0 0),(5,qi k)],[(0,bb i)],1⟩=some (iB i r):=gP xI.partial_correctness fun _ _⟨_,_⟩=>gW
instance(i n):zf (iz i n) (fun r=>O.call 158 [vv i,qi n] []=some (zu r,[])):=⟨by unfold iz;exact gW⟩
instance:xv wb fun(n,is,i,k,out) r=>O.loop 160 2 ⟨[(0,qi n),(1,vv is),(5,qq 0 out),(6,qi i),(7,qi k)],[(0,br out)],1⟩=some (j?,⟨[(0,qi n),(1,vv is),(5,qq 0 r),(6,qi i)],[(0,br r)],1⟩):=gP wb.partial_correctness fun _ _⟨_,_,_,_,_⟩=>gW
instance:xv uw fun(n,is,i,out) r=>O.loop 160 0 ⟨[(0,qi n),(1,vv is),(5,qq 0 out),(6,qi i)],[(0,br out)],1⟩=some (j?,⟨[(5,qq 0 r)],[(0,br r)],1⟩):=gP uw.partial_correctness fun _ _⟨_,_,_,_⟩=>gW
instance(n is):zf (wu n is) (fun r=>O.call 160 [qi n,vv is] []=some (vv r,[])):=⟨by unfold wu;exact gW⟩
@[go_sem] def e8 (s:qn):((Bool)⊕(Unit))->Ex×St
 | .inl y=>(G?,⟨[(4,zu y)],[(0,bb s)],1⟩)
 | .inr y=>(j?,⟨[(4,f?)],[(0,bb s)],1⟩)
instance:xv gM fun(l,i,s) r=>O.loop 159 0 ⟨[(1,vv l),(2,x? 0 0),(5,qi i)],[(0,bb s)],1⟩=some (e8 s r):=gP gM.partial_correctness fun _ _⟨_,_,_⟩=>gW
instance(s l):zf (gK s l) (fun r=>O.call 159 [vv s,vv l] []=some (zu r,[])):=⟨by unfold gK;exact gW⟩
@[go_sem] def iF (i:Int) (st:qw):((Bool)⊕(Unit))->Ex×St
 | .inl y=>(G?,⟨[(1,x? 0 0),(2,zu y),(6,qi i)],[(0,bb st)],1⟩)
 | .inr y=>(j?,⟨[(1,x? 0 0),(2,f?),(6,qi i)],[(0,bb st)],1⟩)
instance:xv kr fun(i,is,k,st) r=>O.loop 114 4 ⟨[(1,x? 0 0),(6,qi i),(7,vv is),(8,qi k)],[(0,bb st)],1⟩=some (iF i st r):=gP kr.partial_correctness fun _ _⟨_,_,_,_⟩=>gW
@[go_sem] def iE (st:qw):((Bool)⊕(Unit))->Ex×St
 | .inl y=>(G?,⟨[(2,zu y)],[(0,bb st)],1⟩)
 | .inr y=>(j?,⟨[(2,f?)],[(0,bb st)],1⟩)
instance:xv nf fun(i,st) r=>O.loop 114 2 ⟨[(1,x? 0 0),(6,qi i)],[(0,bb st)],1⟩=some (iE st r):=gP nf.partial_correctness fun _ _⟨_,_⟩=>gW
instance(st):zf (bo st) (fun r=>O.call 114 [vv st] []=some (zu r,[])):=⟨by unfold bo;exact gW⟩
@[go_sem] def aa (es:(Sl ql)):((Int)⊕(Unit))->Ex×St
 | .inl y=>(G?,⟨[(1,vv es),(4,qi y)],[],0⟩)
 | .inr y=>(j?,⟨[(1,vv es),(4,f?)],[],0⟩)
instance:xv uG fun(n,es,i) r=>O.loop 161 0 ⟨[(0,qi n),(1,vv es),(5,qi i)],[],0⟩=some (aa es r):=gP uG.partial_correctness fun _ _⟨_,_,_⟩=>gW
instance:xv gQ fun(es,i,l) r=>O.loop 218 0 ⟨[(0,vv es),(3,qq 0 l),(4,qi i)],[(0,br l)],1⟩=some (j?,⟨[(3,qq 0 r)],[(0,br r)],1⟩):=gP gQ.partial_correctness fun _ _⟨_,_,_⟩=>gW
instance(es):zf (ae es) (fun r=>O.call 218 [vv es] []=some (vv r,[])):=⟨by unfold ae;exact gW⟩
instance:xv nk fun(l,out,i,k) r=>O.loop 177 2 ⟨[(0,vv l),(3,vv out),(4,qi i),(5,qi k)],[],0⟩=some (j?,⟨[(0,vv l),(3,vv out),(4,qi i),(5,qi r)],[],0⟩):=gP nk.partial_correctness fun _ _⟨_,_,_,_⟩=>gW
instance:xv nj fun(l,out,i) r=>O.loop 177 0 ⟨[(0,vv l),(3,vv out),(4,qi i)],[],0⟩=some (j?,⟨[(3,vv r)],[],0⟩):=gP nj.partial_correctness fun _ _⟨_,_,_⟩=>gW
instance(l):zf (dN l) (fun r=>O.call 177 [vv l] []=some (vv r,[])):=⟨by unfold dN;exact gW⟩
@[go_sem] def e9:((Bool)⊕(Unit))->Ex×St
 | .inl y=>(G?,⟨[(2,zu y)],[],0⟩)
 | .inr y=>(j?,⟨[(2,f?)],[],0⟩)
instance:xv yR fun(s,i) r=>O.loop 217 0 ⟨[(3,vv s),(4,qi i)],[],0⟩=some (e9 r):=gP yR.partial_correctness fun _ _⟨_,_⟩=>gW
instance(l):zf (fY l) (fun r=>O.call 217 [vv l] []=some (zu r,[])):=⟨by unfold fY;exact gW⟩
instance(n es):zf (cX n es) (fun r=>O.call 161 [qi n,vv es] []=some (qi r,[])):=⟨by unfold cX;exact gW⟩
instance:xv gO fun(n,es,i) r=>O.loop 162 0 ⟨[(0,qi n),(1,vv es),(5,qi i)],[],0⟩=some (j?,⟨[(0,qi r)],[],0⟩):=gP gO.partial_correctness fun _ _⟨_,_,_⟩=>gW
instance(n es):zf (a7 n es) (fun r=>O.call 162 [qi n,vv es] []=some (qi r,[])):=⟨by unfold a7;exact gW⟩
instance(n es):zf (iL n es) (fun r=>O.call 115 [qi n,vv es] []=some (qi r,[])):=⟨by unfold iL;exact gW⟩
instance:xv wc fun(a,s,fl) r=>O.loop 23 0 ⟨[(1,x? 0 0),(3,qq 1 fl.l),(4,qi a)],[(0,bb s),(1,m9 [1] 1 zK fl)],2⟩=some (j?,⟨[(3,qq 1 r.l)],[(0,bb s),(1,m9 [1] 1 zK r)],2⟩):=gP wc.partial_correctness fun _ _⟨_,_,_⟩=>gW
instance(s):zf (vC s) (fun r=>O.call 23 [vv s] []=some (qq 0 r.l,[(0,m9 [1] 1 zK r)])):=⟨by unfold vC;exact gW⟩
instance:xv uy fun(i,st,z8,qT,w,nI) r=>O.loop 116 0 ⟨[(1,x? 0 0),(3,x? 3 0),(4,qi i)],[(0,bb st),(1,bm z8),(2,bm qT),(3,y? [qM w,qq 1 z8,qq 2 qT,qq 4 nI.l]),(4,m9 [1,1] 1 (my 1 zK) nI)],5⟩=some (j?,⟨[(3,x? 3 0)],[(0,bb st),(1,bm z8),(2,bm qT),(3,y? [qM w,qq 1 z8,qq 2 qT,qq 4 r.l]),(4,m9 [1,1] 1 (my 1 zK) r)],5⟩):=gP uy.partial_correctness fun _ _⟨_,_,_,_,_,_⟩=>gW
instance(st):zf (tZ st) (fun r=>O.call 116 [vv st] []=some (x? 0 0,[(0,y? [qM r.1,vv r.2.1,qq 1 r.2.2.1,qq 2 r.2.2.2.l]),(1,bm r.2.2.1),(2,m9 [1,1] 1 (my 1 zK) r.2.2.2)])):=⟨by unfold tZ;exact gW⟩
@[go_sem] def fS (a:Int) (s:qb) (qo:qn):((Int)⊕(Unit))->Ex×St
 | .inl y=>(G?,⟨[(2,x? 0 0),(3,x? 1 0),(4,qi a),(5,qi y),(6,qi a)],[(0,bb s),(1,bb qo)],2⟩)
 | .inr y=>(j?,⟨[(2,x? 0 0),(3,x? 1 0),(4,f?),(5,f?),(6,qi a)],[(0,bb s),(1,bb qo)],2⟩)
instance:xv vB fun(a,k,s,qo) r=>O.loop 165 2 ⟨[(2,x? 0 0),(3,x? 1 0),(6,qi a),(7,qi k)],[(0,bb s),(1,bb qo)],2⟩=some (fS a s qo r):=gP vB.partial_correctness fun _ _⟨_,_,_,_⟩=>gW
@[go_sem] def fR (s:qb) (qo:qn):((Int×Int)⊕(Unit))->Ex×St
 | .inl y=>(G?,⟨[(4,qi y.1),(5,qi y.2)],[(0,bb s),(1,bb qo)],2⟩)
 | .inr y=>(j?,⟨[(4,f?),(5,f?)],[(0,bb s),(1,bb qo)],2⟩)
instance:xv uz fun(a,s,qo) r=>O.loop 165 0 ⟨[(2,x? 0 0),(3,x? 1 0),(6,qi a)],[(0,bb s),(1,bb qo)],2⟩=some (fR s qo r):=gP uz.partial_correctness fun _ _⟨_,_,_⟩=>gW
instance(s qo):zf (gj s qo) (fun r=>O.call 165 [vv s,vv qo] []=some (V? [qi r.1,qi r.2],[])):=⟨by unfold gj;exact gW⟩
@[go_sem] def fT (s:qb):((Bool)⊕(Unit))->Ex×St
 | .inl y=>(G?,⟨[(4,zu y)],[(0,bb s)],1⟩)
 | .inr y=>(j?,⟨[(4,f?)],[(0,bb s)],1⟩)
instance:xv uA fun(es,i,s) r=>O.loop 163 0 ⟨[(1,vv es),(2,x? 0 0),(5,qi i)],[(0,bb s)],1⟩=some (fT s r):=gP uA.partial_correctness fun _ _⟨_,_,_⟩=>gW
instance(s es):zf (cR s es) (fun r=>O.call 163 [vv s,vv es] []=some (zu r,[])):=⟨by unfold cR;exact gW⟩
instance:xv jZ fun(es,n,w,w2,z8,qT) r=>O.loop 117 0 ⟨[(0,x? 0 0),(1,vv es),(4,qi n)],[(0,y? [qM w,vv w2,qq 1 z8,qq 2 qT.l]),(1,bm z8),(2,m9 [1,1] 1 (my 1 zK) qT)],3⟩=some (j?,⟨[(0,x? 0 0),(1,vv es),(4,qi r)],[(0,y? [qM w,vv w2,qq 1 z8,qq 2 qT.l]),(1,bm z8),(2,m9 [1,1] 1 (my 1 zK) qT)],3⟩):=gP jZ.partial_correctness fun _ _⟨_,_,_,_,_,_⟩=>gW
instance:xv nq fun(es,out,i,k) r=>O.loop 164 2 ⟨[(0,vv es),(3,vv out),(4,qi i),(5,qi k)],[],0⟩=some (j?,⟨[(0,vv es),(3,vv out),(4,qi i),(5,qi r)],[],0⟩):=gP nq.partial_correctness fun _ _⟨_,_,_,_⟩=>gW
instance:xv np fun(es,out,i) r=>O.loop 164 0 ⟨[(0,vv es),(3,vv out),(4,qi i)],[],0⟩=some (j?,⟨[(3,vv r)],[],0⟩):=gP np.partial_correctness fun _ _⟨_,_,_⟩=>gW
instance(es):zf (dP es) (fun r=>O.call 164 [vv es] []=some (vv r,[])):=⟨by unfold dP;exact gW⟩
instance:xv kD fun(top,inst,stop,mark,i,w,w2,ss,qT,e,is,ks) r=>O.loop 166 0 ⟨[(0,x? 0 0),(1,qi top),(2,qi inst),(3,qi stop),(5,zu mark),(10,x? 3 0),(12,qq 1 ss),(13,qq 4 is),(14,qq 5 ks),(15,qi i)],[(0,y? [qM w,vv w2,qq 1 ss,qq 2 qT.l]),(1,bm ss),(2,m9 [1,1] 1 (my 1 zK) qT),(3,bb e),(4,bm is),(5,bm ks)],6⟩=some (j?,⟨[(0,x? 0 0),(1,qi top),(2,qi inst),(3,qi stop),(5,zu mark),(10,x? 3 0),(12,qq 1 ss),(13,qq 4 r.1),(14,qq 5 r.2)],[(0,y? [qM w,vv w2,qq 1 ss,qq 2 qT.l]),(1,bm ss),(2,m9 [1,1] 1 (my 1 zK) qT),(3,bb e),(4,bm r.1),(5,bm r.2)],6⟩):=gP kD.partial_correctness fun _ _⟨_,_,_,_,_,_,_,_,_,_,_,_⟩=>gW
instance:xv jC fun(top,mark,i,w,w2,ss,qT,e,is,ks,qo) r=>O.loop 166 2 ⟨[(0,x? 0 0),(1,qi top),(5,zu mark),(10,x? 3 0),(12,qq 1 ss),(13,qq 4 is),(14,qq 5 ks),(16,x? 6 0),(17,qi i)],[(0,y? [qM w,vv w2,qq 1 ss,qq 2 qT.l]),(1,bm ss),(2,m9 [1,1] 1 (my 1 zK) qT),(3,bb e),(4,bm is),(5,bm ks),(6,bb qo)],7⟩=some (j?,⟨[(0,x? 0 0),(1,qi top),(5,zu mark),(10,x? 3 0),(12,qq 1 ss),(13,qq 4 r.1),(14,qq 5 r.2.1)],[(0,y? [qM w,vv w2,qq 1 ss,qq 2 qT.l]),(1,bm ss),(2,m9 [1,1] 1 (my 1 zK) qT),(3,bb e),(4,bm r.1),(5,bm r.2.1),(6,bb r.2.2)],7⟩):=gP jC.partial_correctness fun _ _⟨_,_,_,_,_,_,_,_,_,_,_⟩=>gW
instance:xv nh fun(a,base,k,s,l,qT) r=>O.loop 42 2 ⟨[(1,x? 0 0),(3,qq 1 l),(4,qi a),(5,qi base),(6,qi k)],[(0,bb s),(1,br l),(2,bm qT)],3⟩=some (j?,⟨[(1,x? 0 0),(3,qq 1 r),(4,qi a)],[(0,bb s),(1,br r),(2,bm qT)],3⟩):=gP nh.partial_correctness fun _ _⟨_,_,_,_,_,_⟩=>gW
instance:xv ng fun(a,s,l) r=>O.loop 42 0 ⟨[(1,x? 0 0),(3,qq 1 l),(4,qi a)],[(0,bb s),(1,br l)],2⟩=some (j?,⟨[(3,qq 1 r)],[(0,bb s),(1,br r)],2⟩):=gP ng.partial_correctness fun _ _⟨_,_,_⟩=>gW
instance(s):zf (iG s) (fun r=>O.call 42 [vv s] []=some (vv r,[])):=⟨by unfold iG;exact gW⟩
instance:xv uC fun(inst,qo,a,s) r=>O.loop 45 0 ⟨[(1,qi inst),(3,x? 0 0),(7,qi qo),(8,qi a)],[(0,bb s)],1⟩=some (j?,⟨[(7,qi r)],[(0,bb s)],1⟩):=gP uC.partial_correctness fun _ _⟨_,_,_,_⟩=>gW
instance(s inst stop):zf (mR s inst stop) (fun r=>O.call 45 [vv s,qi inst,qi stop] []=some (qi r,[])):=⟨by unfold mR;exact gW⟩
instance:xv yQ fun(l,xE,deep,r_,e,h_,ua) r=>O.loop 44 0 ⟨[(0,vv l),(1,qi xE),(3,zu deep),(6,x? 0 0),(9,qq 1 h_),(10,qq 2 ua),(11,qi r_)],[(0,bb e),(1,bm h_),(2,bm ua)],3⟩=some (j?,⟨[(0,vv l),(1,qi xE),(3,zu deep),(6,x? 0 0),(9,qq 1 r),(10,qq 2 ua)],[(0,bb e),(1,bm r),(2,bm ua)],3⟩):=gP yQ.partial_correctness fun _ _⟨_,_,_,_,_,_,_⟩=>gW
instance:xv qH fun(l,xE,deep,r_,e,h_,ua) r=>O.loop 44 2 ⟨[(0,vv l),(1,qi xE),(3,zu deep),(6,x? 0 0),(9,qq 1 h_),(10,qq 2 ua),(12,qi r_)],[(0,bb e),(1,bm h_),(2,bm ua)],3⟩=some (j?,⟨[(9,qq 1 r.1)],[(0,bb e),(1,bm r.1),(2,bm r.2)],3⟩):=gP qH.partial_correctness fun _ _⟨_,_,_,_,_,_,_⟩=>gW
instance(l xE e deep):zf (fU l xE e deep) (fun r=>O.call 44 [vv l,qi xE,vv e,zu deep] []=some (vv r,[])):=⟨by unfold fU;exact gW⟩
instance:xv vE fun(l,h_,last,r_,e) r=>O.loop 43 0 ⟨[(0,vv l),(1,vv h_),(5,x? 0 0),(7,qi last),(8,qi r_)],[(0,bb e)],1⟩=some (j?,⟨[(0,vv l),(1,vv h_),(5,x? 0 0),(7,qi r)],[(0,bb e)],1⟩):=gP vE.partial_correctness fun _ _⟨_,_,_,_,_⟩=>gW
instance:xv zY fun(l,h_,last,r_,e,out) r=>O.loop 43 2 ⟨[(0,vv l),(1,vv h_),(5,x? 0 0),(7,qi last),(9,qq 1 out),(10,qi r_)],[(0,bb e),(1,bm out)],2⟩=some (j?,⟨[(9,qq 1 r)],[(0,bb e),(1,bm r)],2⟩):=gP zY.partial_correctness fun _ _⟨_,_,_,_,_,_⟩=>gW
instance(l h_ e):zf (cT l h_ e) (fun r=>O.call 43 [vv l,vv h_,vv e] []=some (vv r,[])):=⟨by unfold cT;exact gW⟩
instance(qo right e):zf (a8 qo right e) (fun r=>O.call 88 [qi qo,zu right,vv e] []=some (qi r,[])):=⟨by unfold a8;exact gW⟩
instance(s side e):zf (r9 s side e) (fun r=>O.call 46 [vv s,qi side,vv e] []=some (vv r,[])):=⟨by unfold r9;exact gW⟩
instance:xv jf fun(mark,sd,r_,a,alive,k,fl,s,e,ay,out,flags,uK,i,i2,qZ,f,ri) r=>O.loop 22 2 ⟨[(1,qq 0 fl.l),(6,zu mark),(7,x? 1 0),(11,x? 2 0),(14,x? 3 0),(17,vv sd),(18,x? 4 0),(19,qq 5 flags.l),(20,qi r_),(21,qi a),(22,x? 7 0),(23,zu alive),(24,qq 9 f),(25,qq 8 qZ),(26,qi k)],[(0,m9 [1] 1 zK fl),(1,bb s),(2,bb e),(3,bb ay),(4,y? [qi out,qq 6 uK]),(5,m9 [1] 1 zK flags),(6,br uK),(7,y? [qi i,qi i2,qq 10 ri]),(8,bm qZ),(9,br f),(10,br ri)],11⟩=some (j?,⟨[(1,qq 0 r.2.1.l),(6,zu mark),(7,x? 1 0),(11,x? 2 0),(14,x? 3 0),(17,vv sd),(18,x? 4 0),(19,qq 5 flags.l),(20,qi r.1),(21,qi a),(22,x? 7 0),(23,zu alive),(24,qq 9 r.2.2.2.1)],[(0,m9 [1] 1 zK r.2.1),(1,bb s),(2,bb e),(3,bb ay),(4,y? [qi out,qq 6 uK]),(5,m9 [1] 1 zK flags),(6,br uK),(7,y? [qi i,qi i2,qq 10 r.2.2.2.2]),(8,bm r.2.2.1),(9,br r.2.2.2.1),(10,br r.2.2.2.2)],11⟩):=gP jf.partial_correctness fun _ _⟨_,_,_,_,_,_,_,_,_,_,_,_,_,_,_,_,_,_⟩=>gW
instance:xv vD fun(mark,sd,r_,a,fl,s,e,ay,out,flags,uK) r=>O.loop 22 0 ⟨[(1,qq 0 fl.l),(6,zu mark),(7,x? 1 0),(11,x? 2 0),(14,x? 3 0),(17,vv sd),(18,x? 4 0),(19,qq 5 flags.l),(20,qi r_),(21,qi a)],[(0,m9 [1] 1 zK fl),(1,bb s),(2,bb e),(3,bb ay),(4,y? [qi out,qq 6 uK]),(5,m9 [1] 1 zK flags),(6,br uK)],7⟩=some (j?,⟨[(14,x? 3 0),(18,x? 4 0),(19,qq 5 r.2.1.l)],[(0,m9 [1] 1 zK r.1),(1,bb s),(2,bb e),(3,bb ay),(4,y? [qi out,qq 6 r.2.2]),(5,m9 [1] 1 zK r.2.1),(6,br r.2.2)],7⟩):=gP vD.partial_correctness fun _ _⟨_,_,_,_,_,_,_,_,_,_,_⟩=>gW
instance(s inst stop e deep mark r_):zf (kJ s inst stop e deep mark r_) (fun r=>O.call 22 [vv s,qq 0 r_.l,qi inst,qi stop,vv e,zu deep,zu mark] [(0,m9 [1] 1 zK r_)]=some (V? [vv r.1,qq 1 r.2.2.l],[(0,m9 [1] 1 zK r.2.1),(1,m9 [1] 1 zK r.2.2)])):=⟨by unfold kJ;exact gW⟩
instance:xv jD fun(top,mark,i,w,w2,ss,qT,e,is,ks,b6_) r=>O.loop 166 4 ⟨[(0,x? 0 0),(1,qi top),(5,zu mark),(10,x? 3 0),(12,qq 1 ss),(13,qq 4 is),(14,qq 5 ks),(20,qi i)],[(0,y? [qM w,vv w2,qq 1 ss,qq 2 qT.l]),(1,bm ss),(2,m9 [1,1] 1 (my 1 zK) qT),(3,bb e),(4,bm is),(5,bm ks),(6,bb b6_)],7⟩=some (j?,⟨[(0,x? 0 0),(10,x? 3 0)],[(0,y? [qM w,vv w2,qq 1 r.1,qq 2 r.2.l]),(1,bm r.1),(2,m9 [1,1] 1 (my 1 zK) r.2),(3,bb e),(4,bm is),(5,bm ks),(6,bb b6_)],7⟩):=gP jD.partial_correctness fun _ _⟨_,_,_,_,_,_,_,_,_,_,_⟩=>gW
instance:xv pw fun(qo,right,l,i) r=>O.loop 267 0 ⟨[(0,qi qo),(1,zu right),(7,vv l),(8,qi i)],[],0⟩=some (j?,⟨[(0,qi r)],[],0⟩):=gP pw.partial_correctness fun _ _⟨_,_,_,_⟩=>gW
instance(qo right es):zf (dO qo right es) (fun r=>O.call 267 [qi qo,zu right,vv es] []=some (qi r,[])):=⟨by unfold dO;exact gW⟩
instance:xv nu fun(l,es,i,out) r=>O.loop 219 0 ⟨[(0,vv l),(1,vv es),(5,qq 1 out),(6,qi i)],[(0,h!),(1,br out)],2⟩=some (j?,⟨[(5,qq 1 r)],[(0,h!),(1,br r)],2⟩):=gP nu.partial_correctness fun _ _⟨_,_,_,_⟩=>gW
instance(l r_):zf (dQ l r_) (fun r=>O.call 219 [vv l,qq 0 r_] [(0,bm r_)]=some (vv r,[(0,h!)])):=⟨by unfold dQ;exact gW⟩
instance:xv j8 fun(top,mark,i,w,w2,ss,qT,e,is,ks) r=>O.loop 166 4 ⟨[(0,x? 0 0),(1,qi top),(5,zu mark),(10,x? 3 0),(12,qq 1 ss),(13,qq 4 is),(14,qq 5 ks),(20,qi i)],[(0,y? [qM w,vv w2,qq 1 ss,qq 2 qT.l]),(1,bm ss),(2,m9 [1,1] 1 (my 1 zK) qT),(3,bb e),(4,bm is),(5,bm ks)],6⟩=some (j?,⟨[(0,x? 0 0),(10,x? 3 0)],[(0,y? [qM w,vv w2,qq 1 r.1,qq 2 r.2.l]),(1,bm r.1),(2,m9 [1,1] 1 (my 1 zK) r.2),(3,bb e),(4,bm is),(5,bm ks)],6⟩):=gP j8.partial_correctness fun _ _⟨_,_,_,_,_,_,_,_,_,_⟩=>gW
instance(top inst stop e mark b b_2 r_ r_2):zf (jK top inst stop e mark b b_2 r_ r_2) (fun r=>O.call 166 [x? 0 0,qi top,qi inst,qi stop,vv e,zu mark] [(0,y? [qM b,vv b_2,qq 1 r_,qq 2 r_2.l]),(1,bm r_),(2,m9 [1,1] 1 (my 1 zK) r_2)]=some (V? [],[(0,y? [qM r.1,vv r.2.1,qq 1 r.2.2.1,qq 2 r.2.2.2.l]),(1,bm r.2.2.1),(2,m9 [1,1] 1 (my 1 zK) r.2.2.2)])):=⟨by unfold jK;exact gW⟩
instance:xv xJ fun(n,l,i,w,w2,zP,nI) r=>O.loop 117 2 ⟨[(0,x? 0 0),(4,qi n),(5,vv l),(6,qi i)],[(0,y? [qM w,vv w2,qq 3 zP,qq 4 nI.l]),(1,h!),(2,h!),(3,bm zP),(4,m9 [1,1] 1 (my 1 zK) nI)],5⟩=some (j?,⟨[],[(0,y? [qM r.1,vv r.2.1,qq 3 r.2.2.1,qq 4 r.2.2.2.l]),(1,h!),(2,h!),(3,bm r.2.2.1),(4,m9 [1,1] 1 (my 1 zK) r.2.2.2)],5⟩):=gP xJ.partial_correctness fun _ _⟨_,_,_,_,_,_,_⟩=>gW
instance(es b b_2 r_ r_2):zf (yX es b b_2 r_ r_2) (fun r=>O.call 117 [x? 0 0,vv es] [(0,y? [qM b,vv b_2,qq 1 r_,qq 2 r_2.l]),(1,bm r_),(2,m9 [1,1] 1 (my 1 zK) r_2)]=some (V? [],[(0,y? [qM r.1,vv r.2.1,qq 3 r.2.2.1,qq 4 r.2.2.2.l]),(1,h!),(2,h!),(3,bm r.2.2.1),(4,m9 [1,1] 1 (my 1 zK) r.2.2.2)])):=⟨by unfold yX;exact gW⟩
instance:xv bY fun(ns,n,k) r=>O.loop 195 0 ⟨[(0,vv ns),(1,qi n),(5,qi k)],[],0⟩=some (j?,⟨[(0,vv ns),(1,qi n),(5,qi r)],[],0⟩):=gP bY.partial_correctness fun _ _⟨_,_,_⟩=>gW
instance(ns n):zf (tU ns n) (fun r=>O.call 195 [vv ns,qi n] []=some (vv r,[])):=⟨by unfold tU;exact gW⟩
instance:xv uu fun(mF,k,i) r=>O.loop 167 0 ⟨[(1,x? 0 0),(3,vv mF),(4,qi k)],[(0,bb i)],1⟩=some (j?,⟨[(1,x? 0 0),(3,vv r)],[(0,bb i)],1⟩):=gP uu.partial_correctness fun _ _⟨_,_,_⟩=>gW
@[go_sem] def fP (l:(List Int)):((Bool)⊕(Unit))->Ex×St
 | .inl y=>(G?,⟨[(4,zu y)],[(0,br l)],1⟩)
 | .inr y=>(j?,⟨[(4,f?)],[(0,br l)],1⟩)
instance:xv ux fun(n,i,l) r=>O.loop 220 0 ⟨[(0,qq 0 l),(1,qi n),(5,qi i)],[(0,br l)],1⟩=some (fP l r):=gP ux.partial_correctness fun _ _⟨_,_,_⟩=>gW
instance(n r_):zf (mQ n r_) (fun r=>O.call 220 [qq 0 r_,qi n] [(0,br r_)]=some (zu r,[(0,br r_)])):=⟨by unfold mQ;exact gW⟩
@[go_sem] def aZ (l:(Sl qr)) (n:Int) (a:Int) (zS:(List Int)):((Bool)⊕(Unit))->Ex×St
 | .inl y=>(G?,⟨[(0,vv l),(1,qi n),(2,qq 0 zS),(6,zu y),(7,qi a)],[(0,br zS)],1⟩)
 | .inr y=>(j?,⟨[(0,vv l),(1,qi n),(2,qq 0 zS),(6,f?),(7,qi a)],[(0,br zS)],1⟩)
instance:xv yP fun(l,n,a,b,zS) r=>O.loop 221 2 ⟨[(0,vv l),(1,qi n),(2,qq 0 zS),(7,qi a),(8,qi b)],[(0,br zS)],1⟩=some (aZ l n a zS r):=gP yP.partial_correctness fun _ _⟨_,_,_,_,_⟩=>gW
@[go_sem] def aY (zS:(List Int)):((Bool)⊕(Unit))->Ex×St
 | .inl y=>(G?,⟨[(6,zu y)],[(0,br zS)],1⟩)
 | .inr y=>(j?,⟨[(6,f?)],[(0,br zS)],1⟩)
instance:xv vg fun(l,n,a,zS) r=>O.loop 221 0 ⟨[(0,vv l),(1,qi n),(2,qq 0 zS),(7,qi a)],[(0,br zS)],1⟩=some (aY zS r):=gP vg.partial_correctness fun _ _⟨_,_,_,_⟩=>gW
instance(l n r_):zf (fQ l n r_) (fun r=>O.call 221 [vv l,qi n,qq 0 r_] [(0,br r_)]=some (zu r,[(0,br r_)])):=⟨by unfold fQ;exact gW⟩
instance:xv wa fun(mF,next,found,k,i,zS) r=>O.loop 167 4 ⟨[(1,x? 0 0),(3,vv mF),(5,qq 1 zS),(6,qi next),(7,zu found),(8,qi k)],[(0,bb i),(1,br zS)],2⟩=some (j?,⟨[(1,x? 0 0),(3,vv mF),(5,qq 1 zS),(6,qi r.1),(7,zu r.2)],[(0,bb i),(1,br zS)],2⟩):=gP wa.partial_correctness fun _ _⟨_,_,_,_,_,_⟩=>gW
instance:xv vA fun(mF,next,found,k,i,zS) r=>O.loop 167 6 ⟨[(1,x? 0 0),(3,vv mF),(5,qq 1 zS),(6,qi next),(7,zu found),(9,qi k)],[(0,bb i),(1,br zS)],2⟩=some (j?,⟨[(1,x? 0 0),(3,vv mF),(5,qq 1 zS),(6,qi r)],[(0,bb i),(1,br zS)],2⟩):=gP vA.partial_correctness fun _ _⟨_,_,_,_,_,_⟩=>gW
instance:xv uv fun(mF,i,zS) r=>O.loop 167 2 ⟨[(1,x? 0 0),(3,vv mF),(5,qq 1 zS)],[(0,bb i),(1,br zS)],2⟩=some (j?,⟨[(5,qq 1 r)],[(0,bb i),(1,br r)],2⟩):=gP uv.partial_correctness fun _ _⟨_,_,_⟩=>gW
instance(i):zf (cQ i) (fun r=>O.call 167 [vv i] []=some (vv r,[])):=⟨by unfold cQ;exact gW⟩
instance:xv jm fun(i,a,n,k,w,w2,z8,qT,ua,held) r=>O.loop 168 0 ⟨[(0,x? 0 0),(1,qi i),(2,qi a),(3,qi n),(9,x? 3 0),(10,qq 4 held),(11,qi k)],[(0,y? [qM w,vv w2,qq 1 z8,qq 2 qT.l]),(1,bm z8),(2,m9 [1,1] 1 (my 1 zK) qT),(3,bb ua),(4,bm held)],5⟩=some (j?,⟨[(0,x? 0 0),(1,qi i),(2,qi a),(3,qi n),(9,x? 3 0),(10,qq 4 r.2)],[(0,y? [qM w,vv w2,qq 1 z8,qq 2 r.1.l]),(1,bm z8),(2,m9 [1,1] 1 (my 1 zK) r.1),(3,bb ua),(4,bm r.2)],5⟩):=gP jm.partial_correctness fun _ _⟨_,_,_,_,_,_,_,_,_,_⟩=>gW
@[go_sem] def dm (i:qk):((Int×Int×Int)⊕(Int×Int))->Ex×St
 | .inl y=>(G?,⟨[(6,qi y.1),(7,qi y.2.1),(8,qi y.2.2)],[(0,bb i)],1⟩)
 | .inr y=>(j?,⟨[(6,f?),(7,qi y.1),(8,qi y.2)],[(0,bb i)],1⟩)
instance:xv zO fun(n,held,first,Xy,k,i) r=>O.loop 222 0 ⟨[(1,qi n),(2,vv held),(3,x? 0 0),(7,qi first),(8,qi Xy),(9,qi k)],[(0,bb i)],1⟩=some (dm i r):=gP zO.partial_correctness fun _ _⟨_,_,_,_,_,_⟩=>gW
instance(i n held):zf (rR i n held) (fun r=>O.call 222 [vv i,qi n,vv held] []=some (qi r,[])):=⟨by unfold rR;exact gW⟩
instance:xv jn fun(i,a,n,src,k,w,w2,z8,qT,ua) r=>O.loop 168 2 ⟨[(0,x? 0 0),(1,qi i),(2,qi a),(3,qi n),(9,x? 3 0),(12,qi src),(13,qi k)],[(0,y? [qM w,vv w2,qq 1 z8,qq 2 qT.l]),(1,bm z8),(2,m9 [1,1] 1 (my 1 zK) qT),(3,bb ua),(4,h!)],5⟩=some (j?,⟨[(0,x? 0 0),(1,qi i),(2,qi a),(3,qi n),(9,x? 3 0),(12,qi src)],[(0,y? [qM w,vv w2,qq 1 z8,qq 2 r.l]),(1,bm z8),(2,m9 [1,1] 1 (my 1 zK) r),(3,bb ua),(4,h!)],5⟩):=gP jn.partial_correctness fun _ _⟨_,_,_,_,_,_,_,_,_,_⟩=>gW
theorem oR:(∀ p r,uZ p=some r->O.call 328 [vv p] []=some (qi r,[]))/\(∀ p r,kZ p=some r->match p with|(n,i,x)=>O.loop 328 0 ⟨[(1,x? 0 0),(3,qi n),(4,qi i)],[(0,bb x)],1⟩=some (j?,⟨[(3,qi r)],[(0,bb x)],1⟩)):=by refine uZ.mutual_partial_correctness _ _ ?_ ?_;intro kZ i;have j128:=fun p=>zf.mk (i p);clear i;rintro _;exact gW;intro uZ kZ i127 i128;have j127:=fun p=>zf.mk (i127 p);clear i127;have j128:=fun p=>zf.mk (i128 p);clear i128;rintro⟨_,_,_⟩;exact gW
instance(p):zf (uZ p) (fun r=>O.call 328 [vv p] []=some (qi r,[])):=⟨fun r=>oR.1 p r⟩
instance(p):zf (kZ p) (fun r=>match p with|(n,i,x)=>O.loop 328 0 ⟨[(1,x? 0 0),(3,qi n),(4,qi i)],[(0,bb x)],1⟩=some (j?,⟨[(3,qi r)],[(0,bb x)],1⟩)):=⟨fun r=>oR.2 p r⟩
theorem lU:(∀ p r,bR p=some r->O.call 329 [vv p] []=some (qi r,[]))/\(∀ p r,wX p=some r->match p with|(n,i,x)=>O.loop 329 0 ⟨[(1,x? 0 0),(3,qi n),(4,qi i)],[(0,bb x)],1⟩=some (j?,⟨[(1,x? 0 0),(3,qi r)],[(0,bb x)],1⟩)):=by refine bR.mutual_partial_correctness _ _ ?_ ?_;intro wX i;have j130:=fun p=>zf.mk (i p);clear i;rintro _;exact gW;intro bR wX i129 i130;have j129:=fun p=>zf.mk (i129 p);clear i129;have j130:=fun p=>zf.mk (i130 p);clear i130;rintro⟨_,_,_⟩;exact gW
instance(p):zf (bR p) (fun r=>O.call 329 [vv p] []=some (qi r,[])):=⟨fun r=>lU.1 p r⟩
instance(p):zf (wX p) (fun r=>match p with|(n,i,x)=>O.loop 329 0 ⟨[(1,x? 0 0),(3,qi n),(4,qi i)],[(0,bb x)],1⟩=some (j?,⟨[(1,x? 0 0),(3,qi r)],[(0,bb x)],1⟩)):=⟨fun r=>lU.2 p r⟩
@[go_sem] def iq (n:Int) (x:qE):((Bool)⊕(Unit))->Ex×St
 | .inl y=>(G?,⟨[(1,x? 0 0),(2,zu y),(3,qi n)],[(0,bb x)],1⟩)
 | .inr y=>(j?,⟨[(1,x? 0 0),(2,f?),(3,qi n)],[(0,bb x)],1⟩)
instance:xv bS fun(n,i,x) r=>O.loop 330 3 ⟨[(1,x? 0 0),(3,qi n),(5,qi i)],[(0,bb x)],1⟩=some (iq n x r):=gP bS.partial_correctness fun _ _⟨_,_,_⟩=>gW
instance(x):zf (ug x) (fun r=>O.call 348 [vv x] []=some (zu r,[])):=⟨by unfold ug;exact gW⟩
@[go_sem] def ir (n:Int) (x:qE):((Bool)⊕(Unit))->Ex×St
 | .inl y=>(G?,⟨[(1,x? 0 0),(2,zu y),(3,qi n)],[(0,bb x)],1⟩)
 | .inr y=>(j?,⟨[(1,x? 0 0),(2,f?),(3,qi n)],[(0,bb x)],1⟩)
instance:xv bT fun(n,i,x) r=>O.loop 330 5 ⟨[(1,x? 0 0),(3,qi n),(6,qi i)],[(0,bb x)],1⟩=some (ir n x r):=gP bT.partial_correctness fun _ _⟨_,_,_⟩=>gW
instance(c):zf (vT c) (fun r=>O.call 226 [C? (n? P? (c.toNat:Int))] []=some (zu r,[])):=⟨by unfold vT;exact gW⟩
instance:xv zL fun(s,qI,i,l) r=>O.loop 272 0 ⟨[(0,qM s),(3,qq 0 l),(4,qi qI),(5,qi i)],[(0,br l)],1⟩=some (j?,⟨[(3,qq 0 r)],[(0,br r)],1⟩):=gP zL.partial_correctness fun _ _⟨_,_,_,_⟩=>gW
instance(s):zf (yJ s) (fun r=>O.call 272 [qM s] []=some (vv r,[])):=⟨by unfold yJ;exact gW⟩
instance(c):zf (jq c) (fun r=>O.call 349 [qM c] []=some (zu r,[])):=⟨by unfold jq;exact gW⟩
@[go_sem] def ig:((Bool)⊕(Unit))->Ex×St
 | .inl y=>(G?,⟨[(2,zu y)],[],0⟩)
 | .inr y=>(j?,⟨[(2,f?)],[],0⟩)
instance:xv uY fun(rows,i) r=>O.loop 350 0 ⟨[(0,vv rows),(3,qi i)],[],0⟩=some (ig r):=gP uY.partial_correctness fun _ _⟨_,_⟩=>gW
instance(rows):zf (ie rows) (fun r=>O.call 350 [vv rows] []=some (zu r,[])):=⟨by unfold ie;exact gW⟩
instance(x):zf (rL x) (fun r=>O.call 351 [vv x] []=some (zu r,[])):=⟨by unfold rL;exact gW⟩
@[go_sem] def sJ (n:Int) (x:qE):((Bool)⊕(Unit))->Ex×St
 | .inl y=>(G?,⟨[(1,x? 0 0),(2,zu y),(3,qi n)],[(0,bb x)],1⟩)
 | .inr y=>(j?,⟨[(1,x? 0 0),(2,f?),(3,qi n)],[(0,bb x)],1⟩)
theorem QL:(∀ p r,pt p=some r->O.call 330 [vv p] []=some (zu r,[]))/\(∀ p r,yD p=some r->match p with|(n,i,x)=>O.loop 330 0 ⟨[(1,x? 0 0),(3,qi n),(4,qi i)],[(0,bb x)],1⟩=some (sJ n x r)):=by refine pt.mutual_partial_correctness _ _ ?_ ?_;intro yD i;have j132:=fun p=>zf.mk (i p);clear i;rintro _;exact gW;intro pt yD i131 i132;have j131:=fun p=>zf.mk (i131 p);clear i131;have j132:=fun p=>zf.mk (i132 p);clear i132;rintro⟨_,_,_⟩;exact gW
instance(p):zf (pt p) (fun r=>O.call 330 [vv p] []=some (zu r,[])):=⟨fun r=>QL.1 p r⟩
instance(p):zf (yD p) (fun r=>match p with|(n,i,x)=>O.loop 330 0 ⟨[(1,x? 0 0),(3,qi n),(4,qi i)],[(0,bb x)],1⟩=some (sJ n x r)):=⟨fun r=>QL.2 p r⟩
instance(x):zf (sH x) (fun r=>O.call 302 [vv x] []=some (zu r,[])):=⟨by unfold sH;exact gW⟩
instance(wC):zf (sK wC) (fun r=>O.call 314 [qi wC] []=some (qM r,[])):=⟨by unfold sK;exact gW⟩
@[go_sem] def iw:((Bool)⊕(Unit))->Ex×St
 | .inl y=>(G?,⟨[(2,zu y)],[],0⟩)
 | .inr y=>(j?,⟨[(2,f?)],[],0⟩)
instance:xv xG fun(fs,i) r=>O.loop 303 0 ⟨[(0,vv fs),(3,qi i)],[],0⟩=some (iw r):=gP xG.partial_correctness fun _ _⟨_,_⟩=>gW
instance(fs):zf (dH fs) (fun r=>O.call 303 [vv fs] []=some (zu r,[])):=⟨by unfold dH;exact gW⟩
instance(f):zf (dI f) (fun r=>O.call 268 [vv f] []=some (zu r,[])):=⟨by unfold dI;exact gW⟩
instance:xv je fun(s,i,l) r=>O.loop 331 0 ⟨[(0,qM s),(3,qq 0 l),(4,qi i)],[(0,bm l)],1⟩=some (j?,⟨[(3,qq 0 r)],[(0,bm r)],1⟩):=gP je.partial_correctness fun _ _⟨_,_,_⟩=>gW
instance(s):zf (rJ s) (fun r=>O.call 331 [qM s] []=some (vv r,[])):=⟨by unfold rJ;exact gW⟩
instance(fold s fuel):zf (tR fold s fuel) (fun r=>O.call 304 [zu fold,qM s,qi fuel] []=some (x? 0 0,[(0,bb r)])):=⟨by unfold tR;exact gW⟩
theorem ik:(∀ p r,jN p=some r->O.call 352 [vv p] []=some (qi r,[]))/\(∀ p r,jI p=some r->match p with|(n,i,x)=>O.loop 352 0 ⟨[(1,x? 0 0),(3,qi n),(4,qi i)],[(0,bb x)],1⟩=some (j?,⟨[(3,qi r)],[(0,bb x)],1⟩)):=by refine jN.mutual_partial_correctness _ _ ?_ ?_;intro jI i;have j156:=fun p=>zf.mk (i p);clear i;rintro _;exact gW;intro jN jI i155 i156;have j155:=fun p=>zf.mk (i155 p);clear i155;have j156:=fun p=>zf.mk (i156 p);clear i156;rintro⟨_,_,_⟩;exact gW
instance(p):zf (jN p) (fun r=>O.call 352 [vv p] []=some (qi r,[])):=⟨fun r=>ik.1 p r⟩
instance(p):zf (jI p) (fun r=>match p with|(n,i,x)=>O.loop 352 0 ⟨[(1,x? 0 0),(3,qi n),(4,qi i)],[(0,bb x)],1⟩=some (j?,⟨[(3,qi r)],[(0,bb x)],1⟩)):=⟨fun r=>ik.2 p r⟩
instance:xv uO fun(i,j,r_,x,t6,YG) r=>O.loop 332 0 ⟨[(0,x? 0 0),(2,qi i),(4,x? 1 0),(6,x? 2 0),(8,qq 3 YG),(9,qi j)],[(0,bb r_),(1,bb x),(2,bb t6),(3,br YG)],4⟩=some (j?,⟨[(0,x? 0 0),(2,qi i),(4,x? 1 0),(6,x? 2 0),(8,qq 3 r)],[(0,bb r_),(1,bb x),(2,bb t6),(3,br r)],4⟩):=gP uO.partial_correctness fun _ _⟨_,_,_,_,_,_⟩=>gW
instance:xv vQ fun(k,i,j,r_,p_) r=>O.loop 378 0 ⟨[(0,x? 0 0),(1,C? (a_ k)),(2,qi i),(11,qq 1 p_),(12,qi j)],[(0,bb r_),(1,bm p_)],2⟩=some (j?,⟨[(0,x? 0 0),(1,C? (a_ k)),(2,qi i),(11,qq 1 r)],[(0,bb r_),(1,bm r)],2⟩):=gP vQ.partial_correctness fun _ _⟨_,_,_,_,_⟩=>gW
instance:xv yf fun(k,i,parts,rest,g,j,r_) r=>O.loop 353 1 ⟨[(0,x? 0 0),(1,C? (a_ k)),(2,qi i),(3,vv parts),(12,C? (a_ rest)),(13,qi g),(14,qi j)],[(0,bb r_)],1⟩=some (j?,⟨[(0,x? 0 0),(2,qi i),(3,vv parts),(12,C? (a_ r))],[(0,bb r_)],1⟩):=gP yf.partial_correctness fun _ _⟨_,_,_,_,_,_,_⟩=>gW
instance(c):zf (tB c) (fun r=>O.call 381 [qM c] []=some (zu r,[])):=⟨by unfold tB;exact gW⟩
@[go_sem] def oQ:((Bool)⊕(Unit))->Ex×St
 | .inl y=>(G?,⟨[(4,zu y)],[],0⟩)
 | .inr y=>(j?,⟨[(4,f?)],[],0⟩)
instance:xv bE fun(rows,c,i) r=>O.loop 383 0 ⟨[(0,vv rows),(1,qM c),(5,qi i)],[],0⟩=some (oQ r):=gP bE.partial_correctness fun _ _⟨_,_,_⟩=>gW
instance(rows c):zf (fp rows c) (fun r=>O.call 383 [vv rows,qM c] []=some (zu r,[])):=⟨by unfold fp;exact gW⟩
instance:xv kS fun(i,b) r=>O.loop 373 0 ⟨[(3,qq 0 b),(4,qi i)],[(0,bm b)],1⟩=some (j?,⟨[(3,qq 0 r)],[(0,bm r)],1⟩):=gP kS.partial_correctness fun _ _⟨_,_⟩=>gW
instance(s):zf (gB s) (fun r=>O.call 373 [qM s] []=some (qM r,[])):=⟨by unfold gB;exact gW⟩
instance:xv vt fun(i,b) r=>O.loop 384 0 ⟨[(3,qq 0 b),(4,qi i)],[(0,bm b)],1⟩=some (j?,⟨[(3,qq 0 r)],[(0,bm r)],1⟩):=gP vt.partial_correctness fun _ _⟨_,_⟩=>gW
instance(s):zf (cG s) (fun r=>O.call 384 [qM s] []=some (qM r,[])):=⟨by unfold cG;exact gW⟩
instance(rows not fold c):zf (ic rows not fold c) (fun r=>O.call 382 [vv rows,zu not,zu fold,qM c] []=some (zu r,[])):=⟨by unfold ic;exact gW⟩
end Go.Proofs.YtoflcafolmmaaaaGreat
