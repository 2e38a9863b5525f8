/-
  What the machine's calls come to: the plain functions.
-/
import Derived.Test.YtadahlbndbmdeaaGreatQaf
open Option renaming some->W
open _root_ renaming List->Z,Bool->Y,Option->X,Nat->V
set_option linter.unusedSimpArgs false
set_option linter.unusedVariables false
set_option maxRecDepth 100000
namespace Go.Proofs.YtadahlbndbmdeaaGreat
open Go Go.Gm
attribute [go_sem] Rp ry NJ Jg Z.toList_toArray avOf pvOf X4 Z.take Z.drop Z.length_cons Z.length_nil Z.length_map Z7 AV.Sn Z.append Z6 Z.getElem?_cons_zero Z.getElem?_cons_succ AV.refs AV.aa AV.rows if_true if_false Z.nil_append Z.append_nil Z.cons_append XD unz da KC PT Eh Z.getElem?_nil cn Z.isEmpty_nil wO aUn UK PV.cells Z.replicate Z.set_cons_zero Z.set_cons_succ db MM gj eq_self AV.uW qD.uW lC Ul aEq ny oS Z.headD_cons kV aMax Zl PZ qD.aa qD.refs Z.flatMap_nil Z.flatMap_cons fg Ta cG qD.slv Z.map_cons Z.map_nil Z.drop_zero X.isSome_none X.isNone_none X.isSome_some X.isNone_some FD XZ eG Nu Ns UG Bp KJ YR XV Y6 tz WN Nt so sO rB Xz freshA nv mI X.map_none Cg.eq_def q0u Mx X_nil X_uptoN X_uptoR X_uptoE X_codeR X_codeE X_skip X_ret X_exit X_seq X_cond X_blockS X_blockB X_blockC X_blockR X_blockX X_blockK X_blockT X_loop X_region X_cmds0 X_cmdsC sG.eq_1 sG.eq_2 HM.eq_1 HM.eq_2 HM.eq_3 HM.eq_4 HM.eq_5 pres_S Y_nil Y_op O8 O7 nv.eq_1 nv.eq_2 ev.eq_1 ev.eq_2 ev.eq_3 ev.eq_4 uS.get.eq_1 uS.get.eq_2 iC.eq_1 iC.eq_2 zm.eq_1 zm.eq_2 cr.eq_1 mY.eq_1 mY.eq_2 Vm.eq_1 Vm.eq_2 rn.eq_1 rn.eq_2 aBox.eq_1 ldP.eq_1 ldP.eq_2 ldA.eq_1 ldA.eq_2 TI.isAgg.eq_1 Vi.eq_1 qt.get.eq_1 qt.get.eq_2 qt.put.eq_1 qt.put.eq_2 CC IQ IU cells_sl Nj Te Ni Tf cells_fn cells_rp CD Cy Tb Tc Cz CB Cx Cw CA IP Q0.eq_1 AV.refs.sB.eq_1 AV.refs.sB.eq_2 AV.aa.Xw.eq_1 AV.aa.Xw.eq_2 bS.eq_1 bS.eq_2 uv.eq_1 uv.eq_2 Ft Fs Fu narrow.eq_1 Qe.eq_1 restrict.eq_1 restrict.eq_2 qt.upto.eq_1 qt.upto.eq_2 qt.below.eq_1 qt.below.eq_2 uS.below.eq_1 uS.below.eq_2 ak.eq_1 ak.eq_2 decide_true and_self AV.rows.Jr.eq_1 AV.rows.Jr.eq_2 V.zero_lt_one V.lt_add_one V.zero_le ke V.zero_add V.add_zero and_true true_and Y.and_true Y.true_and decide_false vH dd.eq_1 dd.eq_2 fnEnd_N fnEnd_R fnE_S oi.eq_1 oi.eq_2 BL.eq_1 BL.eq_2 finish.eq_1 Z.range_zero pos.eq_1 pos.eq_2 tD.eq_1 tD.eq_2 tD.eq_3 enter.eq_1 wv.eq_1 wv.eq_2 xR.eq_1 xR.eq_2 ei.eq_1 ei.eq_2 setEnv.eq_1 setEnv.eq_2 Iw Z_nil Z_op Z_guard O6 Y_guard CZ Y.not_false Y.not_true Y.or_self Y.or_false Y.false_or Y.or_true Y.true_or bool_ff bool_ft bool_tf Y.and_self Y.and_false Y.false_and df.eq_1 df.eq_2 V.mul_one V.one_mul true_or or_true false_or or_false or_self and_false false_and Gm.freeze.eq_1 AV.uW.cX.eq_1 AV.uW.cX.eq_2 wD.eq_1 wD.eq_2 Np.eq_1 Np.eq_2 Np.eq_3 Tw.eq_1 Ys.eq_1 Xe.eq_1 Xe.eq_2 Xc.eq_1 sM.eq_1 sM.eq_2 pick.eq_1 pick.eq_2 MO.eq_1 MO.eq_2 Uu.eq_1 Uu.eq_2 dQ.eq_1 jT.eq_1 wd.eq_1 wd.eq_2 KO.eq_1 aA.eq_1 Dp enterL_0 enterL_1 enterL_2 enterL_3 enterL_4 again_0 again_1 again_2 again_3 again_4 leave_0 leave_1 leave_2 leave_3 leave_4 FA left_S canon.eq_1 Fl.eq_1 Fl.eq_2 BH.eq_1 BH.eq_2 Qh.eq_1 Qh.eq_2 Cp keptL_S Kh.eq_1 orT.eq_1 orT.eq_2 isBytes.eq_1 JZ.eq_1 trimOff L4.eq_1 Ig szc_szc Ih Sr Ss Ii Ao Tr Aq Tq Ap map_byte PK PJ PL Yh.eq_1 Yh.eq_2 kE.eq_1 bool_tt rowApp_F rowApp_T range1 range2 range3 range4 range5 range6 ID IG aEntry_B HB IA lset aNil_p1 aNil_p2 aNil_p3 aNil_p4 aNil_p5 aNil_s1 aNil_s2 aNil_s3 aNil_m1 aNil_m2 aNil_f1 aNil_f2 aNil_f3 Int.natCast_zero Int.cast_ofNat_Int u8_nat In Z.take_length qh zN qP XF v_l qq b_x b_r b_m WX jf oC T8 ro arr2E XC.eq_1 XC.eq_2 slot_0 slot_1 slot_2 slot_3 slot_4 slot_14 slot_19 slot_20 slot_21 q0h q0i q0j q0k q0l q0m Y6.eq_def Z.map_append Z.map_set Z.length_append Z.map_replicate Z.length_replicate szc_or X7 IM IL szc_or2 scal_int scal_rep map_oE V.sub_zero oE_app oE_len oE_nil oE_setR oE_flat mG mG2 mP rG rN natOf_in X.map_some qM FV app_ne lnil lcons rJ.eq_1 rJ.eq_2 zV zR zT zS bN_eq nz_t nz_f nz_or Lp Lq tF tS tP tT kg fC rh vg take_ge oS1 oE_end oE_one oE_take szc_apC szc_apL q0d Cv rG2 rZ fE0 szc_repI szcN beq_self_eq_true qm.qU qg.qU zf.qU qI.qU zQ.qU zG.qU qu.qU qr.qU qb.qU qv.qU qf.qU pq.qU qz.qU zW.qU zo.qU qN.qU zg.qU xv.qU qF.qU xi.qU wI.qU kM.qU zi.qU qc.qU xJ.qU xI.qU qT.qU vV.qU qo.qU qd.qU qE.qU qj.qU qe.Ai qe.Td qe.Gx qe.Gy qe.qU tbA tiA0 tiA1 tiA2 tiA3 ownL kpL prL fzL mfL cmL spL
set_option maxHeartbeats 4000000
@[go_sem] def Q9 (a:(Z qa)):((Y)⊕(Unit))->Ex×St
 | .inl y=>(Ex.ret,⟨[(4,zN y)],[(0,bm a)],1⟩)
 | .inr y=>(Ex.normal,⟨[(4,AV.undef)],[(0,bm a)],1⟩)
instance:xT py λ(n,i,a) r=>O.loop 15 0 ⟨[(0,qh n),(1,qq 0 a),(5,qh i)],[(0,bm a)],1⟩=W (Q9 a r):=gP py.partial_correctness λ_ _⟨_,_,_⟩=>gW
instance(n r_):z7 (Q8 n r_) (λr=>O.call 15 [qh n,qq 0 r_] [(0,bm r_)]=W (zN r,[(0,bm r_)])):=⟨by unfold Q8;exact gW⟩
@[go_sem] def Qb:((Y)⊕(Unit))->Ex×St
 | .inl y=>(Ex.ret,⟨[(6,zN y)],[],0⟩)
 | .inr y=>(Ex.normal,⟨[(6,AV.undef)],[],0⟩)
instance:xT pz λ(n,es,i) r=>O.loop 5 0 ⟨[(1,qh n),(2,vv es),(7,qh i)],[],0⟩=W (Qb r):=gP pz.partial_correctness λ_ _⟨_,_,_⟩=>gW
instance(many n es):z7 (eP many n es) (λr=>O.call 5 [qh many,qh n,vv es] []=W (zN r,[])):=⟨by unfold eP;exact gW⟩
instance:xT rI λ(n,os,i,k,a) r=>O.loop 4 2 ⟨[(1,qh n),(2,vv os),(7,qh i),(8,qh k)],[(0,bm a)],1⟩=W (Ex.normal,⟨[(1,qh r),(2,vv os),(7,qh i)],[(0,bm a)],1⟩):=gP rI.partial_correctness λ_ _⟨_,_,_,_,_⟩=>gW
@[go_sem] def ZE:((Y)⊕(Unit))->Ex×St
 | .inl y=>(Ex.ret,⟨[(6,zN y)],[],0⟩)
 | .inr y=>(Ex.normal,⟨[(6,AV.undef)],[],0⟩)
instance:xT rH λ(n,os,i) r=>O.loop 4 0 ⟨[(1,qh n),(2,vv os),(7,qh i)],[],0⟩=W (ZE r):=gP rH.partial_correctness λ_ _⟨_,_,_⟩=>gW
instance(many n os):z7 (Xl many n os) (λr=>O.call 4 [qh many,qh n,vv os] []=W (zN r,[])):=⟨by unfold Xl;exact gW⟩
instance(c):z7 (yD c) (λr=>O.call 96 [AV.pv (PV.int IntKind.u8 (c.toNat:Int))] []=W (zN r,[])):=⟨by unfold yD;exact gW⟩
instance(c):z7 (wX c) (λr=>O.call 97 [AV.pv (PV.int IntKind.u8 (c.toNat:Int))] []=W (zN r,[])):=⟨by unfold wX;exact gW⟩
end Go.Proofs.YtadahlbndbmdeaaGreat
