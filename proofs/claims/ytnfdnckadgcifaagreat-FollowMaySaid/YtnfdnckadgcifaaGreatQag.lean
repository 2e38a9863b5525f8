/-
  What the machine's calls come to: the plain functions.
-/
import Derived.Test.YtnfdnckadgcifaaGreatQaf
set_option linter.unusedSimpArgs false
set_option linter.unusedVariables false
set_option maxRecDepth 100000
namespace Go.Proofs.YtnfdnckadgcifaaGreat
open Go Go.Gm
attribute [go_sem] NF mz Hj QB List.toList_toArray avOf pvOf ll List.take List.drop List.length_cons List.length_nil List.length_map o6 AV.MA List.append o5 List.getElem?_cons_zero List.getElem?_cons_succ AV.refs AV.cq AV.rows if_true if_false List.nil_append List.append_nil List.cons_append lX unz rC ZT Bh C1 List.getElem?_nil tw List.isEmpty_nil wd aUn WW PV.cells List.replicate List.set_cons_zero List.set_cons_succ rD Gd yN eq_self AV.yz qJ.yz eh Wu aEq gj aI List.headD_cons k8 IJ ot Bm qJ.cq qJ.refs List.flatMap_nil List.flatMap_cons sE Bx tU qJ.slv List.map_cons List.map_nil List.drop_zero Option.isSome_none Option.isNone_none Option.isSome_some Option.isNone_some Rv Qi dw H7 H5 WT U6 X2 W0 Qe Kh nP J2 H6 pA pV mB lS freshA gf bA Option.map_none Pq.eq_def AR HY X_nil X_uptoN X_uptoR X_uptoE X_codeR X_codeE X_skip X_ret X_exit X_seq X_cond IB Ix Iy IA ID Iz IC X_loop IE X_cmds0 X_cmdsC pN.eq_1 pN.eq_2 VO.eq_1 VO.eq_2 VO.eq_3 VO.eq_4 VO.eq_5 pres_S Y_nil Y_op DJ DI gf.eq_1 gf.eq_2 ev.eq_1 ev.eq_2 ev.eq_3 ev.eq_4 yu.get.eq_1 yu.get.eq_2 fp.eq_1 fp.eq_2 za.eq_1 za.eq_2 tC.eq_1 bM.eq_1 bM.eq_2 Jz.eq_1 Jz.eq_2 mo.eq_1 mo.eq_2 aBox.eq_1 ldP.eq_1 ldP.eq_2 Eo.eq_1 Eo.eq_2 TI.isAgg.eq_1 Ju.eq_1 qp.get.eq_1 qp.get.eq_2 qp.put.eq_1 qp.put.eq_2 PM Dw Dx O6 US BC UR BD O4 O5 PN PI Bz BA PJ PL PH PG PK Dv eM.eq_1 AV.refs.pI.eq_1 AV.refs.pI.eq_2 AV.cq.lP.eq_1 AV.cq.lP.eq_2 uU.eq_1 uU.eq_2 yg.eq_1 yg.eq_2 Rn Rm Ro narrow.eq_1 eX.eq_1 restrict.eq_1 restrict.eq_2 qp.upto.eq_1 qp.upto.eq_2 qp.below.eq_1 qp.below.eq_2 yu.below.eq_1 yu.below.eq_2 cx.eq_1 cx.eq_2 decide_true and_self AV.rows.QN.eq_1 AV.rows.QN.eq_2 Nat.zero_lt_one Nat.lt_add_one Nat.zero_le ju Nat.zero_add Nat.add_zero and_true true_and Bool.and_true Bool.true_and decide_false wH rF.eq_1 rF.eq_2 fnEnd_N fnEnd_R fnE_S ai.eq_1 ai.eq_2 Uq.eq_1 Uq.eq_2 finish.eq_1 List.range_zero pos.eq_1 pos.eq_2 nT.eq_1 nT.eq_2 nT.eq_3 enter.eq_1 ku.eq_1 ku.eq_2 xl.eq_1 xl.eq_2 di.eq_1 di.eq_2 setEnv.eq_1 setEnv.eq_2 De Z_nil Z_op Z_guard DH Y_guard PX Bool.not_false Bool.not_true Bool.or_self Bool.or_false Bool.false_or Bool.or_true Bool.true_or bool_ff bool_ft bool_tf Bool.and_self Bool.and_false Bool.false_and rH.eq_1 rH.eq_2 Nat.mul_one Nat.one_mul true_or or_true false_or or_false or_self and_false false_and Gm.freeze.eq_1 AV.yz.rm.eq_1 AV.yz.rm.eq_2 kz.eq_1 kz.eq_2 UY.eq_1 UY.eq_2 UY.eq_3 BT.eq_1 KC.eq_1 lA.eq_1 lA.eq_2 ly.eq_1 pT.eq_1 pT.eq_2 pick.eq_1 pick.eq_2 Gf.eq_1 Gf.eq_2 WC.eq_1 WC.eq_2 so.eq_1 jm.eq_1 ki.eq_1 ki.eq_2 X6.eq_1 cH.eq_1 Tk Of Og Oh Oi Oj again_0 again_1 again_2 again_3 again_4 leave_0 leave_1 leave_2 leave_3 leave_4 Ru left_S canon.eq_1 Rh.eq_1 Rh.eq_2 Um.eq_1 Um.eq_2 i4.eq_1 i4.eq_2 Pz keptL_S Zz.eq_1 orT.eq_1 orT.eq_2 isBytes.eq_1 Zh.eq_1 trimOff FD.eq_1 CV szc_szc CW ME MF CX Sb BO Sd BM Sc Lz B8 B7 B9 Kr.eq_1 Kr.eq_2 kE.eq_1 bool_tt rowApp_F rowApp_T range1 range2 range3 range4 range5 range6 Dk Dn IH VF Dh lset aNil_p1 aNil_p2 aNil_p3 aNil_p4 aNil_p5 aNil_s1 aNil_s2 aNil_s3 aNil_m1 aNil_m2 aNil_f1 aNil_f2 aNil_f3 Int.natCast_zero Int.cast_ofNat_Int u8_nat D3 List.take_length qj zD qS lY v_l qr b_x b_r b_m J8 zY pR lp bo IU lW.eq_1 lW.eq_2 slot_0 slot_1 slot_2 slot_3 slot_4 slot_11 slot_14 slot_19 slot_20 slot_21 AE AF AG AH AJ AK Kh.eq_def List.map_append List.map_set List.length_append List.map_replicate List.length_replicate szc_or lq Du Dt szc_or2 scal_int scal_rep map_oE Nat.sub_zero oE_app oE_len oE_nil oE_setR oE_flat mG mG2 mP rG rN LW Option.map_some qV RI app_ne lnil lcons mJ.eq_1 mJ.eq_2 xJ xE xG xF bN_eq nz_t nz_f nz_or Lp Lq tF tS tP tT jv sO mi kY take_ge oS1 oE_end oE_one oE_take szc_apC szc_apL Az PF rG2 rZ fE0 szc_repI szcN beq_self_eq_true qm.qG qk.qG qW.qG qF.qG zw.qG zo.qG qt.qG qu.qG qc.qG qq.qG qz.qG yD.qG qx.qG zF.qG xD.qG xC.qG jS.qG zV.qG qA.qG zO.qG kD.qG jT.qG z8.qG qb.qG xf.qG xe.qG qC.qG wI.qG ql.qG qd.qG qE.qG qg.qG qe.S6 qe.BB qe.Yt qe.Yu qe.qG tbA tiA0 tiA1 tiA2 tiA3 ownL kpL prL fzL mfL cmL spL
set_option maxHeartbeats 4000000
@[go_sem] def eS (ss:(List qa)):((Bool)⊕(Unit))->Ex×St
 | .inl y=>(Ex.ret,⟨[(4,zD y)],[(0,bm ss)],1⟩)
 | .inr y=>(Ex.normal,⟨[(4,AV.undef)],[(0,bm ss)],1⟩)
instance:xL bX fun(n,i,ss) r=>O.loop 10 0 ⟨[(0,qj n),(1,qr 0 ss),(5,qj i)],[(0,bm ss)],1⟩=some (eS ss r):=gP bX.partial_correctness fun _ _⟨_,_,_⟩=>gW
instance(n r_):zl (eR n r_) (fun r=>O.call 10 [qj n,qr 0 r_] [(0,bm r_)]=some (zD r,[(0,bm r_)])):=⟨by unfold eR;exact gW⟩
@[go_sem] def eV:((Bool)⊕(Unit))->Ex×St
 | .inl y=>(Ex.ret,⟨[(6,zD y)],[],0⟩)
 | .inr y=>(Ex.normal,⟨[(6,AV.undef)],[],0⟩)
instance:xL bY fun(n,es,i) r=>O.loop 11 0 ⟨[(1,qj n),(2,vv es),(7,qj i)],[],0⟩=some (eV r):=gP bY.partial_correctness fun _ _⟨_,_,_⟩=>gW
instance(many n es):zl (eU many n es) (fun r=>O.call 11 [qj many,qj n,vv es] []=some (zD r,[])):=⟨by unfold eU;exact gW⟩
instance:xL mI fun(n,os,i,k,K7) r=>O.loop 4 2 ⟨[(1,qj n),(2,vv os),(7,qj i),(8,qj k)],[(0,bm K7)],1⟩=some (Ex.normal,⟨[(1,qj r),(2,vv os),(7,qj i)],[(0,bm K7)],1⟩):=gP mI.partial_correctness fun _ _⟨_,_,_,_,_⟩=>gW
@[go_sem] def oO:((Bool)⊕(Unit))->Ex×St
 | .inl y=>(Ex.ret,⟨[(6,zD y)],[],0⟩)
 | .inr y=>(Ex.normal,⟨[(6,AV.undef)],[],0⟩)
instance:xL mH fun(n,os,i) r=>O.loop 4 0 ⟨[(1,qj n),(2,vv os),(7,qj i)],[],0⟩=some (oO r):=gP mH.partial_correctness fun _ _⟨_,_,_⟩=>gW
instance(many n os):zl (lH many n os) (fun r=>O.call 4 [qj many,qj n,vv os] []=some (zD r,[])):=⟨by unfold lH;exact gW⟩
instance(s):zl (pt s) (fun r=>O.call 33 [vv s] []=some (vv r,[])):=⟨by unfold pt;exact gW⟩
instance(s n):zl (se s n) (fun r=>O.call 32 [vv s,qj n] []=some (zD r,[])):=⟨by unfold se;exact gW⟩
end Go.Proofs.YtnfdnckadgcifaaGreat
