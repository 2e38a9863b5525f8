/-
  What the machine's calls come to: the plain functions.
-/
import Derived.Test.YtdhgdeelagmbpaaGreatQaf
import Derived.Test.YtdhgdeelagmbpaaGreatQah
import Derived.Test.YtdhgdeelagmbpaaGreatQai
set_option linter.unusedSimpArgs false
set_option linter.unusedVariables false
set_option maxRecDepth 100000
namespace Go.Proofs.YtdhgdeelagmbpaaGreat
open Go Go.Gm
attribute [go_sem] needs aop qe1 q2f List.toList_toArray qdk qbz q1u List.take List.drop List.length_cons List.length_nil List.length_map q3r AV.q6n List.append qed List.getElem?_cons_zero List.getElem?_cons_succ AV.refs AV.ren AV.rows if_true if_false List.nil_append List.append_nil List.cons_append q2y unz q40 q3f q48 qnb List.getElem?_nil touched List.isEmpty_nil Option.some.injEq aUn q7p PV.cells List.replicate List.set_cons_zero List.set_cons_succ q42 qe3 yz eq_self AV.thaw Blk.thaw q23 q8e aEq ui fitAll xw qaz q6p qcn Blk.ren Blk.refs List.flatMap_nil List.flatMap_cons q8f List.map_cons List.map_nil List.drop_zero Option.isSome_none Option.isNone_none Option.isSome_some Option.isNone_some q3y.eq_def z4s refsOf qx8 qt6 qrc z6r z2g z7t qzp zpa qqi zf9 z1d zhe zl7 qvz z8p zqo z4u z0t zg0 qz0 zgb zd7 zk4 zm0 freezes.eq_1 freezes.eq_2 ev.eq_1 ev.eq_2 ev.eq_3 ev.eq_4 Env.get.eq_1 Env.get.eq_2 jr.eq_1 jr.eq_2 zf.eq_1 zf.eq_2 q7n.eq_1 ve.eq_1 ve.eq_2 q63.eq_1 q63.eq_2 q0x.eq_1 q0x.eq_2 qdd.eq_1 ldP.eq_1 ldP.eq_2 ldA.eq_1 ldA.eq_2 TI.isAgg.eq_1 q4d.eq_1 Heap.get.eq_1 Heap.get.eq_2 Heap.put.eq_1 Heap.put.eq_2 z6p zrm z5x qzv zpi qz5 qq4 z3l qr9 zqg zpl zei qyu qwa zk8 qrm z5y zg5 z6n zhb q0j.eq_1 AV.refs.refsL.eq_1 AV.refs.refsL.eq_2 AV.ren.renL.eq_1 AV.ren.renL.eq_2 ky.eq_1 ky.eq_2 vg.eq_1 vg.eq_2 z0n qr5 zar narrow.eq_1 q9k.eq_1 restrict.eq_1 restrict.eq_2 Heap.upto.eq_1 Heap.upto.eq_2 Heap.below.eq_1 Heap.below.eq_2 Env.below.eq_1 Env.below.eq_2 q5w.eq_1 q5w.eq_2 decide_true and_self AV.rows.rowsL.eq_1 AV.rows.rowsL.eq_2 Nat.zero_lt_one Nat.lt_add_one Nat.zero_le Nat.le_refl Nat.zero_add Nat.add_zero and_true true_and Bool.and_true Bool.true_and decide_false Bool.false_eq_true q0h.eq_1 q0h.eq_2 zq3 zj4 q0o.eq_1 q0o.eq_2 q89.eq_1 q89.eq_2 finish.eq_1 List.range_zero pos.eq_1 pos.eq_2 reach.eq_1 reach.eq_2 reach.eq_3 enter.eq_1 ko.eq_1 ko.eq_2 jl.eq_1 jl.eq_2 q08.eq_1 q08.eq_2 setEnv.eq_1 setEnv.eq_2 zns qxf zbw zqn zr3 zn0 qv4 Bool.not_false Bool.not_true Bool.or_self Bool.or_false Bool.false_or Bool.or_true Bool.true_or z9k qwv zhf Bool.and_self Bool.and_false Bool.false_and q1k.eq_1 q1k.eq_2 Nat.mul_one Nat.one_mul true_or or_true false_or or_false or_self and_false false_and Gm.freeze.eq_1 AV.thaw.thawL.eq_1 AV.thaw.thawL.eq_2 xe.eq_1 xe.eq_2 qcf.eq_1 q1m.eq_1 q1m.eq_2 qhd.eq_1 closedIn.eq_1 closedIn.eq_2 pick.eq_1 pick.eq_2 q3g.eq_1 q3g.eq_2 q2t.eq_1 q2t.eq_2 yx.eq_1 backTo.eq_1 ym.eq_1 ym.eq_2 q0e.eq_1 q7m.eq_1 zrj z7o zsq qw0 qsb qsz zmz z7j qwr z3x qzw zfw z3g z9t zqu qx1 qwu zin canon.eq_1 q6w.eq_1 q6w.eq_2 q8h.eq_1 q8h.eq_2 q3l.eq_1 q3l.eq_2 q8v.eq_1 qvj zht zb qjy qjf qmv zr2 qpu qm9 qog qjz take_len zr9 zhm zrr znd qeq.eq_1 qeq.eq_2 kE.eq_1 z9r qrx z2y z8k z4r qz7 z3n zhw qv5 qtd zgm qvk qzr qxb qno qye zg4 z04 zsu zqf qxy qzy zjm zjz qqa zr8 zau zo7 zlx qxg ze z8 take_set List.take_length v_i v_b v_s v_g v_l v_r b_x b_r b_m ql qb qh ql1 slE qjh T.Span.qz T.Row.qz T.Rx.qz T.Fmt.qz T.Form.qz T.Stop.qz T.za.qz T.qc.qz T.q54.qz T.qi.qz T.qf.qz T.q5h.qz T.q4s.qz T.qm.qz T.qp.qz T.qo.qz T.qw.qka T.qw.qk2 T.qw.qoa T.qw.qia T.qw.qz z2p kp4 pr4 qsk kp7 pr7 qsc kp8 pr8 zfv z1u z90 zck qzt qqo ziv zla qzb z3y qrp z3d qym zrn qtz zpo qv3 z6a qxm zfi zfa qws z6e zn8 z9i zaa zir qyi qt2 z7u zer qso zh3 z1w zcz zsx z2r zsj zmi qx9 z1v z3b zpw z4w za2 zsf zm8 z03 zqj zj3 qv6 qre zj0 zod z0o qwk z4m znq zej z2z zbj zrl zjx zm1 qwi z6k qy8 zgn z3h zco zov z6m z7e zm5 zsn zd6 qtl zdb z99 zib qtn z2l zr0 zft zm2 zbe qs4 qqc zi0 z4t qti qw9 zdg qt3 qy1 zb9 qun qqe qra zi1 zff qs3 zfd qr3 zh2 za6 zhs zdz qul zb0 zpm zid qqw qtp zkf zfl z5u quj zj5 z9l qsw z92 qr0 z2d qqf qxi zbx zt1 z8o zdj qtk znx zsb z3v qy2 qrl zg7 z9d ze5 zkq zb3 z6j zf1 qzg zgj z8e zm4 qtu qx6 zrc zjj qz1 zkn z5b zkg qqv qrw qxo zri z7c z5h zhi zii zl8 zf0 z5o zlh zqs zez qv9 zgu za9 zh5 zn7 zat zls qss z6h z1y zo6 z8d z7f zf8 z2w z7n zal quq zlu z4y z0y zqx que zj2 zbh zc0 qsa qr8 zpq zm9 zcc z7h qsi z1k qud znm zec qt5 z5w qse qq7 z7w zlc zha z1n zbs zio zea qxh qzu zrb z3p zki z4p qyn zgy qzx zml qs6 qyh zhq z3t z97 zpp qzl qug zgl za1 zhn z7p z3r za3 za7 z8f z7z znu zbu z1g zjw zi8 zbd z0d zh1 zob zaj ziw qzq z1f qxj z9w zeu qt4 z9b qyf qwc zl2 zqb zmx qyk zph zq8 qx2 qya qvt z15 znz zjv zl6 qyb znw qts zh6 z3o zjt zs6 qrt qw4 z0q qq2 zij qq1 z3z zkw z0z zmk z6d zmr zf7 zcp z8r zdl z6l qv7 qva qx3 z0e qvh ze2 zmv z1m zi6 z2f z81 z09 zb4 qtg qwl ztc zor znf z4g qqn z6f zen z0p zkx zbo zqc zta zp1 zhv qzo zfb z6i z2h qyl zdv zfp qy3 z5p qvr qq9 z8b zq7 z1j zf2 zia zfr zt2 zn3 zde zsy qyy z7x z01 zlr zfm zay z1r z2j zcj znl z2v zge zct zgs zks zbf qtt z2s z2q qvy zas zkl zdk qrr zel qrh zjq z2o znv qt9 qry zjs z0a zgh z00 zhc zi9 zqw z8w z7g zol zdn z2n z0s qyw qr2 zkt zt3 zc6 qq8 qqg zq1 z8i zlp qyq zam z1c qq6 qwo zc4 zsp z0u zjy zdo qyt qsp zjr z19 zkv quu zj7 qv8 zie qsf zdi zmn qub zo3 qrq zee zlt zdu zj8 zbc zdy qvo z4k z5c zpy zmd quk zna zj6 qsn zo1 zni zd8 z3f zit zgz zdp z5d z4h zdd qxx qxq zk3 znn zmg z2t z9n zr1 zh7 za4 zoj zrw z9e zg6 zfk zoy zb5 zbn zf6 ze1 z1e qwh zmo zq6 z0v qwm qy4 qsj qtb zqv qq3 zcu zan qtq zg9 zsz z0l quf zk5 zh4 qto zl3 fz1 fz2 fz3 fz4 fz5 fz6 fz7 fz8 fz9 zoi z2i zix zmq z5m zjg z5j zne qri qtr qq0 ziq zst zkh z5f zrp qxe zrh zra zku z5l zi7 zgq qzi z5k zpj zng zop zl5 zg2 z4c zl1 zaw qus qwx zjk z9q zgf ze8 z7q zre zlb zpv z1p zb2 z2e qt1 z1x zc1 zqr zf5 qu7 zim qro z5e z9x z7k z7s quw qvd zru zo2 z0g z7l zpn zch zmj qxz qx0 zno qt0 qrz z7m zse ze6 qzm z1o qxr zms zkc zgp zgv z1z qqz z4n zk9 zqy zp8 zrv zke zjl zcn z1b z6g zqa zbz zot qsr qwq qxd zd3 z4v z4d qz8 zi5 zc2 zdh qwj zox z5r qvl qrg z6s z8x z0j zja qys z5s qup zds z8v zfu qrn zq4 z6t zpk zso zjh zi4 zb6 qrf z4a zlg zgx zn4 zl9 zdt zma qwe qu9 qs1 z5i zkk zcl zsa zqm qxa zcw qx4 zl4 qqm z9m zn1 zr6 z1t zfj zqh qv0 qxc zog zlz z0i zom qyv zld zln qvf z8s zo0 ze0 zfo zpf ziy zk0 zef zpd qvx z2u z1h qqb qsq qxt z2a z4o qzf zcx zq9 qux zoz z2c z4i ze3 qzc zqd z4q z9g zda ziu qta zqk zcs zga ti3 ti4 ti5 ti9 zsc qx7 zoe z5v z6c znb zsd zb7 zc7 zhd zme zi3 zro zca zje z3a qqk ze4 zo9 zpb qu3 zhu qrd zgr zpc zc3 qwy zcy z3c z6v zji z8a
set_option maxHeartbeats 4000000
theorem q73 {c r} (h : q15 c = some r) : O.call 93 [AV.pv (PV.int IntKind.u8 (c.toNat : Int))] [] = some (v_b r,[]) := by
 revert h; unfold q15
 apply it <;> intro h1
 ·rintro ⟨⟩
  exact fF qpq
 rintro ⟨⟩
 exact fF qpq
theorem zs8 : ∀ p r,q72 p = some r → O.loop 71 0 ⟨[(0,v_s p.1),(1,v_i p.2.1),(7,v_i p.2.2.1),(8,v_i p.2.2.2)],[],0⟩ = some (Ex.normal,⟨[(0,v_s p.1),(1,v_i p.2.1),(7,v_i r.1),(8,v_i r.2)],[],0⟩) := by
 refine q72.partial_correctness _ ?_
 rintro q72 ih7 ⟨s,at_,n,end_⟩ r; dsimp only
 refine zo (fun h1 h2 => ?_) ?_
 ·refine bc fun b4 h3 f1 f2 => ?_
  refine bs fun v6 h5 => ?_
  have f3 := q73 h5
  try simp only [en.down] at f3
  apply it <;> intro h7
  ·try simp only [h7] at f3
   intro h; have f4 := ih7 _ _ h; clear h
   try simp only [en.down] at f4
   try simp only [h7] at f4
   clear ih7; exact fL q7v
  try simp only [h7] at f3
  rintro ⟨⟩
  clear ih7; exact fL q7v
 rintro (⟨h1,h2⟩ | ⟨h1,h2⟩)
 all_goals
 rintro ⟨⟩
 clear ih7; exact fL q7v
theorem qh1 {s at_ r} (h : q6d s at_ = some r) : O.call 71 [v_s s,v_i at_] [] = some (AV.tup [v_i r.1,v_i r.2.1,v_b r.2.2],[]) := by
 revert h; unfold q6d
 refine bs fun v2 h1 => ?_
 have f1 := zs8 _ _ h1
 try simp only [en.down] at f1
 apply it <;> intro h3
 ·rintro ⟨⟩
  exact fF q7v
 apply it <;> intro h4
 ·refine bc fun b6 h5 f2 f3 => ?_
  refine bs fun v8 h7 => ?_
  have f4 := q73 h7
  try simp only [en.down] at f4
  apply it <;> intro h9
  ·try simp only [h9] at f1 f4
   rintro ⟨⟩
   exact fF q7v
  try simp only [h9] at f1 f4
  rintro ⟨⟩
  exact fF q7v
 rintro ⟨⟩
 exact fF q7v
theorem qf3 {c r} (h : q4y c = some r) : O.call 94 [AV.pv (PV.int IntKind.u8 (c.toNat : Int))] [] = some (v_b r,[]) := by
 revert h; unfold q4y
 refine zo (fun h1 h2 => ?_) ?_
 ·rintro ⟨⟩
  exact fF qh9
 rintro (⟨h1,h2⟩ | ⟨h1,h2⟩)
 all_goals
 apply it <;> intro h4
 ·rintro ⟨⟩
  exact fF qh9
 rintro ⟨⟩
 exact fF qh9
theorem qvu : ∀ p r,q39 p = some r → O.loop 72 0 ⟨[(0,AV.ptr 0 0),(1,v_i p.1),(7,v_i p.2.1)],[(0,Blk.box [v_s p.2.2.1,v_r 1 p.2.2.2.1,v_r 2 p.2.2.2.2]),(1,Blk.row false 18 (List.map T.qc.enc p.2.2.2.1)),(2,Blk.row false 1 (List.map qb p.2.2.2.2))],3⟩ = some (Ex.normal,⟨[(0,AV.ptr 0 0),(1,v_i p.1),(7,v_i r)],[(0,Blk.box [v_s p.2.2.1,v_r 1 p.2.2.2.1,v_r 2 p.2.2.2.2]),(1,Blk.row false 18 (List.map T.qc.enc p.2.2.2.1)),(2,Blk.row false 1 (List.map qb p.2.2.2.2))],3⟩) := by
 refine q39.partial_correctness _ ?_
 rintro q39 ih10 ⟨at_,end_,r_,r1_,r2_⟩ r; dsimp only
 apply it <;> intro h1
 ·refine bc fun b3 h2 f1 f2 => ?_
  refine bs fun v5 h4 => ?_
  have f3 := qf3 h4
  try simp only [en.down] at f3
  apply it <;> intro h6
  ·try simp only [h6] at f3
   intro h; have f4 := ih10 _ _ h; clear h
   try simp only [en.down] at f4
   try simp only [h6] at f4
   clear ih10; exact fL q6x
  apply it <;> intro h7
  ·try simp only [h6] at f3
   intro h; have f5 := ih10 _ _ h; clear h
   try simp only [en.down] at f5
   try simp only [h6] at f5
   clear ih10; exact fL q6x
  apply it <;> intro h8
  ·refine bs fun v10 h9 => ?_
   have f6 := q73 h9
   try simp only [en.down] at f6
   apply it <;> intro h11
   ·try simp only [h6,h11] at f3 f6
    intro h; have f7 := ih10 _ _ h; clear h
    try simp only [en.down] at f7
    try simp only [h6,h11] at f7
    clear ih10; exact fL q6x
   try simp only [h6,h11] at f3 f6
   rintro ⟨⟩
   clear ih10; exact fL q6x
  try simp only [h6] at f3
  rintro ⟨⟩
  clear ih10; exact fL q6x
 rintro ⟨⟩
 clear ih10; exact fL q6x
def qm7 : ((Bool) ⊕ (Unit)) → Ex × St
 | .inl y => (Ex.ret,⟨[(2,v_b y)],[],0⟩)
 | .inr y => (Ex.normal,⟨[(2,AV.undef)],[],0⟩)
attribute [local go_sem] qm7
theorem zbq : ∀ p r,q12 p = some r → O.loop 77 0 ⟨[(0,v_s p.1),(3,v_i p.2)],[],0⟩ = some (qm7 r) := by
 refine q12.partial_correctness _ ?_
 rintro q12 ih13 ⟨s,i⟩ r; dsimp only
 apply it <;> intro h1
 ·refine bc fun b3 h2 f1 f2 => ?_
  refine bs fun v5 h4 => ?_
  have f3 := qf3 h4
  try simp only [en.down] at f3
  apply it <;> intro h6
  ·apply it <;> intro h7
   ·apply it <;> intro h8
    ·rintro ⟨⟩
     clear ih13; exact fL q3w
    refine bs fun v10 h9 => ?_
    have f4 := q73 h9
    try simp only [en.down] at f4
    apply it <;> intro h11
    ·rintro ⟨⟩
     clear ih13; exact fL q3w
    intro h; have f5 := ih13 _ _ h; clear h
    try simp only [en.down] at f5
    clear ih13; exact fL q3w
   intro h; have f6 := ih13 _ _ h; clear h
   try simp only [en.down] at f6
   clear ih13; exact fL q3w
  intro h; have f7 := ih13 _ _ h; clear h
  try simp only [en.down] at f7
  clear ih13; exact fL q3w
 rintro ⟨⟩
 clear ih13; exact fL q3w
theorem q7u {s r} (h : ng s = some r) : O.call 77 [v_s s] [] = some (v_b r,[]) := by
 revert h; unfold ng
 refine xy ?_ (fun h1 h2 => ?_)
 ·rintro (⟨h1,h2⟩ | ⟨h1,h2⟩)
  all_goals
  rintro ⟨⟩
  exact fF q3w
 refine bs fun v4 h3 => ?_
 have f1 := zbq _ _ h3
 try simp only [en.down] at f1
 rcases v4 with y5 | y6
 ·dsimp only
  rintro ⟨⟩
  exact fF q3w
 dsimp only
 rintro ⟨⟩
 exact fF q3w
theorem zil {at_ b r_ r_2 r} (h : qb9 at_ b r_ r_2 = some r) : O.call 72 [AV.ptr 0 0,v_i at_] [(0,Blk.box [v_s b,v_r 1 r_,v_r 2 r_2]),(1,Blk.row false 18 (List.map T.qc.enc r_)),(2,Blk.row false 1 (List.map qb r_2))] = some (AV.tup [v_s r.1,v_i r.2.1,v_b r.2.2],[(0,Blk.box [v_s b,v_r 1 r_,v_r 2 r_2]),(1,Blk.row false 18 (List.map T.qc.enc r_)),(2,Blk.row false 1 (List.map qb r_2))]) := by
 revert h; unfold qb9
 refine bs fun v2 h1 => ?_
 have f1 := qvu _ _ h1
 try simp only [en.down] at f1
 refine b2s fun r4 h3 f2 f3 f4 f5 f6 => ?_
 refine bs fun v6 h5 => ?_
 have f7 := q7u h5
 try simp only [en.down] at f7
 rintro ⟨⟩
 exact fF q6x
theorem qj0 {at_ b r_ r_2 r} (h : q9e at_ b r_ r_2 = some r) : O.call 52 [AV.ptr 0 0,v_i at_] [(0,Blk.box [v_s b,v_r 1 r_,v_r 2 r_2]),(1,Blk.row false 18 (List.map T.qc.enc r_)),(2,Blk.row false 1 (List.map qb r_2))] = some (AV.tup [v_g (T.qc.enc r.1),v_i r.2.1,v_b r.2.2],[(0,Blk.box [v_s b,v_r 1 r_,v_r 2 r_2]),(1,Blk.row false 18 (List.map T.qc.enc r_)),(2,Blk.row false 1 (List.map qb r_2))]) := by
 revert h; unfold q9e
 refine bs fun v2 h1 => ?_
 have f1 := qh1 h1
 try simp only [en.down] at f1
 apply it <;> intro h3
 ·try simp only [h3] at f1
  rintro ⟨⟩
  exact fF qha
 refine bs fun v5 h4 => ?_
 have f2 := zil h4
 try simp only [en.down] at f2
 apply it <;> intro h6
 ·try simp only [h3,h6] at f1 f2
  rintro ⟨⟩
  exact fF qha
 try simp only [h3,h6] at f1 f2
 rintro ⟨⟩
 exact fF qha
theorem qgb {s at_ opt r} (h : q7w s at_ opt = some r) : O.call 55 [v_s s,v_i at_,v_b opt] [] = some (v_b r,[]) := by
 revert h; unfold q7w
 refine bc fun b2 h1 f1 f2 => ?_
 refine xy ?_ (fun h3 h4 => ?_)
 ·rintro (⟨h3,h4⟩ | ⟨h3,h4⟩)
  all_goals
  rintro ⟨⟩
  exact fF qbw
 refine bc fun b6 h5 f3 f4 => ?_
 refine q9x ?_ (fun h7 h8 h9 => ?_)
 ·rintro (⟨h7,h8,h9⟩ | ⟨h7,h8,h9⟩ | ⟨h7,h8,h9⟩)
  all_goals
  rintro ⟨⟩
  exact fF qbw
 apply it <;> intro h10
 ·apply it <;> intro h11
  ·rintro ⟨⟩
   exact fF qbw
  rintro ⟨⟩
  exact fF qbw
 rintro ⟨⟩
 exact fF qbw
theorem qxu : ∀ p r,uz p = some r → O.loop 38 0 ⟨[(0,AV.ptr 0 0),(1,v_i p.1),(2,v_b p.2.1),(8,v_r 3 p.2.2.2.2.2.1),(9,v_r 4 p.2.2.2.2.2.2)],[(0,Blk.box [v_s p.2.2.1,v_r 1 p.2.2.2.1,v_r 2 p.2.2.2.2.1]),(1,Blk.row false 18 (List.map T.qc.enc p.2.2.2.1)),(2,Blk.row false 1 (List.map qb p.2.2.2.2.1)),(3,b_r 18 T.qc.enc p.2.2.2.2.2.1),(4,b_r 1 ql p.2.2.2.2.2.2)],5⟩ = some (Ex.normal,⟨[(0,AV.ptr 0 0),(1,v_i r.1),(2,v_b p.2.1),(8,v_r 3 r.2.1),(9,v_r 4 r.2.2)],[(0,Blk.box [v_s p.2.2.1,v_r 1 p.2.2.2.1,v_r 2 p.2.2.2.2.1]),(1,Blk.row false 18 (List.map T.qc.enc p.2.2.2.1)),(2,Blk.row false 1 (List.map qb p.2.2.2.2.1)),(3,b_r 18 T.qc.enc r.2.1),(4,b_r 1 ql r.2.2)],5⟩) := by
 refine uz.partial_correctness _ ?_
 rintro uz ih15 ⟨at_,braced,r_,r1_,r2_,l,text⟩ r; dsimp only
 apply it <;> intro h1
 ·apply it <;> intro h2
  ·refine bc fun b4 h3 f1 f2 => ?_
   apply it <;> intro h5
   ·refine bw qb fun x7 h6 f3 f4 f5 => ?_
    apply it <;> intro h8
    ·have f6 := xc 1 ql text
     have f7 := bytesOf_map text
     refine bw T.qc.enc fun x10 h9 f8 f9 f10 => ?_
     refine gd fun h11 => ?_
     have f11 := fun te β nx c0 c1 (h1 : 18 = te.size) (h2 : qj (l.length + 2) te.bytes = true) => qfy te β 18 nx T.qc.enc l c0 [c1] h1 h2
     have f12 : List.map T.qc.enc l ++ [[PV.int IntKind.i64 (0 : Int),PV.str text,PV.int IntKind.i64 (0 : Int),PV.bool false,PV.bool false,PV.int IntKind.i64 (0 : Int),PV.str ([] : Bytes),PV.bool false,PV.sl true 0 [],PV.int IntKind.i64 (0 : Int),PV.int IntKind.i64 (0 : Int),PV.bool false,PV.sl true 0 [],PV.sl true 0 [],PV.bool false,PV.bool false,PV.sl true 0 [],PV.sl true 0 []],[PV.int IntKind.i64 x10.kind,PV.str x10.text,PV.int IntKind.i64 x10.n,PV.bool x10.has,PV.bool x10.turned,PV.int IntKind.i64 x10.form.rx.kind,PV.str x10.form.rx.char,PV.bool x10.form.rx.not,PV.sl x10.form.rx.rows.nil (szc 2 x10.form.rx.rows.l) (List.map T.Row.enc x10.form.rx.rows.l),PV.int IntKind.i64 x10.form.rx.min,PV.int IntKind.i64 x10.form.rx.max,PV.bool x10.form.rx.lazy,PV.sl x10.form.rx.kids.nil (szc 8 x10.form.rx.kids.l) (List.map T.Rx.enc x10.form.rx.kids.l),PV.sl x10.form.fmts.nil (szc 5 x10.form.fmts.l) (List.map T.Fmt.enc x10.form.fmts.l),PV.bool x10.form.fold,PV.bool x10.form.all,PV.sl x10.opts.nil (szc 1 x10.opts.l) (List.map qh x10.opts.l),PV.sl x10.kids.nil (szc 18 x10.kids.l) (List.map T.qc.enc x10.kids.l)]] = List.map T.qc.enc (l ++ [(T.qc.mk (0 : Int) text (0 : Int) false false (T.Form.mk (T.Rx.mk (0 : Int) ([] : Bytes) false (⟨true,[]⟩ : (Sl T.Row)) (0 : Int) (0 : Int) false (⟨true,[]⟩ : (Sl T.Rx))) (⟨true,[]⟩ : (Sl T.Fmt)) false false) (⟨true,[]⟩ : (Sl Bytes)) (⟨true,[]⟩ : (Sl T.qc))),x10]) := by simp only [List.map_append,List.map_cons,List.map_nil,ze,z8,zb,T.qc.qz] <;> rfl
     intro h; have f13 := ih15 _ _ h; clear h
     try simp only [en.down] at f13
     try simp only [h2] at f13
     clear ih15; exact fL q1w
    refine bs fun v13 h12 => ?_
    have f14 := qgb h12
    try simp only [en.down] at f14
    apply it <;> intro h14
    ·refine bc fun b16 h15 f15 f16 => ?_
     refine gd fun h17 => ?_
     have f17 := rG 1 ql text
     have f18 : List.map ql text ++ [[PV.int IntKind.u8 (b16.toNat : Int)]] = List.map ql (text ++ [b16]) := by simp only [List.map_append,List.map_cons,List.map_nil,ze,z8,zb,ql] <;> rfl
     try simp only [h2,h14] at f14
     intro h; have f19 := ih15 _ _ h; clear h
     try simp only [en.down] at f19
     try simp only [h2,h14] at f19
     clear ih15; exact fL q1w
    refine gd fun h18 => ?_
    have f20 := rG 1 ql text
    have f21 : List.map ql text ++ [[PV.int IntKind.u8 (b4.toNat : Int)]] = List.map ql (text ++ [b4]) := by simp only [List.map_append,List.map_cons,List.map_nil,ze,z8,zb,ql] <;> rfl
    try simp only [h2,h14] at f14
    intro h; have f22 := ih15 _ _ h; clear h
    try simp only [en.down] at f22
    try simp only [h2,h14] at f22
    clear ih15; exact fL q1w
   rintro ⟨⟩
   clear ih15; exact fL q1w
  refine bw qb fun x20 h19 f23 f24 f25 => ?_
  apply it <;> intro h21
  ·have f26 := xc 1 ql text
   have f27 := bytesOf_map text
   refine bw T.qc.enc fun x23 h22 f28 f29 f30 => ?_
   refine gd fun h24 => ?_
   have f31 := fun te β nx c0 c1 (h1 : 18 = te.size) (h2 : qj (l.length + 2) te.bytes = true) => qfy te β 18 nx T.qc.enc l c0 [c1] h1 h2
   have f32 : List.map T.qc.enc l ++ [[PV.int IntKind.i64 (0 : Int),PV.str text,PV.int IntKind.i64 (0 : Int),PV.bool false,PV.bool false,PV.int IntKind.i64 (0 : Int),PV.str ([] : Bytes),PV.bool false,PV.sl true 0 [],PV.int IntKind.i64 (0 : Int),PV.int IntKind.i64 (0 : Int),PV.bool false,PV.sl true 0 [],PV.sl true 0 [],PV.bool false,PV.bool false,PV.sl true 0 [],PV.sl true 0 []],[PV.int IntKind.i64 x23.kind,PV.str x23.text,PV.int IntKind.i64 x23.n,PV.bool x23.has,PV.bool x23.turned,PV.int IntKind.i64 x23.form.rx.kind,PV.str x23.form.rx.char,PV.bool x23.form.rx.not,PV.sl x23.form.rx.rows.nil (szc 2 x23.form.rx.rows.l) (List.map T.Row.enc x23.form.rx.rows.l),PV.int IntKind.i64 x23.form.rx.min,PV.int IntKind.i64 x23.form.rx.max,PV.bool x23.form.rx.lazy,PV.sl x23.form.rx.kids.nil (szc 8 x23.form.rx.kids.l) (List.map T.Rx.enc x23.form.rx.kids.l),PV.sl x23.form.fmts.nil (szc 5 x23.form.fmts.l) (List.map T.Fmt.enc x23.form.fmts.l),PV.bool x23.form.fold,PV.bool x23.form.all,PV.sl x23.opts.nil (szc 1 x23.opts.l) (List.map qh x23.opts.l),PV.sl x23.kids.nil (szc 18 x23.kids.l) (List.map T.qc.enc x23.kids.l)]] = List.map T.qc.enc (l ++ [(T.qc.mk (0 : Int) text (0 : Int) false false (T.Form.mk (T.Rx.mk (0 : Int) ([] : Bytes) false (⟨true,[]⟩ : (Sl T.Row)) (0 : Int) (0 : Int) false (⟨true,[]⟩ : (Sl T.Rx))) (⟨true,[]⟩ : (Sl T.Fmt)) false false) (⟨true,[]⟩ : (Sl Bytes)) (⟨true,[]⟩ : (Sl T.qc))),x23]) := by simp only [List.map_append,List.map_cons,List.map_nil,ze,z8,zb,T.qc.qz] <;> rfl
   intro h; have f33 := ih15 _ _ h; clear h
   try simp only [en.down] at f33
   try simp only [h2] at f33
   clear ih15; exact fL q1w
  refine bs fun v26 h25 => ?_
  have f34 := qgb h25
  try simp only [en.down] at f34
  apply it <;> intro h27
  ·refine bc fun b29 h28 f35 f36 => ?_
   refine gd fun h30 => ?_
   have f37 := rG 1 ql text
   have f38 : List.map ql text ++ [[PV.int IntKind.u8 (b29.toNat : Int)]] = List.map ql (text ++ [b29]) := by simp only [List.map_append,List.map_cons,List.map_nil,ze,z8,zb,ql] <;> rfl
   try simp only [h2,h27] at f34
   intro h; have f39 := ih15 _ _ h; clear h
   try simp only [en.down] at f39
   try simp only [h2,h27] at f39
   clear ih15; exact fL q1w
  refine bc fun b32 h31 f40 f41 => ?_
  refine gd fun h33 => ?_
  have f42 := rG 1 ql text
  have f43 : List.map ql text ++ [[PV.int IntKind.u8 (b32.toNat : Int)]] = List.map ql (text ++ [b32]) := by simp only [List.map_append,List.map_cons,List.map_nil,ze,z8,zb,ql] <;> rfl
  try simp only [h2,h27] at f34
  intro h; have f44 := ih15 _ _ h; clear h
  try simp only [en.down] at f44
  try simp only [h2,h27] at f44
  clear ih15; exact fL q1w
 rintro ⟨⟩
 clear ih15; exact fL q1w
theorem qr4 : ∀ p r,q0g p = some r → O.loop 56 0 ⟨[(0,v_l 18 T.qc.enc p.1),(3,v_r 0 p.2.2),(4,v_i p.2.1)],[(0,b_r 18 T.qc.enc p.2.2)],1⟩ = some (Ex.normal,⟨[(3,v_r 0 r)],[(0,b_r 18 T.qc.enc r)],1⟩) := by
 refine q0g.partial_correctness _ ?_
 rintro q0g ih18 ⟨l,i,out⟩ r; dsimp only
 apply it <;> intro h1
 ·refine bg T.qc.enc fun x3 h2 f1 f2 f3 => ?_
  apply it <;> intro h4
  ·apply it <;> intro h5
   ·intro h; have f4 := ih18 _ _ h; clear h
    try simp only [en.down] at f4
    clear ih18; exact fL q7j
   apply it <;> intro h6
   ·refine bW T.qc.enc 18 fun x8 h7 f5 f6 f7 f8 f9 => ?_
    apply it <;> intro h9
    ·refine gd fun h10 => ?_
     have f10 := eq_true h10
     try simp only [en.down] at f10
     have f11 := map_set T.qc.enc out ((IntKind.i64.wrap ((out.length : Int) - (1 : Int))).toNat) (T.qc.mk x8.kind (x8.text ++ x3.text) x8.n x8.has x8.turned x8.form x8.opts x8.kids)
     try simp only [en.down] at f11
     try simp only [f8,f9] at f11
     intro h; have f12 := ih18 _ _ h; clear h
     try simp only [en.down,f8,f9] at f12
     try simp only [f8,f9] at f12
     clear ih18; exact fL q7j
    refine gd fun h11 => ?_
    have f13 : List.map T.qc.enc out ++ [[PV.int IntKind.i64 x3.kind,PV.str x3.text,PV.int IntKind.i64 x3.n,PV.bool x3.has,PV.bool x3.turned,PV.int IntKind.i64 x3.form.rx.kind,PV.str x3.form.rx.char,PV.bool x3.form.rx.not,PV.sl x3.form.rx.rows.nil (szc 2 x3.form.rx.rows.l) (List.map T.Row.enc x3.form.rx.rows.l),PV.int IntKind.i64 x3.form.rx.min,PV.int IntKind.i64 x3.form.rx.max,PV.bool x3.form.rx.lazy,PV.sl x3.form.rx.kids.nil (szc 8 x3.form.rx.kids.l) (List.map T.Rx.enc x3.form.rx.kids.l),PV.sl x3.form.fmts.nil (szc 5 x3.form.fmts.l) (List.map T.Fmt.enc x3.form.fmts.l),PV.bool x3.form.fold,PV.bool x3.form.all,PV.sl x3.opts.nil (szc 1 x3.opts.l) (List.map qh x3.opts.l),PV.sl x3.kids.nil (szc 18 x3.kids.l) (List.map T.qc.enc x3.kids.l)]] = List.map T.qc.enc (out ++ [x3]) := by simp only [List.map_append,List.map_cons,List.map_nil,ze,z8,zb,T.qc.qz] <;> rfl
    intro h; have f14 := ih18 _ _ h; clear h
    try simp only [en.down,f8,f9] at f14
    try simp only [f8,f9] at f14
    clear ih18; exact fL q7j
   refine gd fun h12 => ?_
   have f15 := rG 18 T.qc.enc out
   have f16 : List.map T.qc.enc out ++ [[PV.int IntKind.i64 x3.kind,PV.str x3.text,PV.int IntKind.i64 x3.n,PV.bool x3.has,PV.bool x3.turned,PV.int IntKind.i64 x3.form.rx.kind,PV.str x3.form.rx.char,PV.bool x3.form.rx.not,PV.sl x3.form.rx.rows.nil (szc 2 x3.form.rx.rows.l) (List.map T.Row.enc x3.form.rx.rows.l),PV.int IntKind.i64 x3.form.rx.min,PV.int IntKind.i64 x3.form.rx.max,PV.bool x3.form.rx.lazy,PV.sl x3.form.rx.kids.nil (szc 8 x3.form.rx.kids.l) (List.map T.Rx.enc x3.form.rx.kids.l),PV.sl x3.form.fmts.nil (szc 5 x3.form.fmts.l) (List.map T.Fmt.enc x3.form.fmts.l),PV.bool x3.form.fold,PV.bool x3.form.all,PV.sl x3.opts.nil (szc 1 x3.opts.l) (List.map qh x3.opts.l),PV.sl x3.kids.nil (szc 18 x3.kids.l) (List.map T.qc.enc x3.kids.l)]] = List.map T.qc.enc (out ++ [x3]) := by simp only [List.map_append,List.map_cons,List.map_nil,ze,z8,zb,T.qc.qz] <;> rfl
   intro h; have f17 := ih18 _ _ h; clear h
   try simp only [en.down] at f17
   clear ih18; exact fL q7j
  refine gd fun h13 => ?_
  have f18 := rG 18 T.qc.enc out
  have f19 : List.map T.qc.enc out ++ [[PV.int IntKind.i64 x3.kind,PV.str x3.text,PV.int IntKind.i64 x3.n,PV.bool x3.has,PV.bool x3.turned,PV.int IntKind.i64 x3.form.rx.kind,PV.str x3.form.rx.char,PV.bool x3.form.rx.not,PV.sl x3.form.rx.rows.nil (szc 2 x3.form.rx.rows.l) (List.map T.Row.enc x3.form.rx.rows.l),PV.int IntKind.i64 x3.form.rx.min,PV.int IntKind.i64 x3.form.rx.max,PV.bool x3.form.rx.lazy,PV.sl x3.form.rx.kids.nil (szc 8 x3.form.rx.kids.l) (List.map T.Rx.enc x3.form.rx.kids.l),PV.sl x3.form.fmts.nil (szc 5 x3.form.fmts.l) (List.map T.Fmt.enc x3.form.fmts.l),PV.bool x3.form.fold,PV.bool x3.form.all,PV.sl x3.opts.nil (szc 1 x3.opts.l) (List.map qh x3.opts.l),PV.sl x3.kids.nil (szc 18 x3.kids.l) (List.map T.qc.enc x3.kids.l)]] = List.map T.qc.enc (out ++ [x3]) := by simp only [List.map_append,List.map_cons,List.map_nil,ze,z8,zb,T.qc.qz] <;> rfl
  intro h; have f20 := ih18 _ _ h; clear h
  try simp only [en.down] at f20
  clear ih18; exact fL q7j
 rintro ⟨⟩
 clear ih18; exact fL q7j
theorem z1a {l r} (h : qag l = some r) : O.call 56 [v_l 18 T.qc.enc l] [] = some (v_l 18 T.qc.enc r,[]) := by
 revert h; unfold qag
 refine bs fun v2 h1 => ?_
 have f1 := qr4 _ _ h1
 try simp only [en.down] at f1
 rintro ⟨⟩
 exact fF q7j
theorem qla {at_ braced b r_ r_2 r} (h : q8n at_ braced b r_ r_2 = some r) : O.call 38 [AV.ptr 0 0,v_i at_,v_b braced] [(0,Blk.box [v_s b,v_r 1 r_,v_r 2 r_2]),(1,Blk.row false 18 (List.map T.qc.enc r_)),(2,Blk.row false 1 (List.map qb r_2))] = some (AV.tup [v_l 18 T.qc.enc r.1,v_i r.2],[(0,Blk.box [v_s b,v_r 1 r_,v_r 2 r_2]),(1,Blk.row false 18 (List.map T.qc.enc r_)),(2,Blk.row false 1 (List.map qb r_2))]) := by
 revert h; unfold q8n
 refine bs fun v2 h1 => ?_
 have f1 := qxu _ _ h1
 try simp only [en.down] at f1
 refine zo (fun h3 h4 => ?_) ?_
 ·try simp only [h4] at f1
  rintro ⟨⟩
  exact fF q1w
 rintro (⟨h3,h4⟩ | ⟨h3,h4⟩)
 all_goals
 have f2 := xc 1 ql v2.2.2
 have f3 := bytesOf_map v2.2.2
 refine gd fun h8 => ?_
 have f4 := rG 18 T.qc.enc v2.2.1
 have f5 : List.map T.qc.enc v2.2.1 ++ [[PV.int IntKind.i64 (0 : Int),PV.str v2.2.2,PV.int IntKind.i64 (0 : Int),PV.bool false,PV.bool false,PV.int IntKind.i64 (0 : Int),PV.str ([] : Bytes),PV.bool false,PV.sl true 0 [],PV.int IntKind.i64 (0 : Int),PV.int IntKind.i64 (0 : Int),PV.bool false,PV.sl true 0 [],PV.sl true 0 [],PV.bool false,PV.bool false,PV.sl true 0 [],PV.sl true 0 []]] = List.map T.qc.enc (v2.2.1 ++ [(T.qc.mk (0 : Int) v2.2.2 (0 : Int) false false (T.Form.mk (T.Rx.mk (0 : Int) ([] : Bytes) false (⟨true,[]⟩ : (Sl T.Row)) (0 : Int) (0 : Int) false (⟨true,[]⟩ : (Sl T.Rx))) (⟨true,[]⟩ : (Sl T.Fmt)) false false) (⟨true,[]⟩ : (Sl Bytes)) (⟨true,[]⟩ : (Sl T.qc)))]) := by simp only [List.map_append,List.map_cons,List.map_nil,ze,z8,zb,T.qc.qz] <;> rfl
 refine bs fun v10 h9 => ?_
 have f6 := z1a h9
 try simp only [en.down] at f6
 try simp only [h4] at f1 f6
 rintro ⟨⟩
 exact fF q1w
theorem zrx : ∀ p r,q3h p = some r → O.loop 53 0 ⟨[(0,v_s p.1),(4,AV.ptr 0 0),(7,v_r 1 p.2.2.2),(8,v_i p.2.1)],[(0,b_x (T.Form.enc p.2.2.1)),(1,b_r 1 ql p.2.2.2)],2⟩ = some (Ex.normal,⟨[(0,v_s p.1),(4,AV.ptr 0 0),(7,v_r 1 r.2),(8,v_i r.1)],[(0,b_x (T.Form.enc p.2.2.1)),(1,b_r 1 ql r.2)],2⟩) := by
 refine q3h.partial_correctness _ ?_
 rintro q3h ih20 ⟨s,k,t4,b⟩ r; dsimp only
 apply it <;> intro h1
 ·refine bc fun b3 h2 f1 f2 => ?_
  apply it <;> intro h4
  ·refine zo (fun h5 h6 => ?_) ?_
   ·refine bc fun b8 h7 f3 f4 => ?_
    apply it <;> intro h9
    ·refine gd fun h10 => ?_
     have f5 := rG 1 ql b
     have f6 : List.map ql b ++ [[PV.int IntKind.u8 (92 : Int)]] = List.map ql (b ++ [92]) := by simp only [List.map_append,List.map_cons,List.map_nil,ze,z8,zb,ql] <;> rfl
     refine gd fun h11 => ?_
     have f7 : List.map ql (b ++ [92]) ++ [[PV.int IntKind.u8 (b8.toNat : Int)]] = List.map ql ((b ++ [92]) ++ [b8]) := by simp only [List.map_append,List.map_cons,List.map_nil,ze,z8,zb,ql] <;> rfl
     intro h; have f8 := ih20 _ _ h; clear h
     try simp only [en.down] at f8
     clear ih20; exact fL yo
    refine gd fun h12 => ?_
    have f9 := rG 1 ql b
    have f10 : List.map ql b ++ [[PV.int IntKind.u8 (b8.toNat : Int)]] = List.map ql (b ++ [b8]) := by simp only [List.map_append,List.map_cons,List.map_nil,ze,z8,zb,ql] <;> rfl
    intro h; have f11 := ih20 _ _ h; clear h
    try simp only [en.down] at f11
    clear ih20; exact fL yo
   rintro (⟨h5,h6⟩ | ⟨h5,h6⟩)
   all_goals
   refine gd fun h14 => ?_
   have f12 := rG 1 ql b
   have f13 : List.map ql b ++ [[PV.int IntKind.u8 (b3.toNat : Int)]] = List.map ql (b ++ [b3]) := by simp only [List.map_append,List.map_cons,List.map_nil,ze,z8,zb,ql] <;> rfl
   intro h; have f14 := ih20 _ _ h; clear h
   try simp only [en.down] at f14
   clear ih20; exact fL yo
  rintro ⟨⟩
  clear ih20; exact fL yo
 rintro ⟨⟩
 clear ih20; exact fL yo
theorem qh8 {c r} (h : q3q c = some r) : O.call 111 [AV.pv (PV.int IntKind.u8 (c.toNat : Int))] [] = some (v_b r,[]) := by
 revert h; unfold q3q
 apply it <;> intro h1
 ·rintro ⟨⟩
  exact fF qlj
 rintro ⟨⟩
 exact fF qlj
theorem zof : ∀ p r,yc p = some r → O.loop 95 0 ⟨[(0,v_s p.1),(3,v_r 0 p.2.2.2),(4,v_i p.2.1),(5,v_i p.2.2.1)],[(0,b_r 1 qh p.2.2.2)],1⟩ = some (Ex.normal,⟨[(3,v_r 0 r)],[(0,b_r 1 qh r)],1⟩) := by
 refine yc.partial_correctness _ ?_
 rintro yc ih23 ⟨s,frm,i,l⟩ r; dsimp only
 apply it <;> intro h1
 ·apply it <;> intro h2
  ·refine b2s fun r4 h3 f1 f2 f3 f4 f5 => ?_
   refine gd fun h5 => ?_
   have f6 := rG 1 qh l
   have f7 : List.map qh l ++ [[PV.str r4]] = List.map qh (l ++ [r4]) := by simp only [List.map_append,List.map_cons,List.map_nil,ze,z8,zb,qh] <;> rfl
   intro h; have f8 := ih23 _ _ h; clear h
   try simp only [en.down] at f8
   clear ih23; exact fL qb8
  refine bc fun b7 h6 f9 f10 => ?_
  refine bs fun v9 h8 => ?_
  have f11 := qh8 h8
  try simp only [en.down] at f11
  apply it <;> intro h10
  ·refine b2s fun r12 h11 f12 f13 f14 f15 f16 => ?_
   refine gd fun h13 => ?_
   have f17 := rG 1 qh l
   have f18 : List.map qh l ++ [[PV.str r12]] = List.map qh (l ++ [r12]) := by simp only [List.map_append,List.map_cons,List.map_nil,ze,z8,zb,qh] <;> rfl
   try simp only [h10] at f11
   intro h; have f19 := ih23 _ _ h; clear h
   try simp only [en.down] at f19
   try simp only [h10] at f19
   clear ih23; exact fL qb8
  try simp only [h10] at f11
  intro h; have f20 := ih23 _ _ h; clear h
  try simp only [en.down] at f20
  try simp only [h10] at f20
  clear ih23; exact fL qb8
 rintro ⟨⟩
 clear ih23; exact fL qb8
theorem qhm {s r} (h : q2x s = some r) : O.call 95 [v_s s] [] = some (v_l 1 qh r,[]) := by
 revert h; unfold q2x
 refine bs fun v2 h1 => ?_
 have f1 := zof _ _ h1
 try simp only [en.down] at f1
 rintro ⟨⟩
 exact fF qb8
theorem q35 {b r} (h : q03 b = some r) : O.call 112 [AV.ptr 0 0] [(0,b_x (T.qm.enc b))] = some (v_s r,[(0,b_x (T.qm.enc b))]) := by
 revert h; unfold q03
 apply it <;> intro h1
 ·rintro ⟨⟩
  exact fF qly
 refine bg qh fun x3 h2 f1 f2 f3 => ?_
 rintro ⟨⟩
 exact fF qly
theorem jb {c b r} (h : zy c b = some r) : O.call 115 [AV.ptr 0 0,v_s c] [(0,b_x (T.qm.enc b))] = some (v_b r.1,[(0,b_x (T.qm.enc r.2))]) := by
 revert h; unfold zy
 apply it <;> intro h1
 ·rintro ⟨⟩
  exact fF qfi
 refine bg qh fun x3 h2 f1 f2 f3 => ?_
 apply it <;> intro h4
 ·rintro ⟨⟩
  exact fF qfi
 rintro ⟨⟩
 exact fF qfi
theorem qkv {c r} (h : q8s c = some r) : O.call 151 [AV.pv (PV.int IntKind.u8 (c.toNat : Int))] [] = some (AV.tup [v_l 2 T.Row.enc r.1,v_b r.2],[]) := by
 revert h; unfold q8s
 apply it <;> intro h1
 ·rintro ⟨⟩
  exact fF qde
 apply it <;> intro h2
 ·rintro ⟨⟩
  exact fF qde
 apply it <;> intro h3
 ·rintro ⟨⟩
  exact fF qde
 rintro ⟨⟩
 exact fF qde
theorem qel {c r} (h : q2e c = some r) : O.call 152 [v_s c] [] = some (AV.tup [v_s r.1,v_b r.2],[]) := by
 revert h; unfold q2e
 apply it <;> intro h1
 ·rintro ⟨⟩
  exact fF q20
 apply it <;> intro h2
 ·rintro ⟨⟩
  exact fF q20
 apply it <;> intro h3
 ·rintro ⟨⟩
  exact fF q20
 apply it <;> intro h4
 ·rintro ⟨⟩
  exact fF q20
 apply it <;> intro h5
 ·rintro ⟨⟩
  exact fF q20
 apply it <;> intro h6
 ·rintro ⟨⟩
  exact fF q20
 apply it <;> intro h7
 ·refine bc fun b9 h8 f1 f2 => ?_
  refine bs fun v11 h10 => ?_
  have f3 := qf3 h10
  try simp only [en.down] at f3
  apply it <;> intro h12
  ·try simp only [h12] at f3
   rintro ⟨⟩
   exact fF q20
  refine bs fun v14 h13 => ?_
  have f4 := q73 h13
  try simp only [en.down] at f4
  apply it <;> intro h15
  ·try simp only [h12,h15] at f3 f4
   rintro ⟨⟩
   exact fF q20
  try simp only [h12,h15] at f3 f4
  rintro ⟨⟩
  exact fF q20
 rintro ⟨⟩
 exact fF q20
theorem qkx {b r} (h : q9d b = some r) : O.call 148 [AV.ptr 0 0] [(0,b_x (T.qm.enc b))] = some (AV.tup [v_l 2 T.Row.enc r.1,v_s r.2.1,v_b r.2.2.1],[(0,b_x (T.qm.enc r.2.2.2))]) := by
 revert h; unfold q9d
 refine bs fun v2 h1 => ?_
 have f1 := q35 h1
 try simp only [en.down] at f1
 refine xy ?_ (fun h3 h4 => ?_)
 ·rintro (⟨h3,h4⟩ | ⟨h3,h4⟩)
  all_goals
  rintro ⟨⟩
  exact fF qa1
 apply it <;> intro h5
 ·rintro ⟨⟩
  exact fF qa1
 refine bs fun v7 h6 => ?_
 have f2 := q35 h6
 try simp only [en.down] at f2
 apply it <;> intro h8
 ·refine bc fun b10 h9 f3 f4 => ?_
  refine bs fun v12 h11 => ?_
  have f5 := qkv h11
  try simp only [en.down] at f5
  apply it <;> intro h13
  ·try simp only [h13] at f1 f2 f5
   rintro ⟨⟩
   exact fF qa1
  refine bs fun v15 h14 => ?_
  have f6 := qel h14
  try simp only [en.down] at f6
  try simp only [h13] at f1 f2 f5 f6
  rintro ⟨⟩
  exact fF qa1
 refine bs fun v17 h16 => ?_
 have f7 := qel h16
 try simp only [en.down] at f7
 rintro ⟨⟩
 exact fF qa1
def qjj (t2 : T.Rx) (x : T.Rx) : ((Int × T.qm × T.Rx × (List T.Row)) ⊕ (T.qm × (List T.Row))) → Ex × St
 | .inl y => (Ex.ret,⟨[(2,AV.ptr 1 0),(3,v_i y.1),(4,AV.ptr 2 0),(5,v_r 3 y.2.2.2)],[(0,b_x (T.qm.enc y.2.1)),(1,b_x (T.Rx.enc y.2.2.1)),(2,b_x (T.Rx.enc x)),(3,b_r 2 T.Row.enc y.2.2.2)],4⟩)
 | .inr y => (Ex.normal,⟨[(2,AV.ptr 1 0),(3,AV.undef),(4,AV.ptr 2 0),(5,v_r 3 y.2)],[(0,b_x (T.qm.enc y.1)),(1,b_x (T.Rx.enc t2)),(2,b_x (T.Rx.enc x)),(3,b_r 2 T.Row.enc y.2)],4⟩)
attribute [local go_sem] qjj
theorem zrs : ∀ p r,q0c p = some r → O.loop 136 0 ⟨[(0,AV.ptr 0 0),(2,AV.ptr 1 0),(4,AV.ptr 2 0),(5,v_r 3 p.2.2.2)],[(0,b_x (T.qm.enc p.1)),(1,b_x (T.Rx.enc p.2.1)),(2,b_x (T.Rx.enc p.2.2.1)),(3,b_r 2 T.Row.enc p.2.2.2)],4⟩ = some (qjj p.2.1 p.2.2.1 r) := by
 refine q0c.partial_correctness _ ?_
 rintro q0c ih33 ⟨r_,t2,x,rows⟩ r; dsimp only
 refine bs fun v2 h1 => ?_
 have f1 := jb h1
 try simp only [en.down] at f1
 apply it <;> intro h3
 ·refine bs fun v5 h4 => ?_
  have f2 := qkx h4
  try simp only [en.down] at f2
  apply it <;> intro h6
  ·rintro ⟨⟩
   clear ih33; exact fL q2o
  apply it <;> intro h7
  ·have f3 := xc 2 T.Row.enc v5.1.l
   apply it <;> intro h8
   ·have f4 := rA T.Row.enc h8
    intro h; have f5 := ih33 _ _ h; clear h
    try simp only [en.down] at f5
    clear ih33; exact fL q2o
   refine gd fun h9 => ?_
   have f6 := rB T.Row.enc h8
   have f7 : (rows ++ v5.1.l).isEmpty = false := qm4 h8
   have f8 : szc 2 (rows ++ v5.1.l) = 2 := q87 h8 _
   have f9 : List.map T.Row.enc rows ++ List.map T.Row.enc v5.1.l = List.map T.Row.enc (rows ++ v5.1.l) := q31 _ _ _
   try simp only [f7,f8] at f1 f2
   intro h; have f10 := ih33 _ _ h; clear h
   try simp only [en.down,f7,f8] at f10
   try simp only [f7,f8] at f10
   clear ih33; exact fL q2o
  refine bs fun v11 h10 => ?_
  have f11 := q35 h10
  try simp only [en.down] at f11
  refine zo (fun h12 h13 => ?_) ?_
  ·refine bg qh fun x15 h14 f12 f13 f14 => ?_
   apply it <;> intro h16
   ·refine bs fun v18 h17 => ?_
    have f15 := qkx h17
    try simp only [en.down] at f15
    refine q9x ?_ (fun h19 h20 h21 => ?_)
    ·rintro (⟨h19,h20,h21⟩ | ⟨h19,h20,h21⟩ | ⟨h19,h20,h21⟩)
     all_goals
     rintro ⟨⟩
     clear ih33; exact fL q2o
    refine gd fun h22 => ?_
    have f16 := rG 2 T.Row.enc rows
    have f17 : List.map T.Row.enc rows ++ [[PV.str v5.2.1,PV.str v18.2.1]] = List.map T.Row.enc (rows ++ [(T.Row.mk v5.2.1 v18.2.1)]) := by simp only [List.map_append,List.map_cons,List.map_nil,ze,z8,zb,T.Row.qz] <;> rfl
    intro h; have f18 := ih33 _ _ h; clear h
    try simp only [en.down] at f18
    clear ih33; exact fL q2o
   refine gd fun h23 => ?_
   have f19 := rG 2 T.Row.enc rows
   have f20 : List.map T.Row.enc rows ++ [[PV.str v5.2.1,PV.str v5.2.1]] = List.map T.Row.enc (rows ++ [(T.Row.mk v5.2.1 v5.2.1)]) := by simp only [List.map_append,List.map_cons,List.map_nil,ze,z8,zb,T.Row.qz] <;> rfl
   intro h; have f21 := ih33 _ _ h; clear h
   try simp only [en.down] at f21
   clear ih33; exact fL q2o
  rintro (⟨h12,h13⟩ | ⟨h12,h13⟩)
  all_goals
  refine gd fun h25 => ?_
  have f22 := rG 2 T.Row.enc rows
  have f23 : List.map T.Row.enc rows ++ [[PV.str v5.2.1,PV.str v5.2.1]] = List.map T.Row.enc (rows ++ [(T.Row.mk v5.2.1 v5.2.1)]) := by simp only [List.map_append,List.map_cons,List.map_nil,ze,z8,zb,T.Row.qz] <;> rfl
  intro h; have f24 := ih33 _ _ h; clear h
  try simp only [en.down] at f24
  clear ih33; exact fL q2o
 rintro ⟨⟩
 clear ih33; exact fL q2o
theorem q9c {c r} (h : mq c = some r) : O.call 138 [v_s c] [] = some (v_b r,[]) := by
 revert h; unfold mq
 apply it <;> intro h1
 ·refine bc fun b3 h2 f1 f2 => ?_
  refine bs fun v5 h4 => ?_
  have f3 := qh8 h4
  try simp only [en.down] at f3
  apply it <;> intro h6
  ·refine bs fun v8 h7 => ?_
   have f4 := qhm h7
   try simp only [en.down] at f4
   try simp only [h6] at f3 f4
   rintro ⟨⟩
   exact fF qhp
  try simp only [h6] at f3
  rintro ⟨⟩
  exact fF qhp
 rintro ⟨⟩
 exact fF qhp
theorem qqd : ∀ p r,q5u p = some r → O.loop 149 2 ⟨[(0,v_l 2 T.Row.enc p.1),(3,v_l 2 T.Row.enc p.2.1),(4,v_i p.2.2.1),(5,AV.ptr 0 0),(6,v_i p.2.2.2.1)],[(0,b_x (T.Row.enc p.2.2.2.2))],1⟩ = some (Ex.normal,⟨[(0,v_l 2 T.Row.enc p.1),(3,v_l 2 T.Row.enc p.2.1),(4,v_i p.2.2.1),(5,AV.ptr 0 0),(6,v_i r)],[(0,b_x (T.Row.enc p.2.2.2.2))],1⟩) := by
 refine q5u.partial_correctness _ ?_
 rintro q5u ih40 ⟨rows,s,i,k,r_⟩ r; dsimp only
 apply it <;> intro h1
 ·refine bg T.Row.enc fun x3 h2 f1 f2 f3 => ?_
  apply it <;> intro h4
  ·intro h; have f4 := ih40 _ _ h; clear h
   try simp only [en.down] at f4
   clear ih40; exact fL mr
  apply it <;> intro h5
  ·apply it <;> intro h6
   ·intro h; have f5 := ih40 _ _ h; clear h
    try simp only [en.down] at f5
    clear ih40; exact fL mr
   rintro ⟨⟩
   clear ih40; exact fL mr
  rintro ⟨⟩
  clear ih40; exact fL mr
 rintro ⟨⟩
 clear ih40; exact fL mr
theorem zcr : ∀ p r,q2h p = some r → O.loop 149 0 ⟨[(0,v_l 2 T.Row.enc p.1),(3,v_l 2 T.Row.enc p.2.1),(4,v_i p.2.2)],[],0⟩ = some (Ex.normal,⟨[(3,v_l 2 T.Row.enc r)],[],0⟩) := by
 refine q2h.partial_correctness _ ?_
 rintro q2h ih38 ⟨rows,s,i⟩ r; dsimp only
 apply it <;> intro h1
 ·refine bg T.Row.enc fun x3 h2 f1 f2 f3 => ?_
  refine bs fun v5 h4 => ?_
  have f4 := q9c h4
  try simp only [en.down] at f4
  apply it <;> intro h6
  ·intro h; have f5 := ih38 _ _ h; clear h
   try simp only [en.down] at f5
   clear ih38; exact fL mr
  refine bs fun v8 h7 => ?_
  have f6 := q9c h7
  try simp only [en.down] at f6
  refine xy ?_ (fun h9 h10 => ?_)
  ·rintro (⟨h9,h10⟩ | ⟨h9,h10⟩)
   all_goals
   intro h; have f7 := ih38 _ _ h; clear h
   try simp only [en.down] at f7
   clear ih38; exact fL mr
  refine bs fun v12 h11 => ?_
  have f8 := qqd _ _ h11
  try simp only [en.down] at f8
  have f9 := xc 2 T.Row.enc s.l
  refine bT T.Row.enc fun r14 h13 f10 f11 f12 f13 => ?_
  have f14 := xc 2 T.Row.enc r14
  refine gd fun h15 => ?_
  refine gd fun h16 => ?_
  refine bF T.Row.enc fun r18 h17 f15 f16 f17 f18 => ?_
  have f19 := xc 2 T.Row.enc r18
  have f20 : List.map T.Row.enc r14 ++ [[PV.str x3.frm,PV.str x3.to]] = List.map T.Row.enc (r14 ++ [x3]) := by simp only [List.map_append,List.map_cons,List.map_nil,ze,z8,zb,T.Row.qz] <;> rfl
  refine gd fun h19 => ?_
  have f21 : List.map T.Row.enc (r14 ++ [x3]) ++ List.map T.Row.enc r18 = List.map T.Row.enc ((r14 ++ [x3]) ++ r18) := q31 _ _ _
  intro h; have f22 := ih38 _ _ h; clear h
  try simp only [en.down] at f22
  clear ih38; exact fL mr
 rintro ⟨⟩
 clear ih38; exact fL mr
theorem zjn : ∀ p r,q2v p = some r → O.loop 149 4 ⟨[(3,v_l 2 T.Row.enc p.1),(7,v_r 0 p.2.2),(8,v_i p.2.1)],[(0,b_r 2 T.Row.enc p.2.2)],1⟩ = some (Ex.normal,⟨[(7,v_r 0 r)],[(0,b_r 2 T.Row.enc r)],1⟩) := by
 refine q2v.partial_correctness _ ?_
 rintro q2v ih41 ⟨s,i,out⟩ r; dsimp only
 apply it <;> intro h1
 ·apply it <;> intro h2
  ·refine bg T.Row.enc fun x4 h3 f1 f2 f3 => ?_
   refine bW T.Row.enc 2 fun x6 h5 f4 f5 f6 f7 f8 => ?_
   apply it <;> intro h7
   ·have f9 := map_set T.Row.enc out ((IntKind.i64.wrap ((out.length : Int) - (1 : Int))).toNat) (T.Row.mk x6.frm (if j6 x6.to x4.to = true then x4.to else x6.to))
    try simp only [en.down] at f9
    try simp only [f7,f8] at f9
    intro h; have f10 := ih41 _ _ h; clear h
    try simp only [en.down,f7,f8] at f10
    try simp only [f7,f8] at f10
    clear ih41; exact fL mr
   refine gd fun h8 => ?_
   have f11 : List.map T.Row.enc out ++ [[PV.str x4.frm,PV.str x4.to]] = List.map T.Row.enc (out ++ [x4]) := by simp only [List.map_append,List.map_cons,List.map_nil,ze,z8,zb,T.Row.qz] <;> rfl
   intro h; have f12 := ih41 _ _ h; clear h
   try simp only [en.down,f7,f8] at f12
   try simp only [f7,f8] at f12
   clear ih41; exact fL mr
  refine bg T.Row.enc fun x10 h9 f13 f14 f15 => ?_
  refine gd fun h11 => ?_
  have f16 := rG 2 T.Row.enc out
  have f17 : List.map T.Row.enc out ++ [[PV.str x10.frm,PV.str x10.to]] = List.map T.Row.enc (out ++ [x10]) := by simp only [List.map_append,List.map_cons,List.map_nil,ze,z8,zb,T.Row.qz] <;> rfl
  intro h; have f18 := ih41 _ _ h; clear h
  try simp only [en.down] at f18
  clear ih41; exact fL mr
 rintro ⟨⟩
 clear ih41; exact fL mr
theorem z1q {rows r} (h : qd5 rows = some r) : O.call 149 [v_l 2 T.Row.enc rows] [] = some (v_l 2 T.Row.enc r,[]) := by
 revert h; unfold qd5
 refine bs fun v2 h1 => ?_
 have f1 := zcr _ _ h1
 try simp only [en.down] at f1
 refine bs fun v4 h3 => ?_
 have f2 := zjn _ _ h3
 try simp only [en.down] at f2
 rintro ⟨⟩
 exact fF mr
theorem zfh {b r} (h : qbq b = some r) : O.call 136 [AV.ptr 0 0] [(0,b_x (T.qm.enc b))] = some (AV.tup [v_g (T.Rx.enc r.1),v_i r.2.1],[(0,b_x (T.qm.enc r.2.2))]) := by
 revert h; unfold qbq
 refine bs fun v2 h1 => ?_
 have f1 := jb h1
 try simp only [en.down] at f1
 refine bs fun v4 h3 => ?_
 have f2 := zrs _ _ h3
 try simp only [en.down] at f2
 rcases v4 with y5 | y6
 ·dsimp only
  rintro ⟨⟩
  exact fF q2o
 dsimp only
 refine bs fun v8 h7 => ?_
 have f3 := z1q h7
 try simp only [en.down] at f3
 rintro ⟨⟩
 exact fF q2o
theorem zis : ∀ p r,q1g p = some r → O.loop 150 0 ⟨[(3,v_r 0 p.2),(4,v_i p.1)],[(0,Blk.row false 1 (List.map ql p.2))],1⟩ = some (Ex.normal,⟨[(3,v_r 0 r)],[(0,Blk.row false 1 (List.map ql r))],1⟩) := by
 refine q1g.partial_correctness _ ?_
 rintro q1g ih44 ⟨i,b⟩ r; dsimp only
 apply it <;> intro h1
 ·refine bw ql fun x3 h2 f1 f2 f3 => ?_
  apply it <;> intro h4
  ·apply it <;> intro h5
   ·have f4 := map_set ql b i.toNat (u8 (IntKind.u8.wrap ((x3.toNat : Int) + (32 : Int))))
    try simp only [en.down] at f4
    intro h; have f5 := ih44 _ _ h; clear h
    try simp only [en.down] at f5
    clear ih44; exact fL qbt
   intro h; have f6 := ih44 _ _ h; clear h
   try simp only [en.down] at f6
   clear ih44; exact fL qbt
  intro h; have f7 := ih44 _ _ h; clear h
  try simp only [en.down] at f7
  clear ih44; exact fL qbt
 rintro ⟨⟩
 clear ih44; exact fL qbt
theorem qe4 {s r} (h : q2b s = some r) : O.call 150 [v_s s] [] = some (v_s r,[]) := by
 revert h; unfold q2b
 refine bs fun v2 h1 => ?_
 have f1 := zis _ _ h1
 try simp only [en.down] at f1
 have f2 := xc 1 ql v2
 have f3 := bytesOf_map v2
 rintro ⟨⟩
 exact fF qbt
theorem zj9 {b r} (h : qci b = some r) : O.call 137 [AV.ptr 0 0] [(0,b_x (T.qm.enc b))] = some (AV.tup [v_g (T.Rx.enc r.1),v_i r.2.1],[(0,b_x (T.qm.enc r.2.2))]) := by
 revert h; unfold qci
 refine bs fun v2 h1 => ?_
 have f1 := q35 h1
 try simp only [en.down] at f1
 refine bs fun v4 h3 => ?_
 have f2 := qe4 h3
 try simp only [en.down] at f2
 apply it <;> intro h5
 ·refine bc fun b7 h6 f3 f4 => ?_
  refine bs fun v9 h8 => ?_
  have f5 := qkv h8
  try simp only [en.down] at f5
  apply it <;> intro h10
  ·try simp only [h10] at f1 f2 f5
   rintro ⟨⟩
   exact fF qch
  refine bs fun v12 h11 => ?_
  have f6 := qel h11
  try simp only [en.down] at f6
  apply it <;> intro h13
  ·try simp only [h10] at f1 f2 f5 f6
   rintro ⟨⟩
   exact fF qch
  try simp only [h10] at f1 f2 f5 f6
  rintro ⟨⟩
  exact fF qch
 refine bs fun v15 h14 => ?_
 have f7 := qel h14
 try simp only [en.down] at f7
 apply it <;> intro h16
 ·rintro ⟨⟩
  exact fF qch
 rintro ⟨⟩
 exact fF qch
theorem zos : ∀ p r,q7k p = some r → O.loop 139 0 ⟨[(0,AV.ptr 0 0),(4,v_i p.1),(5,v_i p.2.1)],[(0,b_x (T.qm.enc p.2.2))],1⟩ = some (Ex.normal,⟨[(4,v_i r.1),(5,v_i r.2.1)],[(0,b_x (T.qm.enc r.2.2))],1⟩) := by
 refine q7k.partial_correctness _ ?_
 rintro q7k ih47 ⟨n,many,r_⟩ r; dsimp only
 apply it <;> intro h1
 ·refine bs fun v3 h2 => ?_
  have f1 := q35 h2
  try simp only [en.down] at f1
  apply it <;> intro h4
  ·refine bc fun b6 h5 f2 f3 => ?_
   refine bs fun v8 h7 => ?_
   have f4 := q73 h7
   try simp only [en.down] at f4
   apply it <;> intro h9
   ·try simp only [h9] at f1 f4
    intro h; have f5 := ih47 _ _ h; clear h
    try simp only [en.down] at f5
    try simp only [h9] at f5
    clear ih47; exact fL q9p
   try simp only [h9] at f1 f4
   rintro ⟨⟩
   clear ih47; exact fL q9p
  rintro ⟨⟩
  clear ih47; exact fL q9p
 rintro ⟨⟩
 clear ih47; exact fL q9p
theorem qm5 {b r} (h : q92 b = some r) : O.call 139 [AV.ptr 0 0] [(0,b_x (T.qm.enc b))] = some (AV.tup [v_i r.1,v_b r.2.1],[(0,b_x (T.qm.enc r.2.2))]) := by
 revert h; unfold q92
 refine bs fun v2 h1 => ?_
 have f1 := zos _ _ h1
 try simp only [en.down] at f1
 apply it <;> intro h3
 ·rintro ⟨⟩
  exact fF q9p
 rintro ⟨⟩
 exact fF q9p
theorem qik {x b r} (h : q6e x b = some r) : O.call 128 [AV.ptr 0 0,v_g (T.Rx.enc x)] [(0,b_x (T.qm.enc b))] = some (AV.tup [v_g (T.Rx.enc r.1),v_i r.2.1],[(0,b_x (T.qm.enc r.2.2))]) := by
 revert h; unfold q6e
 refine bs fun v2 h1 => ?_
 have f1 := jb h1
 try simp only [en.down] at f1
 apply it <;> intro h3
 ·refine bs fun v5 h4 => ?_
  have f2 := jb h4
  try simp only [en.down] at f2
  try simp only [h3] at f1 f2
  rintro ⟨⟩
  exact fF q0u
 refine bs fun v7 h6 => ?_
 have f3 := jb h6
 try simp only [en.down] at f3
 apply it <;> intro h8
 ·refine bs fun v10 h9 => ?_
  have f4 := jb h9
  try simp only [en.down] at f4
  try simp only [h3,h8] at f1 f3 f4
  rintro ⟨⟩
  exact fF q0u
 refine bs fun v12 h11 => ?_
 have f5 := jb h11
 try simp only [en.down] at f5
 apply it <;> intro h13
 ·refine bs fun v15 h14 => ?_
  have f6 := jb h14
  try simp only [en.down] at f6
  try simp only [h3,h8,h13] at f1 f3 f5 f6
  rintro ⟨⟩
  exact fF q0u
 refine bs fun v17 h16 => ?_
 have f7 := jb h16
 try simp only [en.down] at f7
 apply it <;> intro h18
 ·refine bs fun v20 h19 => ?_
  have f8 := qm5 h19
  try simp only [en.down] at f8
  apply it <;> intro h21
  ·try simp only [h3,h8,h13,h18] at f1 f3 f5 f7 f8
   rintro ⟨⟩
   exact fF q0u
  refine bs fun v23 h22 => ?_
  have f9 := jb h22
  try simp only [en.down] at f9
  apply it <;> intro h24
  ·refine bs fun v26 h25 => ?_
   have f10 := q35 h25
   try simp only [en.down] at f10
   apply it <;> intro h27
   ·refine bs fun v29 h28 => ?_
    have f11 := qm5 h28
    try simp only [en.down] at f11
    apply it <;> intro h30
    ·try simp only [h3,h8,h13,h18,h24] at f1 f3 f5 f7 f8 f9 f10 f11
     rintro ⟨⟩
     exact fF q0u
    refine bs fun v32 h31 => ?_
    have f12 := jb h31
    try simp only [en.down] at f12
    refine qht ?_ ?_
    ·rintro (⟨h33,h34,h35⟩ | ⟨h33,h34,h35⟩)
     all_goals
     try simp only [h3,h8,h13,h18,h24] at f1 f3 f5 f7 f8 f9 f10 f11 f12
     rintro ⟨⟩
     exact fF q0u
    rintro (⟨h33,h34,h35⟩ | ⟨h33,h34,h35⟩)
    all_goals
    refine bs fun v39 h38 => ?_
    have f13 := jb h38
    try simp only [en.down] at f13
    try simp only [h3,h8,h13,h18,h24] at f1 f3 f5 f7 f8 f9 f10 f11 f12 f13
    rintro ⟨⟩
    exact fF q0u
   refine bs fun v41 h40 => ?_
   have f14 := jb h40
   try simp only [en.down] at f14
   apply it <;> intro h42
   ·try simp only [h3,h8,h13,h18,h24] at f1 f3 f5 f7 f8 f9 f10 f14
    rintro ⟨⟩
    exact fF q0u
   have f15 : (((-1) : Int) != ((-1) : Int)) = false := by decide
   refine bs fun v44 h43 => ?_
   have f16 := jb h43
   try simp only [en.down] at f16
   try simp only [h3,h8,h13,h18,h24] at f1 f3 f5 f7 f8 f9 f10 f14 f16
   rintro ⟨⟩
   exact fF q0u
  refine bs fun v46 h45 => ?_
  have f17 := jb h45
  try simp only [en.down] at f17
  refine qht ?_ ?_
  ·rintro (⟨h47,h48,h49⟩ | ⟨h47,h48,h49⟩)
   all_goals
   try simp only [h3,h8,h13,h18,h24] at f1 f3 f5 f7 f8 f9 f17
   rintro ⟨⟩
   exact fF q0u
  rintro (⟨h47,h48,h49⟩ | ⟨h47,h48,h49⟩)
  all_goals
  refine bs fun v53 h52 => ?_
  have f18 := jb h52
  try simp only [en.down] at f18
  try simp only [h3,h8,h13,h18,h24] at f1 f3 f5 f7 f8 f9 f17 f18
  rintro ⟨⟩
  exact fF q0u
 try simp only [h3,h8,h13,h18] at f1 f3 f5 f7
 rintro ⟨⟩
 exact fF q0u
theorem zn5 : ∀ p r,q21 p = some r → O.loop 129 0 ⟨[(0,v_i p.1),(1,v_l 8 T.Rx.enc p.2.1),(5,v_r 0 p.2.2.2),(6,v_i p.2.2.1)],[(0,b_r 8 T.Rx.enc p.2.2.2)],1⟩ = some (Ex.normal,⟨[(5,v_r 0 r)],[(0,b_r 8 T.Rx.enc r)],1⟩) := by
 refine q21.partial_correctness _ ?_
 rintro q21 ih50 ⟨kind,xs,i,l⟩ r; dsimp only
 apply it <;> intro h1
 ·refine bg T.Rx.enc fun x3 h2 f1 f2 f3 => ?_
  apply it <;> intro h4
  ·have f4 := xc 8 T.Rx.enc x3.kids.l
   apply it <;> intro h5
   ·have f5 := rA T.Rx.enc h5
    intro h; have f6 := ih50 _ _ h; clear h
    try simp only [en.down] at f6
    clear ih50; exact fL qce
   refine gd fun h6 => ?_
   have f7 := rB T.Rx.enc h5
   have f8 : (l ++ x3.kids.l).isEmpty = false := qm4 h5
   have f9 : szc 8 (l ++ x3.kids.l) = 8 := q87 h5 _
   have f10 : List.map T.Rx.enc l ++ List.map T.Rx.enc x3.kids.l = List.map T.Rx.enc (l ++ x3.kids.l) := q31 _ _ _
   intro h; have f11 := ih50 _ _ h; clear h
   try simp only [en.down,f8,f9] at f11
   try simp only [f8,f9] at f11
   clear ih50; exact fL qce
  refine gd fun h7 => ?_
  have f12 := rG 8 T.Rx.enc l
  have f13 : List.map T.Rx.enc l ++ [[PV.int IntKind.i64 x3.kind,PV.str x3.char,PV.bool x3.not,PV.sl x3.rows.nil (szc 2 x3.rows.l) (List.map T.Row.enc x3.rows.l),PV.int IntKind.i64 x3.min,PV.int IntKind.i64 x3.max,PV.bool x3.lazy,PV.sl x3.kids.nil (szc 8 x3.kids.l) (List.map T.Rx.enc x3.kids.l)]] = List.map T.Rx.enc (l ++ [x3]) := by simp only [List.map_append,List.map_cons,List.map_nil,ze,z8,zb,T.Rx.qz] <;> rfl
  intro h; have f14 := ih50 _ _ h; clear h
  try simp only [en.down] at f14
  clear ih50; exact fL qce
 rintro ⟨⟩
 clear ih50; exact fL qce
theorem qki {kind xs r} (h : q97 kind xs = some r) : O.call 129 [v_i kind,v_l 8 T.Rx.enc xs] [] = some (v_l 8 T.Rx.enc r,[]) := by
 revert h; unfold q97
 refine bs fun v2 h1 => ?_
 have f1 := zn5 _ _ h1
 try simp only [en.down] at f1
 rintro ⟨⟩
 exact fF qce
theorem qqh {xs r} (h : qaa xs = some r) : O.call 114 [v_l 8 T.Rx.enc xs] [] = some (v_g (T.Rx.enc r),[]) := by
 revert h; unfold qaa
 refine bs fun v2 h1 => ?_
 have f1 := qki h1
 try simp only [en.down] at f1
 apply it <;> intro h3
 ·refine bg T.Rx.enc fun x5 h4 f2 f3 f4 => ?_
  rintro ⟨⟩
  exact fF qoy
 rintro ⟨⟩
 exact fF qoy
theorem qu6 {xs r} (h : qbs xs = some r) : O.call 116 [v_l 8 T.Rx.enc xs] [] = some (v_g (T.Rx.enc r),[]) := by
 revert h; unfold qbs
 refine bs fun v2 h1 => ?_
 have f1 := qki h1
 try simp only [en.down] at f1
 apply it <;> intro h3
 ·rintro ⟨⟩
  exact fF qgq
 apply it <;> intro h4
 ·refine bg T.Rx.enc fun x6 h5 f2 f3 f4 => ?_
  rintro ⟨⟩
  exact fF qgq
 rintro ⟨⟩
 exact fF qgq
def qlh : ((Int × T.qm × T.Rx × (List T.Rx)) ⊕ (Int × T.qm × T.Rx)) → Ex × St
 | .inl y => (Ex.ret,⟨[(4,AV.ptr 1 0),(5,v_i y.1)],[(0,b_x (T.qm.enc y.2.1)),(1,b_x (T.Rx.enc y.2.2.1)),(2,b_r 8 T.Rx.enc y.2.2.2)],3⟩)
 | .inr y => (Ex.ret,⟨[(4,AV.ptr 1 0),(5,v_i y.1)],[(0,b_x (T.qm.enc y.2.1)),(1,b_x (T.Rx.enc y.2.2)),(2,Blk.dead)],3⟩)
attribute [local go_sem] qlh
def qma (deep : Int) (t4 : T.Rx) (alts : (List T.Rx)) : ((Int × T.qm × T.Rx × (List T.Rx)) ⊕ (T.qm × (List T.Rx))) → Ex × St
 | .inl y => (Ex.ret,⟨[(0,AV.ptr 0 0),(1,v_i deep),(4,AV.ptr 1 0),(5,v_i y.1),(6,v_r 2 alts),(7,v_r 3 y.2.2.2)],[(0,b_x (T.qm.enc y.2.1)),(1,b_x (T.Rx.enc y.2.2.1)),(2,b_r 8 T.Rx.enc alts),(3,b_r 8 T.Rx.enc y.2.2.2)],4⟩)
 | .inr y => (Ex.normal,⟨[(0,AV.ptr 0 0),(1,v_i deep),(4,AV.ptr 1 0),(5,AV.undef),(6,v_r 2 alts),(7,v_r 3 y.2)],[(0,b_x (T.qm.enc y.1)),(1,b_x (T.Rx.enc t4)),(2,b_r 8 T.Rx.enc alts),(3,b_r 8 T.Rx.enc y.2)],4⟩)
attribute [local go_sem] qma
theorem z7r : (∀ p r,q1d p = some r → O.call 96 [AV.ptr 0 0,v_i p.1] [(0,b_x (T.qm.enc p.2))] = some (AV.tup [v_g (T.Rx.enc r.1),v_i r.2.1],[(0,b_x (T.qm.enc r.2.2))])) ∧ (∀ p r,q7o p = some r → O.loop 96 0 ⟨[(0,AV.ptr 0 0),(1,v_i p.1),(4,AV.ptr 1 0),(6,v_r 2 p.2.2.2)],[(0,b_x (T.qm.enc p.2.1)),(1,b_x (T.Rx.enc p.2.2.1)),(2,b_r 8 T.Rx.enc p.2.2.2)],3⟩ = some (qlh r)) ∧ (∀ p r,q6h p = some r → O.loop 96 2 ⟨[(0,AV.ptr 0 0),(1,v_i p.1),(4,AV.ptr 1 0),(6,v_r 2 p.2.2.2.1),(7,v_r 3 p.2.2.2.2)],[(0,b_x (T.qm.enc p.2.1)),(1,b_x (T.Rx.enc p.2.2.1)),(2,b_r 8 T.Rx.enc p.2.2.2.1),(3,b_r 8 T.Rx.enc p.2.2.2.2)],4⟩ = some (qma p.1 p.2.2.1 p.2.2.2.1 r)) ∧ (∀ p r,qau p = some r → O.call 113 [AV.ptr 0 0,v_i p.1] [(0,b_x (T.qm.enc p.2))] = some (AV.tup [v_g (T.Rx.enc r.1),v_i r.2.1],[(0,b_x (T.qm.enc r.2.2))])) ∧ (∀ p r,q6u p = some r → O.call 127 [AV.ptr 0 0,v_i p.1] [(0,b_x (T.qm.enc p.2))] = some (AV.tup [v_g (T.Rx.enc r.1),v_i r.2.1],[(0,b_x (T.qm.enc r.2.2))])) := by
 refine q1d.mutual_partial_correctness _ _ _ _ _ ?_ ?_ ?_ ?_ ?_
 ·rintro q7o ih26 ⟨deep,b⟩ r; dsimp only
  refine bs fun v2 h1 => ?_
  have f1 := ih26 _ _ h1
  try simp only [en.down] at f1
  rcases v2 with y3 | y4
  ·dsimp only
   rintro ⟨⟩
   clear ih26; exact fF q1x
  dsimp only
  rintro ⟨⟩
  clear ih26; exact fF q1x
 ·rintro q7o q6h ih26 ih27 ⟨deep,r_,t4,alts⟩ r; dsimp only
  refine bs fun v2 h1 => ?_
  have f1 := ih27 _ _ h1
  try simp only [en.down] at f1
  rcases v2 with y3 | y4
  ·dsimp only
   rintro ⟨⟩
   clear ih26 ih27; exact fL q1x
  dsimp only
  refine bs fun v6 h5 => ?_
  have f2 := qqh h5
  try simp only [en.down] at f2
  refine gd fun h7 => ?_
  have f3 := rG 8 T.Rx.enc alts
  refine bs fun v9 h8 => ?_
  have f4 := jb h8
  try simp only [en.down] at f4
  apply it <;> intro h10
  ·have f5 : List.map T.Rx.enc alts ++ [[PV.int IntKind.i64 v6.kind,PV.str v6.char,PV.bool v6.not,PV.sl v6.rows.nil (szc 2 v6.rows.l) (List.map T.Row.enc v6.rows.l),PV.int IntKind.i64 v6.min,PV.int IntKind.i64 v6.max,PV.bool v6.lazy,PV.sl v6.kids.nil (szc 8 v6.kids.l) (List.map T.Rx.enc v6.kids.l)]] = List.map T.Rx.enc (alts ++ [v6]) := by simp only [List.map_append,List.map_cons,List.map_nil,ze,z8,zb,T.Rx.qz] <;> rfl
   refine bs fun v12 h11 => ?_
   have f6 := qu6 h11
   try simp only [en.down] at f6
   rintro ⟨⟩
   clear ih26 ih27; exact fL q1x
  have f7 : List.map T.Rx.enc alts ++ [[PV.int IntKind.i64 v6.kind,PV.str v6.char,PV.bool v6.not,PV.sl v6.rows.nil (szc 2 v6.rows.l) (List.map T.Row.enc v6.rows.l),PV.int IntKind.i64 v6.min,PV.int IntKind.i64 v6.max,PV.bool v6.lazy,PV.sl v6.kids.nil (szc 8 v6.kids.l) (List.map T.Rx.enc v6.kids.l)]] = List.map T.Rx.enc (alts ++ [v6]) := by simp only [List.map_append,List.map_cons,List.map_nil,ze,z8,zb,T.Rx.qz] <;> rfl
  intro h; have f8 := ih26 _ _ h; clear h
  try simp only [en.down] at f8
  clear ih26 ih27; exact fL q1x
 ·rintro q6h qau ih27 ih29 ⟨deep,r_,t4,alts,terms⟩ r; dsimp only
  apply it <;> intro h1
  ·refine bs fun v3 h2 => ?_
   have f1 := q35 h2
   try simp only [en.down] at f1
   apply it <;> intro h4
   ·apply it <;> intro h5
    ·refine bs fun v7 h6 => ?_
     have f2 := ih29 _ _ h6
     try simp only [en.down] at f2
     apply it <;> intro h8
     ·rintro ⟨⟩
      clear ih27 ih29; exact fL q1x
     refine gd fun h9 => ?_
     have f3 := rG 8 T.Rx.enc terms
     have f4 : List.map T.Rx.enc terms ++ [[PV.int IntKind.i64 v7.1.kind,PV.str v7.1.char,PV.bool v7.1.not,PV.sl v7.1.rows.nil (szc 2 v7.1.rows.l) (List.map T.Row.enc v7.1.rows.l),PV.int IntKind.i64 v7.1.min,PV.int IntKind.i64 v7.1.max,PV.bool v7.1.lazy,PV.sl v7.1.kids.nil (szc 8 v7.1.kids.l) (List.map T.Rx.enc v7.1.kids.l)]] = List.map T.Rx.enc (terms ++ [v7.1]) := by simp only [List.map_append,List.map_cons,List.map_nil,ze,z8,zb,T.Rx.qz] <;> rfl
     intro h; have f5 := ih27 _ _ h; clear h
     try simp only [en.down] at f5
     clear ih27 ih29; exact fL q1x
    rintro ⟨⟩
    clear ih27 ih29; exact fL q1x
   rintro ⟨⟩
   clear ih27 ih29; exact fL q1x
  rintro ⟨⟩
  clear ih27 ih29; exact fL q1x
 ·rintro q6u ih31 ⟨deep,b⟩ r; dsimp only
  refine bs fun v2 h1 => ?_
  have f1 := jb h1
  try simp only [en.down] at f1
  apply it <;> intro h3
  ·try simp only [h3] at f1
   rintro ⟨⟩
   clear ih31; exact fF q5i
  refine bs fun v5 h4 => ?_
  have f2 := jb h4
  try simp only [en.down] at f2
  apply it <;> intro h6
  ·try simp only [h3,h6] at f1 f2
   rintro ⟨⟩
   clear ih31; exact fF q5i
  refine bs fun v8 h7 => ?_
  have f3 := q35 h7
  try simp only [en.down] at f3
  refine zo (fun h9 h10 => ?_) ?_
  ·refine bg qh fun x12 h11 f4 f5 f6 => ?_
   apply it <;> intro h13
   ·try simp only [h3,h6] at f1 f2 f3
    rintro ⟨⟩
    clear ih31; exact fF q5i
   apply it <;> intro h14
   ·try simp only [h3,h6] at f1 f2 f3
    rintro ⟨⟩
    clear ih31; exact fF q5i
   refine bs fun v16 h15 => ?_
   have f7 := ih31 _ _ h15
   try simp only [en.down] at f7
   apply it <;> intro h17
   ·try simp only [h3,h6] at f1 f2 f3 f7
    rintro ⟨⟩
    clear ih31; exact fF q5i
   refine bs fun v19 h18 => ?_
   have f8 := qik h18
   try simp only [en.down] at f8
   try simp only [h3,h6] at f1 f2 f3 f7 f8
   rintro ⟨⟩
   clear ih31; exact fF q5i
  rintro (⟨h9,h10⟩ | ⟨h9,h10⟩)
  all_goals
  refine bs fun v26 h25 => ?_
  have f9 := ih31 _ _ h25
  try simp only [en.down] at f9
  apply it <;> intro h27
  ·try simp only [h3,h6] at f1 f2 f3 f9
   rintro ⟨⟩
   clear ih31; exact fF q5i
  refine bs fun v29 h28 => ?_
  have f10 := qik h28
  try simp only [en.down] at f10
  try simp only [h3,h6] at f1 f2 f3 f9 f10
  rintro ⟨⟩
  clear ih31; exact fF q5i
 ·rintro q1d ih25 ⟨deep,b⟩ r; dsimp only
  refine bs fun v2 h1 => ?_
  have f1 := jb h1
  try simp only [en.down] at f1
  apply it <;> intro h3
  ·try simp only [h3] at f1
   rintro ⟨⟩
   clear ih25; exact fF ma
  refine bs fun v5 h4 => ?_
  have f2 := jb h4
  try simp only [en.down] at f2
  apply it <;> intro h6
  ·apply it <;> intro h7
   ·try simp only [h3,h6] at f1 f2
    rintro ⟨⟩
    clear ih25; exact fF ma
   refine bs fun v9 h8 => ?_
   have f3 := jb h8
   try simp only [en.down] at f3
   apply it <;> intro h10
   ·refine bs fun v12 h11 => ?_
    have f4 := jb h11
    try simp only [en.down] at f4
    apply it <;> intro h13
    ·try simp only [h3,h6,h10] at f1 f2 f3 f4
     rintro ⟨⟩
     clear ih25; exact fF ma
    refine bs fun v15 h14 => ?_
    have f5 := ih25 _ _ h14
    try simp only [en.down] at f5
    apply it <;> intro h16
    ·try simp only [h3,h6,h10] at f1 f2 f3 f4 f5
     rintro ⟨⟩
     clear ih25; exact fF ma
    refine bs fun v18 h17 => ?_
    have f6 := jb h17
    try simp only [en.down] at f6
    apply it <;> intro h19
    ·try simp only [h3,h6,h10] at f1 f2 f3 f4 f5 f6
     rintro ⟨⟩
     clear ih25; exact fF ma
    try simp only [h3,h6,h10] at f1 f2 f3 f4 f5 f6
    rintro ⟨⟩
    clear ih25; exact fF ma
   refine bs fun v21 h20 => ?_
   have f7 := ih25 _ _ h20
   try simp only [en.down] at f7
   apply it <;> intro h22
   ·try simp only [h3,h6,h10] at f1 f2 f3 f7
    rintro ⟨⟩
    clear ih25; exact fF ma
   refine bs fun v24 h23 => ?_
   have f8 := jb h23
   try simp only [en.down] at f8
   apply it <;> intro h25
   ·try simp only [h3,h6,h10] at f1 f2 f3 f7 f8
    rintro ⟨⟩
    clear ih25; exact fF ma
   try simp only [h3,h6,h10] at f1 f2 f3 f7 f8
   rintro ⟨⟩
   clear ih25; exact fF ma
  refine bs fun v27 h26 => ?_
  have f9 := jb h26
  try simp only [en.down] at f9
  apply it <;> intro h28
  ·refine bs fun v30 h29 => ?_
   have f10 := zfh h29
   try simp only [en.down] at f10
   try simp only [h3,h6,h28] at f1 f2 f9 f10
   rintro ⟨⟩
   clear ih25; exact fF ma
  refine bs fun v32 h31 => ?_
  have f11 := jb h31
  try simp only [en.down] at f11
  apply it <;> intro h33
  ·refine bs fun v35 h34 => ?_
   have f12 := zj9 h34
   try simp only [en.down] at f12
   try simp only [h3,h6,h28,h33] at f1 f2 f9 f11 f12
   rintro ⟨⟩
   clear ih25; exact fF ma
  refine bs fun v37 h36 => ?_
  have f13 := q35 h36
  try simp only [en.down] at f13
  refine qsd ?_ (fun h38 h39 h40 h41 h42 h43 => ?_)
  ·rintro (⟨h38,h39,h40,h41,h42,h43⟩ | ⟨h38,h39,h40,h41,h42,h43⟩ | ⟨h38,h39,h40,h41,h42,h43⟩ | ⟨h38,h39,h40,h41,h42,h43⟩ | ⟨h38,h39,h40,h41,h42,h43⟩ | ⟨h38,h39,h40,h41,h42,h43⟩)
   all_goals
   try simp only [h3,h6,h28,h33] at f1 f2 f9 f11 f13
   rintro ⟨⟩
   clear ih25; exact fF ma
  refine bs fun v45 h44 => ?_
  have f14 := q9c h44
  try simp only [en.down] at f14
  apply it <;> intro h46
  ·try simp only [h3,h6,h28,h33] at f1 f2 f9 f11 f13 f14
   rintro ⟨⟩
   clear ih25; exact fF ma
  try simp only [h3,h6,h28,h33] at f1 f2 f9 f11 f13 f14
  rintro ⟨⟩
  clear ih25; exact fF ma
theorem qz4 {s r} (h : qak s = some r) : O.call 73 [v_s s] [] = some (AV.tup [v_g (T.Rx.enc r.1),v_i r.2],[]) := by
 revert h; unfold qak
 apply it <;> intro h1
 ·rintro ⟨⟩
  exact fF qdo
 refine bs fun v3 h2 => ?_
 have f1 := qhm h2
 try simp only [en.down] at f1
 refine bs fun v5 h4 => ?_
 have f2 := z7r.1 _ _ h4
 try simp only [en.down] at f2
 refine zo (fun h6 h7 => ?_) ?_
 ·have f3 : ((10 : Int) != (0 : Int)) = true := by decide
  rintro ⟨⟩
  exact fF qdo
 rintro (⟨h6,h7⟩ | ⟨h6,h7⟩)
 all_goals
 apply it <;> intro h9
 ·rintro ⟨⟩
  exact fF qdo
 rintro ⟨⟩
 exact fF qdo
theorem qls {way r} (h : q9a way = some r) : O.call 117 [v_i way] [] = some (v_s r,[]) := by
 revert h; unfold q9a
 apply it <;> intro h1
 ·rintro ⟨⟩
  exact fF q93
 apply it <;> intro h2
 ·rintro ⟨⟩
  exact fF q93
 apply it <;> intro h3
 ·rintro ⟨⟩
  exact fF q93
 apply it <;> intro h4
 ·rintro ⟨⟩
  exact fF q93
 apply it <;> intro h5
 ·rintro ⟨⟩
  exact fF q93
 rintro ⟨⟩
 exact fF q93
def qjg (t4 : T.Fmt) (f : T.Fmt) : ((Int × Bool × T.Fmt × T.Fmt) ⊕ (Unit)) → Ex × St
 | .inl y => (Ex.ret,⟨[(4,AV.ptr 0 0),(5,v_i y.1),(6,v_b y.2.1)],[(0,b_x (T.Fmt.enc y.2.2.1)),(1,b_x (T.Fmt.enc y.2.2.2))],2⟩)
 | .inr y => (Ex.normal,⟨[(4,AV.ptr 0 0),(5,AV.undef),(6,AV.undef)],[(0,b_x (T.Fmt.enc t4)),(1,b_x (T.Fmt.enc f))],2⟩)
attribute [local go_sem] qjg
theorem z9j : ∀ p r,q56 p = some r → O.loop 97 1 ⟨[(0,v_s p.1),(4,AV.ptr 0 0),(8,v_i p.2.1),(10,AV.ptr 1 0),(11,v_i p.2.2.1)],[(0,b_x (T.Fmt.enc p.2.2.2.1)),(1,b_x (T.Fmt.enc p.2.2.2.2))],2⟩ = some (qjg p.2.2.2.1 p.2.2.2.2 r) := by
 refine q56.partial_correctness _ ?_
 rintro q56 ih55 ⟨s,end_,w,t4,f⟩ r; dsimp only
 apply it <;> intro h1
 ·refine bs fun v3 h2 => ?_
  have f1 := qls h2
  try simp only [en.down] at f1
  refine gd fun h4 => ?_
  have f2 : (v3.length + 1 ≤ 2 ^ 62) = True := eq_true h4
  apply it <;> intro h5
  ·refine b2s fun r7 h6 f3 f4 f5 f6 f7 => ?_
   apply it <;> intro h8
   ·rintro ⟨⟩
    clear ih55; exact fL kz
   intro h; have f8 := ih55 _ _ h; clear h
   try simp only [en.down] at f8
   clear ih55; exact fL kz
  intro h; have f9 := ih55 _ _ h; clear h
  try simp only [en.down] at f9
  clear ih55; exact fL kz
 rintro ⟨⟩
 clear ih55; exact fL kz
theorem qg4 {s at_ colon r} (h : q7t s at_ colon = some r) : O.call 98 [v_s s,v_i at_,v_b colon] [] = some (v_b r,[]) := by
 revert h; unfold q7t
 refine bc fun b2 h1 f1 f2 => ?_
 refine xy ?_ (fun h3 h4 => ?_)
 ·rintro (⟨h3,h4⟩ | ⟨h3,h4⟩)
  all_goals
  rintro ⟨⟩
  exact fF qei
 refine bc fun b6 h5 f3 f4 => ?_
 refine qh5 ?_ (fun h7 h8 h9 h10 => ?_)
 ·rintro (⟨h7,h8,h9,h10⟩ | ⟨h7,h8,h9,h10⟩ | ⟨h7,h8,h9,h10⟩ | ⟨h7,h8,h9,h10⟩)
  all_goals
  rintro ⟨⟩
  exact fF qei
 apply it <;> intro h11
 ·rintro ⟨⟩
  exact fF qei
 rintro ⟨⟩
 exact fF qei
theorem zq0 : ∀ p r,q5j p = some r → O.loop 118 0 ⟨[(0,v_s p.1),(1,v_i p.2.1),(2,AV.pv (PV.int IntKind.u8 (p.2.2.1.toNat : Int))),(9,v_r 0 p.2.2.2)],[(0,b_r 1 ql p.2.2.2)],1⟩ = some (Ex.normal,⟨[(0,v_s p.1),(1,v_i r.1),(9,v_r 0 r.2)],[(0,b_r 1 ql r.2)],1⟩) := by
 refine q5j.partial_correctness _ ?_
 rintro q5j ih58 ⟨s,at_,stop,b⟩ r; dsimp only
 apply it <;> intro h1
 ·refine bc fun b3 h2 f1 f2 => ?_
  apply it <;> intro h4
  ·refine bs fun v6 h5 => ?_
   have f3 := qg4 h5
   try simp only [en.down] at f3
   apply it <;> intro h7
   ·refine bc fun b9 h8 f4 f5 => ?_
    refine gd fun h10 => ?_
    have f6 := rG 1 ql b
    have f7 : List.map ql b ++ [[PV.int IntKind.u8 (b9.toNat : Int)]] = List.map ql (b ++ [b9]) := by simp only [List.map_append,List.map_cons,List.map_nil,ze,z8,zb,ql] <;> rfl
    try simp only [h7] at f3
    intro h; have f8 := ih58 _ _ h; clear h
    try simp only [en.down] at f8
    try simp only [h7] at f8
    clear ih58; exact fL q8o
   refine gd fun h11 => ?_
   have f9 := rG 1 ql b
   have f10 : List.map ql b ++ [[PV.int IntKind.u8 (b3.toNat : Int)]] = List.map ql (b ++ [b3]) := by simp only [List.map_append,List.map_cons,List.map_nil,ze,z8,zb,ql] <;> rfl
   try simp only [h7] at f3
   intro h; have f11 := ih58 _ _ h; clear h
   try simp only [en.down] at f11
   try simp only [h7] at f11
   clear ih58; exact fL q8o
  rintro ⟨⟩
  clear ih58; exact fL q8o
 rintro ⟨⟩
 clear ih58; exact fL q8o
theorem qbj {s at_ stop r} (h : q3s s at_ stop = some r) : O.call 118 [v_s s,v_i at_,AV.pv (PV.int IntKind.u8 (stop.toNat : Int))] [] = some (AV.tup [v_s r.1,v_i r.2.1,v_b r.2.2],[]) := by
 revert h; unfold q3s
 refine bs fun v2 h1 => ?_
 have f1 := zq0 _ _ h1
 try simp only [en.down] at f1
 apply it <;> intro h3
 ·rintro ⟨⟩
  exact fF q8o
 have f2 := xc 1 ql v2.2
 have f3 := bytesOf_map v2.2
 rintro ⟨⟩
 exact fF q8o
theorem z3q {s at_ r} (h : qab s at_ = some r) : O.call 97 [v_s s,v_i at_] [] = some (AV.tup [v_g (T.Fmt.enc r.1),v_i r.2.1,v_b r.2.2],[]) := by
 revert h; unfold qab
 refine bs fun v2 h1 => ?_
 have f1 := qh1 h1
 try simp only [en.down] at f1
 apply it <;> intro h3
 ·try simp only [h3] at f1
  rintro ⟨⟩
  exact fF kz
 apply it <;> intro h4
 ·try simp only [h3] at f1
  rintro ⟨⟩
  exact fF kz
 refine bc fun b6 h5 f2 f3 => ?_
 apply it <;> intro h7
 ·try simp only [h3] at f1
  rintro ⟨⟩
  exact fF kz
 refine bs fun v9 h8 => ?_
 have f4 := qh1 h8
 try simp only [en.down] at f4
 refine xy ?_ (fun h10 h11 => ?_)
 ·rintro (⟨h10,h11⟩ | ⟨h10,h11⟩)
  all_goals
  try simp only [h3] at f1 f4
  rintro ⟨⟩
  exact fF kz
 refine bc fun b13 h12 f5 f6 => ?_
 apply it <;> intro h14
 ·try simp only [h3] at f1 f4
  rintro ⟨⟩
  exact fF kz
 refine xy ?_ (fun h15 h16 => ?_)
 ·rintro (⟨h15,h16⟩ | ⟨h15,h16⟩)
  all_goals
  try simp only [h3] at f1 f4
  rintro ⟨⟩
  exact fF kz
 refine bc fun b18 h17 f7 f8 => ?_
 apply it <;> intro h19
 ·refine bs fun v21 h20 => ?_
  have f9 := z9j _ _ h20
  try simp only [en.down] at f9
  rcases v21 with y22 | y23
  ·dsimp only
   try simp only [h3] at f1 f4 f9
   rintro ⟨⟩
   exact fF kz
  dsimp only
  try simp only [h3] at f1 f4 f9
  rintro ⟨⟩
  exact fF kz
 apply it <;> intro h24
 ·refine bs fun v26 h25 => ?_
  have f10 := qbj h25
  try simp only [en.down,UInt8.reduceToNat] at f10
  apply it <;> intro h27
  ·try simp only [h3] at f1 f4 f10
   rintro ⟨⟩
   exact fF kz
  try simp only [h3] at f1 f4 f10
  rintro ⟨⟩
  exact fF kz
 apply it <;> intro h28
 ·refine bs fun v30 h29 => ?_
  have f11 := qbj h29
  try simp only [en.down,UInt8.reduceToNat] at f11
  apply it <;> intro h31
  ·refine bs fun v33 h32 => ?_
   have f12 := qbj h32
   try simp only [en.down,UInt8.reduceToNat] at f12
   apply it <;> intro h34
   ·try simp only [h3,h31] at f1 f4 f11 f12
    rintro ⟨⟩
    exact fF kz
   try simp only [h3,h31] at f1 f4 f11 f12
   rintro ⟨⟩
   exact fF kz
  try simp only [h3,h31] at f1 f4 f11
  rintro ⟨⟩
  exact fF kz
 apply it <;> intro h35
 ·refine bs fun v37 h36 => ?_
  have f13 := qbj h36
  try simp only [en.down,UInt8.reduceToNat] at f13
  apply it <;> intro h38
  ·try simp only [h3] at f1 f4 f13
   rintro ⟨⟩
   exact fF kz
  try simp only [h3] at f1 f4 f13
  rintro ⟨⟩
  exact fF kz
 refine bs fun v40 h39 => ?_
 have f14 := qbj h39
 try simp only [en.down,UInt8.reduceToNat] at f14
 apply it <;> intro h41
 ·try simp only [h3] at f1 f4 f14
  rintro ⟨⟩
  exact fF kz
 try simp only [h3] at f1 f4 f14
 rintro ⟨⟩
 exact fF kz
theorem qek {c r_ r} (h : q2s c r_ = some r) : O.call 99 [v_r 0 r_,AV.pv (PV.int IntKind.u8 (c.toNat : Int))] [(0,b_r 5 T.Fmt.enc r_)] = some (v_r 0 r,[(0,b_r 5 T.Fmt.enc r)]) := by
 revert h; unfold q2s
 apply it <;> intro h1
 ·refine gd fun h2 => ?_
  have f1 := rG 5 T.Fmt.enc r_
  have f2 : List.map T.Fmt.enc r_ ++ [[PV.int IntKind.i64 (0 : Int),PV.int IntKind.i64 (0 : Int),PV.int IntKind.i64 (0 : Int),PV.str ([] : Bytes),PV.str ([] : Bytes)]] = List.map T.Fmt.enc (r_ ++ [(T.Fmt.mk (0 : Int) (0 : Int) (0 : Int) ([] : Bytes) ([] : Bytes))]) := by simp only [List.map_append,List.map_cons,List.map_nil,ze,z8,zb,T.Fmt.qz] <;> rfl
  refine bw T.Fmt.enc fun x4 h3 f3 f4 f5 => ?_
  have f6 := xc 1 ql [c]
  try simp only [en.down] at f6
  have f7 := bytesOf_map [c]
  have f8 : bytesOf [[PV.int IntKind.u8 (c.toNat : Int)]] = some [c] := bytesOf_map [c]
  refine gd fun h5 => ?_
  have f9 : (x4.thn.length + 1 ≤ 2 ^ 62) = True := eq_true h5
  have f10 := map_set T.Fmt.enc (r_ ++ [(T.Fmt.mk (0 : Int) (0 : Int) (0 : Int) ([] : Bytes) ([] : Bytes))]) ((IntKind.i64.wrap (((r_ ++ [(T.Fmt.mk (0 : Int) (0 : Int) (0 : Int) ([] : Bytes) ([] : Bytes))]).length : Int) - (1 : Int))).toNat) (T.Fmt.mk x4.kind x4.n x4.cas (x4.thn ++ [c]) x4.els)
  try simp only [en.down] at f10
  rintro ⟨⟩
  exact fF qhc
 refine bW T.Fmt.enc 5 fun x7 h6 f11 f12 f13 f14 f15 => ?_
 apply it <;> intro h8
 ·refine gd fun h9 => ?_
  have f16 : List.map T.Fmt.enc r_ ++ [[PV.int IntKind.i64 (0 : Int),PV.int IntKind.i64 (0 : Int),PV.int IntKind.i64 (0 : Int),PV.str ([] : Bytes),PV.str ([] : Bytes)]] = List.map T.Fmt.enc (r_ ++ [(T.Fmt.mk (0 : Int) (0 : Int) (0 : Int) ([] : Bytes) ([] : Bytes))]) := by simp only [List.map_append,List.map_cons,List.map_nil,ze,z8,zb,T.Fmt.qz] <;> rfl
  refine bw T.Fmt.enc fun x11 h10 f17 f18 f19 => ?_
  have f20 := xc 1 ql [c]
  try simp only [en.down] at f20
  have f21 := bytesOf_map [c]
  have f22 : bytesOf [[PV.int IntKind.u8 (c.toNat : Int)]] = some [c] := bytesOf_map [c]
  refine gd fun h12 => ?_
  have f23 : (x11.thn.length + 1 ≤ 2 ^ 62) = True := eq_true h12
  have f24 := map_set T.Fmt.enc (r_ ++ [(T.Fmt.mk (0 : Int) (0 : Int) (0 : Int) ([] : Bytes) ([] : Bytes))]) ((IntKind.i64.wrap (((r_ ++ [(T.Fmt.mk (0 : Int) (0 : Int) (0 : Int) ([] : Bytes) ([] : Bytes))]).length : Int) - (1 : Int))).toNat) (T.Fmt.mk x11.kind x11.n x11.cas (x11.thn ++ [c]) x11.els)
  try simp only [en.down] at f24
  try simp only [f14,f15] at f24
  rintro ⟨⟩
  exact fF qhc
 have f25 := xc 1 ql [c]
 try simp only [en.down] at f25
 have f26 := bytesOf_map [c]
 have f27 : bytesOf [[PV.int IntKind.u8 (c.toNat : Int)]] = some [c] := bytesOf_map [c]
 refine gd fun h13 => ?_
 have f28 : (x7.thn.length + 1 ≤ 2 ^ 62) = True := eq_true h13
 have f29 := map_set T.Fmt.enc r_ ((IntKind.i64.wrap ((r_.length : Int) - (1 : Int))).toNat) (T.Fmt.mk x7.kind x7.n x7.cas (x7.thn ++ [c]) x7.els)
 try simp only [en.down] at f29
 try simp only [f14,f15] at f29
 rintro ⟨⟩
 exact fF qhc
theorem z9h : ∀ p r,q0f p = some r → O.loop 74 0 ⟨[(0,v_s p.1),(1,v_i p.2.1),(7,v_r 0 p.2.2)],[(0,b_r 5 T.Fmt.enc p.2.2)],1⟩ = some (Ex.normal,⟨[(0,v_s p.1),(1,v_i r.1),(7,v_r 0 r.2)],[(0,b_r 5 T.Fmt.enc r.2)],1⟩) := by
 refine q0f.partial_correctness _ ?_
 rintro q0f ih53 ⟨s,at_,fs⟩ r; dsimp only
 apply it <;> intro h1
 ·refine bc fun b3 h2 f1 f2 => ?_
  apply it <;> intro h4
  ·apply it <;> intro h5
   ·refine bs fun v7 h6 => ?_
    have f3 := z3q h6
    try simp only [en.down] at f3
    apply it <;> intro h8
    ·refine gd fun h9 => ?_
     have f4 := rG 5 T.Fmt.enc fs
     have f5 : List.map T.Fmt.enc fs ++ [[PV.int IntKind.i64 v7.1.kind,PV.int IntKind.i64 v7.1.n,PV.int IntKind.i64 v7.1.cas,PV.str v7.1.thn,PV.str v7.1.els]] = List.map T.Fmt.enc (fs ++ [v7.1]) := by simp only [List.map_append,List.map_cons,List.map_nil,ze,z8,zb,T.Fmt.qz] <;> rfl
     try simp only [h8] at f3
     intro h; have f6 := ih53 _ _ h; clear h
     try simp only [en.down] at f6
     try simp only [h8] at f6
     clear ih53; exact fL q2n
    refine bs fun v11 h10 => ?_
    have f7 := qg4 h10
    try simp only [en.down] at f7
    apply it <;> intro h12
    ·refine bc fun b14 h13 f8 f9 => ?_
     refine bs fun v16 h15 => ?_
     have f10 := qek h15
     try simp only [en.down] at f10
     try simp only [h8,h12] at f3 f7 f10
     intro h; have f11 := ih53 _ _ h; clear h
     try simp only [en.down] at f11
     try simp only [h8,h12] at f11
     clear ih53; exact fL q2n
    refine bs fun v18 h17 => ?_
    have f12 := qek h17
    try simp only [en.down] at f12
    try simp only [h8,h12] at f3 f7 f12
    intro h; have f13 := ih53 _ _ h; clear h
    try simp only [en.down] at f13
    try simp only [h8,h12] at f13
    clear ih53; exact fL q2n
   refine bs fun v20 h19 => ?_
   have f14 := qg4 h19
   try simp only [en.down] at f14
   apply it <;> intro h21
   ·refine bc fun b23 h22 f15 f16 => ?_
    refine bs fun v25 h24 => ?_
    have f17 := qek h24
    try simp only [en.down] at f17
    try simp only [h21] at f14 f17
    intro h; have f18 := ih53 _ _ h; clear h
    try simp only [en.down] at f18
    try simp only [h21] at f18
    clear ih53; exact fL q2n
   refine bs fun v27 h26 => ?_
   have f19 := qek h26
   try simp only [en.down] at f19
   try simp only [h21] at f14 f19
   intro h; have f20 := ih53 _ _ h; clear h
   try simp only [en.down] at f20
   try simp only [h21] at f20
   clear ih53; exact fL q2n
  rintro ⟨⟩
  clear ih53; exact fL q2n
 rintro ⟨⟩
 clear ih53; exact fL q2n
theorem zka {s at_ r} (h : qcw s at_ = some r) : O.call 74 [v_s s,v_i at_] [] = some (AV.tup [v_l 5 T.Fmt.enc r.1,v_i r.2.1,v_b r.2.2],[]) := by
 revert h; unfold qcw
 refine xy ?_ (fun h1 h2 => ?_)
 ·rintro (⟨h1,h2⟩ | ⟨h1,h2⟩)
  all_goals
  rintro ⟨⟩
  exact fF q2n
 refine bs fun v4 h3 => ?_
 have f1 := z9h _ _ h3
 try simp only [en.down] at f1
 apply it <;> intro h5
 ·rintro ⟨⟩
  exact fF q2n
 rintro ⟨⟩
 exact fF q2n
def qo1 (s : Bytes) (t4 : T.Form) (r1_ : (List UInt8)) (b2_ : T.Rx) : ((Int × Bool × Int × T.Form × T.Form) ⊕ (Int × T.Form)) → Ex × St
 | .inl y => (Ex.ret,⟨[(0,v_s s),(4,AV.ptr 0 0),(5,v_i y.1),(6,v_b y.2.1),(12,v_i y.2.2.1),(14,AV.ptr 3 0)],[(0,b_x (T.Form.enc y.2.2.2.1)),(1,b_r 1 ql r1_),(2,b_x (T.Rx.enc b2_)),(3,b_x (T.Form.enc y.2.2.2.2))],4⟩)
 | .inr y => (Ex.normal,⟨[(0,v_s s),(4,AV.ptr 0 0),(5,AV.undef),(6,AV.undef),(12,v_i y.1),(14,AV.ptr 3 0)],[(0,b_x (T.Form.enc t4)),(1,b_r 1 ql r1_),(2,b_x (T.Rx.enc b2_)),(3,b_x (T.Form.enc y.2))],4⟩)
attribute [local go_sem] qo1
theorem z8g : ∀ p r,q3i p = some r → O.loop 53 2 ⟨[(0,v_s p.1),(4,AV.ptr 0 0),(12,v_i p.2.1),(14,AV.ptr 3 0)],[(0,b_x (T.Form.enc p.2.2.1)),(1,b_r 1 ql p.2.2.2.1),(2,b_x (T.Rx.enc p.2.2.2.2.1)),(3,b_x (T.Form.enc p.2.2.2.2.2))],4⟩ = some (qo1 p.1 p.2.2.1 p.2.2.2.1 p.2.2.2.2.1 r) := by
 refine q3i.partial_correctness _ ?_
 rintro q3i ih61 ⟨s,end_,t4,r1_,b2_,f⟩ r; dsimp only
 apply it <;> intro h1
 ·refine bc fun b3 h2 f1 f2 => ?_
  apply it <;> intro h4
  ·refine zo (fun h5 h6 => ?_) ?_
   ·intro h; have f3 := ih61 _ _ h; clear h
    try simp only [en.down] at f3
    clear ih61; exact fL yo
   rintro (⟨h5,h6⟩ | ⟨h5,h6⟩)
   all_goals
   refine zo (fun h9 h10 => ?_) ?_
   ·intro h; have f4 := ih61 _ _ h; clear h
    try simp only [en.down] at f4
    clear ih61; exact fL yo
   rintro (⟨h9,h10⟩ | ⟨h9,h10⟩)
   all_goals
    rintro ⟨⟩
    clear ih61; exact fL yo
  rintro ⟨⟩
  clear ih61; exact fL yo
 rintro ⟨⟩
 clear ih61; exact fL yo
theorem ztd {s at_ r} (h : qbd s at_ = some r) : O.call 53 [v_s s,v_i at_] [] = some (AV.tup [v_g (T.Form.enc r.1),v_i r.2.1,v_b r.2.2],[]) := by
 revert h; unfold qbd
 refine xy ?_ (fun h1 h2 => ?_)
 ·rintro (⟨h1,h2⟩ | ⟨h1,h2⟩)
  all_goals
  rintro ⟨⟩
  exact fF yo
 refine bc fun b4 h3 f1 f2 => ?_
 apply it <;> intro h5
 ·rintro ⟨⟩
  exact fF yo
 refine bs fun v7 h6 => ?_
 have f3 := zrx _ _ h6
 try simp only [en.down] at f3
 apply it <;> intro h8
 ·rintro ⟨⟩
  exact fF yo
 have f4 := xc 1 ql v7.2
 have f5 := bytesOf_map v7.2
 refine bs fun v10 h9 => ?_
 have f6 := qz4 h9
 try simp only [en.down] at f6
 apply it <;> intro h11
 ·rintro ⟨⟩
  exact fF yo
 refine bs fun v13 h12 => ?_
 have f7 := zka h12
 try simp only [en.down] at f7
 apply it <;> intro h14
 ·rintro ⟨⟩
  exact fF yo
 refine bs fun v16 h15 => ?_
 have f8 := z8g _ _ h15
 try simp only [en.down] at f8
 rcases v16 with y17 | y18
 ·dsimp only
  rintro ⟨⟩
  exact fF yo
 dsimp only
 apply it <;> intro h19
 ·rintro ⟨⟩
  exact fF yo
 rintro ⟨⟩
 exact fF yo
theorem z10 : ∀ p r,q44 p = some r → O.loop 54 0 ⟨[(0,AV.ptr 0 0),(1,v_i p.1),(6,v_r 3 p.2.2.2.2.1),(7,v_r 4 p.2.2.2.2.2)],[(0,Blk.box [v_s p.2.1,v_r 1 p.2.2.1,v_r 2 p.2.2.2.1]),(1,Blk.row false 18 (List.map T.qc.enc p.2.2.1)),(2,Blk.row false 1 (List.map qb p.2.2.2.1)),(3,b_r 1 qh p.2.2.2.2.1),(4,b_r 1 ql p.2.2.2.2.2)],5⟩ = some (Ex.normal,⟨[(0,AV.ptr 0 0),(1,v_i r.1),(6,v_r 3 r.2.1),(7,v_r 4 r.2.2)],[(0,Blk.box [v_s p.2.1,v_r 1 p.2.2.1,v_r 2 p.2.2.2.1]),(1,Blk.row false 18 (List.map T.qc.enc p.2.2.1)),(2,Blk.row false 1 (List.map qb p.2.2.2.1)),(3,b_r 1 qh r.2.1),(4,b_r 1 ql r.2.2)],5⟩) := by
 refine q44.partial_correctness _ ?_
 rintro q44 ih63 ⟨at_,r_,r1_,r2_,l,text⟩ r; dsimp only
 apply it <;> intro h1
 ·refine bc fun b3 h2 f1 f2 => ?_
  apply it <;> intro h4
  ·apply it <;> intro h5
   ·have f3 := xc 1 ql text
    have f4 := bytesOf_map text
    refine gd fun h6 => ?_
    have f5 := rG 1 qh l
    have f6 : List.map qh l ++ [[PV.str text]] = List.map qh (l ++ [text]) := by simp only [List.map_append,List.map_cons,List.map_nil,ze,z8,zb,qh] <;> rfl
    intro h; have f7 := ih63 _ _ h; clear h
    try simp only [en.down] at f7
    clear ih63; exact fL q78
   refine bs fun v8 h7 => ?_
   have f8 := qgb h7
   try simp only [en.down] at f8
   apply it <;> intro h9
   ·refine bc fun b11 h10 f9 f10 => ?_
    refine gd fun h12 => ?_
    have f11 := rG 1 ql text
    have f12 : List.map ql text ++ [[PV.int IntKind.u8 (b11.toNat : Int)]] = List.map ql (text ++ [b11]) := by simp only [List.map_append,List.map_cons,List.map_nil,ze,z8,zb,ql] <;> rfl
    try simp only [h9] at f8
    intro h; have f13 := ih63 _ _ h; clear h
    try simp only [en.down] at f13
    try simp only [h9] at f13
    clear ih63; exact fL q78
   refine gd fun h13 => ?_
   have f14 := rG 1 ql text
   have f15 : List.map ql text ++ [[PV.int IntKind.u8 (b3.toNat : Int)]] = List.map ql (text ++ [b3]) := by simp only [List.map_append,List.map_cons,List.map_nil,ze,z8,zb,ql] <;> rfl
   try simp only [h9] at f8
   intro h; have f16 := ih63 _ _ h; clear h
   try simp only [en.down] at f16
   try simp only [h9] at f16
   clear ih63; exact fL q78
  rintro ⟨⟩
  clear ih63; exact fL q78
 rintro ⟨⟩
 clear ih63; exact fL q78
theorem zae {at_ b r_ r_2 r} (h : qbi at_ b r_ r_2 = some r) : O.call 54 [AV.ptr 0 0,v_i at_] [(0,Blk.box [v_s b,v_r 1 r_,v_r 2 r_2]),(1,Blk.row false 18 (List.map T.qc.enc r_)),(2,Blk.row false 1 (List.map qb r_2))] = some (AV.tup [v_l 1 qh r.1,v_i r.2],[(0,Blk.box [v_s b,v_r 1 r_,v_r 2 r_2]),(1,Blk.row false 18 (List.map T.qc.enc r_)),(2,Blk.row false 1 (List.map qb r_2))]) := by
 revert h; unfold qbi
 refine bs fun v2 h1 => ?_
 have f1 := z10 _ _ h1
 try simp only [en.down] at f1
 apply it <;> intro h3
 ·rintro ⟨⟩
  exact fF q78
 have f2 := xc 1 ql v2.2.2
 have f3 := bytesOf_map v2.2.2
 refine gd fun h4 => ?_
 have f4 := rG 1 qh v2.2.1
 have f5 : List.map qh v2.2.1 ++ [[PV.str v2.2.2]] = List.map qh (v2.2.1 ++ [v2.2.2]) := by simp only [List.map_append,List.map_cons,List.map_nil,ze,z8,zb,qh] <;> rfl
 rintro ⟨⟩
 exact fF q78
end Go.Proofs.YtdhgdeelagmbpaaGreat
