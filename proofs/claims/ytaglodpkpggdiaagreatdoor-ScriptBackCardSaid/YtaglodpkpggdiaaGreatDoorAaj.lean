/-
  What the machine's calls come to: the plain functions.
-/
import Derived.Test.YtaglodpkpggdiaaGreatDoorAag
import Derived.Test.YtaglodpkpggdiaaGreatDoorAah
import Derived.Test.YtaglodpkpggdiaaGreatDoorAai
set_option linter.unusedSimpArgs false
set_option linter.unusedVariables false
set_option maxRecDepth 100000
namespace Go.Proofs.YtaglodpkpggdiaaGreatDoor
open Go Go.Gm
attribute [go_sem] needs aop q95 q1h List.toList_toArray q8a q73 q0n List.take List.drop List.length_cons List.length_nil List.length_map q2s AV.q3e List.append q9s List.getElem?_cons_zero List.getElem?_cons_succ AV.refs AV.ren AV.rows if_true if_false List.nil_append List.append_nil List.cons_append q31 unz q26 q1y q3j qen List.getElem?_nil touched List.isEmpty_nil Option.some.injEq aUn q4u PV.cells List.replicate List.set_cons_zero List.set_cons_succ q1x q9h jr eq_self AV.thaw Blk.thaw q12 q6m aEq qw q4p List.headD_cons zk q78 q4b q79 Blk.ren Blk.refs List.flatMap_nil List.flatMap_cons q6c qhw q2e List.map_cons List.map_nil List.drop_zero Option.isSome_none Option.isNone_none Option.isSome_some Option.isNone_some q4q.eq_def qpo refsOf zg6 qyl qw6 zuw qsd zcx ql9 z8o znk zm4 zbf x18 z9y z3p zxd zou znv qre ql1 zg1 zzp qnn zt.eq_1 zt.eq_2 q20.eq_1 q20.eq_2 q20.eq_3 q20.eq_4 qku ztb zcb zpm zsh freezes.eq_1 freezes.eq_2 ev.eq_1 ev.eq_2 ev.eq_3 ev.eq_4 Env.get.eq_1 Env.get.eq_2 jd.eq_1 jd.eq_2 qg.eq_1 qg.eq_2 q51.eq_1 kg.eq_1 kg.eq_2 q4a.eq_1 q4a.eq_2 uy.eq_1 uy.eq_2 q9r.eq_1 ldP.eq_1 ldP.eq_2 ldA.eq_1 ldA.eq_2 TI.isAgg.eq_1 q2u.eq_1 Heap.get.eq_1 Heap.get.eq_2 Heap.put.eq_1 Heap.put.eq_2 zf7 zzu qx3 zsg qvj x4o x3k zp8 zm1 x3x zx1 zqn qpn zox z8s qz2 zo0 x37 qtm qxb gy.eq_1 AV.refs.refsL.eq_1 AV.refs.refsL.eq_2 AV.ren.renL.eq_1 AV.ren.renL.eq_2 ji.eq_1 ji.eq_2 kr.eq_1 kr.eq_2 ziv zdx ql5 narrow.eq_1 q68.eq_1 restrict.eq_1 restrict.eq_2 Heap.upto.eq_1 Heap.upto.eq_2 Heap.below.eq_1 Heap.below.eq_2 Env.below.eq_1 Env.below.eq_2 q48.eq_1 q48.eq_2 decide_true and_self AV.rows.rowsL.eq_1 AV.rows.rowsL.eq_2 Nat.zero_lt_one Nat.lt_add_one Nat.zero_le Nat.le_refl Nat.zero_add Nat.add_zero and_true true_and Bool.and_true Bool.true_and decide_false Bool.false_eq_true nu.eq_1 nu.eq_2 qtv zrr x03 q06.eq_1 q06.eq_2 q5j.eq_1 q5j.eq_2 finish.eq_1 List.range_zero pos.eq_1 pos.eq_2 reach.eq_1 reach.eq_2 reach.eq_3 enter.eq_1 xk.eq_1 xk.eq_2 xe.eq_1 xe.eq_2 mr.eq_1 mr.eq_2 setEnv.eq_1 setEnv.eq_2 zhh qni zbj zac znf znu zpj Bool.not_false Bool.not_true Bool.or_self Bool.or_false Bool.false_or Bool.or_true Bool.true_or qpx zl3 zq0 Bool.and_self Bool.and_false Bool.false_and q0y.eq_1 q0y.eq_2 Nat.mul_one Nat.one_mul true_or or_true false_or or_false or_self and_false false_and Gm.freeze.eq_1 AV.thaw.thawL.eq_1 AV.thaw.thawL.eq_2 zw.eq_1 zw.eq_2 fitAll.eq_1 fitAll.eq_2 fitAll.eq_3 qa0.eq_1 q6x.eq_1 q0r.eq_1 q0r.eq_2 qa6.eq_1 closedIn.eq_1 closedIn.eq_2 pick.eq_1 pick.eq_2 q2a.eq_1 q2a.eq_2 q11.eq_1 q11.eq_2 ve.eq_1 backTo.eq_1 y9.eq_1 y9.eq_2 uw.eq_1 q40.eq_1 qmy zlb zhb zqk qrw za9 x0l zw0 zrz zkm z8l zwo zyy qt0 zcy x3p zgl qmd canon.eq_1 q4s.eq_1 q4s.eq_2 q5h.eq_1 q5h.eq_2 bf.eq_1 bf.eq_2 qui zh6 zev qyw q2d.eq_1 orT.eq_1 orT.eq_2 isBytes.eq_1 q4m.eq_1 q6e.eq_1 qed zg7 kz qfn qfp qfq qii qd2 qhj qdi qi1 take_len qjj z0y zp9 zx9 q87.eq_1 q87.eq_2 kE.eq_1 qwp qy4 zvx z7h qlc x16 qzo zsj x0j qt3 qqu qzh zg3 zwl qdg zbh z8v qzs z2q zpp zvz zju zni x0i zb3 qx6 qqb qoo qs6 qjr Int.natCast_zero Int.cast_ofNat_Int wh wy take_set List.take_length v_i v_b v_s v_g v_l v_r b_x b_r b_m qp yx zu q9a slE qd6 T.Span.qd T.qb.qd T.Sel.qd T.Op.qd T.yw.qd T.qc.qd T.Row.qd T.Rx.qd T.Fmt.qd T.Form.qd T.Stop.qd T.uq.qd T.uu.qd T.State.qd T.q30.qd T.q3k.qd T.q2v.qd T.q3r.qd T.q3t.qd T.mo.qd T.pz.qd T.q33.qd T.zf.qd T.Range.qd T.q2x.qd T.q35.qd T.q3n.qd T.zl.qd T.ze.qd T.q3m.qd T.q38.qd T.q1g.qd T.q42.qd cm0 cm1 cm2 zwd kp3 cm3 pr3 cm4 cm5 qp8 kp6 cm6 pr6 zih kp7 cm7 pr7 z2h kp8 cm8 pr8 qvz kp9 cm9 pr9 z0s znr zrc qz5 qwg qpm qtg z0h zdu zhr qka zl7 zoz z5x x4b zxj x4p zi8 zoj zzi zpc quu zb2 zxt zqf qqv qjk zw3 zch zcg qsj qj8 zao zx2 z1b qqw zxk zq4 qzc qpe zdk zwg zgr zdq z6u z9d qna qoh zej z8e ztp qob z3f qvn qyh qo1 ze8 zsc qta zd1 quf zb7 zez qs1 zn6 x2n zoa zjd x4f quy zkh qr9 zvp z8h zsq qk0 x1i z6m zc6 zgy zzk qvt zgf z5y zs8 zyp zjm zks zfz zk3 qrx z5j qoc qnf qom qti zka x4d z8q qvw zxo x1r zy5 zpr qrb qwn qvu z1v zwj z5w ql2 zne qn0 zon zq3 qjp zv0 zf8 z9i z5h zi0 qkd zsv qkk zm8 zqg qqc zjl quz x51 zpf zb4 zrw z00 qkc zj3 zrm z4g zy2 qoq zqe qll zno x2d qpy z1a zpq zh3 qla zli zy7 z8y zt5 zq2 zwv x3e x4v z6v zah x4x zl0 qvm x4y zhv qyj zzz x2i zoi quc qmf qn8 zqx zmf zb0 zeq z2j qp4 zmj z4d zi9 z3h zjy zls zxa qtw z19 x2e x1m zcn z0r z4q zvg z3g x4g qy3 zx3 z4i zds x1z znw zeh x02 x01 zqc z16 z3z z9g qng qjh z3l zke zfp qt5 ze5 zyo qqx x0f zmt qnb z14 znq z05 z7j zeb zfx zi1 qtl z1z zhi zyw qrh z1g z7f quh zm6 qyy zmx zwh x3c qw3 qns zzv zo4 qv0 znx x0o zwp x1k qmg z0u zaq qzr z7l za4 qki zbu zns zql x2j zt0 zuh za8 zf0 qnm zo5 zlm zu4 qke x4i z88 z1k qy5 qts zjj x1x qjt qro zs1 zsm zgz x1c zvb zjw zpt zp1 quq qxw zp3 z0t zln zfk qso z5p qn1 z5u qr7 zsu qkf z9t qkr zbs zkt qqe ql8 ztz z6r zcp x0h zmk qy8 zz7 qv3 zym zhd zrj qqt z9e qu1 x2g zys qyx qzj z7i qtn zz1 zbi zre qr5 qyp z4p x0t qoz x1g qjv qmo z03 zwr qry ztw zp2 zur zmq zjv zqq znm x12 qvc z9o x2o zpw z1p qlw qvd zyi x2w zcs qto zlz za0 zk8 z2k zwq qwc zxg x26 qx4 qtf zgu zw9 qs3 zkp qx2 zuj zct zck qw4 qo9 x0c z4k z1f zby zl5 z5l qwu zr7 zzj qxl zs2 zl8 zff zty qyr zoc x1u qkw qub zto zvi z1l zkq z2v zzf za6 qlf zs6 zau zfq zpn z1r zpg zhl qr6 zti zv1 qwy z1e zy4 qqq qk8 zn3 qym zxu z9p zpo zs5 qpt z1t x00 qlt zxn qkt zzh qj9 qkz z6f zkk qw1 z4f qxn zj4 z3d qqk zvj zec qxo qq5 zh0 x44 z0n x19 qlj qwm zf5 x2y qwb qpr zi5 qn5 x2b zda qmm qxg z3e zc2 qm7 zcr x3s qxh zg0 zdo z3b qqn zsp zbr qvh qvo qtp qw8 zqu zoy qri zh4 qse zx5 zy0 zku zdl z6j qpg z1q ztj x2v z3i zj7 zqd zxy qxt z4s zaf zc9 qty zce zea z1n zut qp0 z01 qwt qyc qwi zv6 zyk qrc x3r qsb x3d qtk qko z7s qsp x0e z2z zr0 zt3 qqi x3z ze4 zky qjy z7m qvf z8f zxb qjq zqv zmb qoj zi7 z1m zok z90 z8a zeu zj0 zee fz1 fz2 fz3 fz4 fz5 fz6 fz7 fz8 fz9 zjr zf3 zei qrj zxv qxm zga qjl z0j zil zit zd0 qzl qqf ze2 zj1 qn3 qn4 zu9 x0w qyg zuk zgo qj7 x2l x2h zhe zek z2o qrz z7q x3o zhj zis x0k x36 zmv qo0 qww zn4 qzi z2e z1i qox zyf zmr zen qy6 qjn z7a z3a qzy zib zpk z2x zj2 x3w qli z0e zzl qqy qtb zz3 zqw qxa zbw qtt zpz zb9 zfe zjt zrn zar x4l z3n zzx qmr zo6 zkr zvr zpi z7n zet qu4 zw6 qx1 x1l za2 zvu zf9 qq9 zr4 x48 zix zx6 zx0 zfg zta qqm zwk x4u z5o zu0 zmg qsu x07 qs4 qnr z4w x2p zy8 zmp qsk z5d zog zlq qp6 zcl ztg qsm x1a qzm qqo qyk z0i zjk qqg zst qkb z1j z2u zup qmw zkx zkn zaj z08 zv2 qs2 zna qsc zr9 zzm zl1 qrp x15 zja zvt zg5 zd4 qo5 qt7 qp3 zdp qzv qzp x4n zow z1c zz6 qnh qup zq9 z1w zlu qn6 qz9 zve zjb z7k ze6 z4m zzd zw5 z10 qrf z0d zuv z6p zhs qop qz6 z4r z5f qwk z3q zqi zwy zn5 zl2 zh7 zi2 qyd zlk ztf qsl znt zjo z3r qu2 zu5 qqz z7d znh z4z z2l z0o ztn qk2 qr2 zmm qwf zol qkv z5q qkx qld qnx zjn qon zgx z7w zry qm8 qmu zvv zs9 zlc zll ziq z2p zml zyb zir zq6 ziy x04 qsx zc8 zzw qr1 z0b z8c zg2 zxz x10 qx7 za7 x2t z0m quj zj5 zw8 z15 x3n z6c x56 z99 zhp x2m zp7 z2m qsq qvx x1b x47 zo3 z09 zzt qtz qms qu8 zqb qjc z11 zrq qlr zzn qkq z9f zio x0r qoa z5k znd z5c qxq z7z ztk qye x2f zex zro zh9 zfd z0x zgq zmz zm9 x2z zlw zbk zob qmp qjf zqt qyz ztc zyj zyl z4n zmo z1y z8i zsz zr5 z8t zbo ztd zm2 qpw x0z qrg zd5 zs7 zs3 za1 qod qjm quv qpc qk5 z95 zfm qx9 zkc zbc z6i qqj z6b x1t ziw zfr qzd qq0 zfv qws qlx que z2t x3m zin z8u zri zbd zth z9x qxv x4e zv7 zu1 zgs qrl zcv zpy zcz z81 x0y qtu zwx x4j z1h zk6 zv4 qzb zbm ztl zuy x1y zun zbv x4q x4h zrk qoy qte qu6 qj1 z8z qr8 zq1 qvq zw2 qz0 qv6 zod zwm qsr zyr zkv x2x zia qus z5t qma zq5 qut za3 zcf z9w x4k qor zvf ziz zg4 z8j z97 qlq qlv z8b z8r zpa zhk zxh z0l qo8 qxr zgn z1d z7r zss zsw zxi z6t qpv qm0 qlo qz1 zps zlo qzf zhn z7o qy1 zts zr6 z9h qkl qu0 zzc zpu z7e qvy zfa z5r qw9 zx4 zj8 x1j zvq za5 zw7 zhu qzx qru z92 ql6 zse zgv qp9 qj2 zm5 qme z6k zrd zsd z4c qow mf1 mf2 mf3 mf4 mf5 mf6 mf7 mf8 mf9 zal x3q qys x4w zpl qks qnl zyq zz9 zm0 zie zvs zm7 zba ziu zdf qm4 z9u qqp qpk zof qwr z6s zz4 qkm qrm z7v qmt z0g zot zh2 zvw zc4 z8p zua qwx zrb z3m zxw qya z4a qq7 zn0 zd3 qxp qnw qvk zmc ztq zgj qxk zzr zk1 x1o zlf qt2 z7y qul z3u zk4 qr4 qj0 zer zly qrd z2c zcq z0c zjz qqa qw7 zji zgc zxl zlx zy1 qt4 qpi qj5 qv4 z2n qkn zuo qqr qjd x3v qrs qxc qra zc5 zt9 qx0 zu8 zkz z6g zy3 qtx qy7 qw0 qz3 qv1 zoo qsi zxc qnd qjs zn8 qpf z6q z0q zvn qlp zl9 x1h zdw z5g zus qwl zt2 x4t znn zfh qux qzt zhy z5z qp5 qv2 qn7 qml zza x2s qxd z1u z2y zbz zsy qxi zik zos x33 qs0 qve zt4 zdr zi6 z4x zzb qnv z8m zgp qn2 zn2 zwu zyv zb5 zcj qk7 zsr ztx x46 x2a qly zyc zkg zdt zw4 qsw x4z qlh z0v zz0 qm5 qpj z4u x1f zhx zab zt6 qz7 qsg zk7 zt8 zhz qv8 zms quw zwn znc qsn z98 zmd z2r zov ze0 qmk qq3 x50 zfo zh5 qo6 zlh z4t z2g zdg qzg x1w x2q qm9 zjq zp4 zul z5m z3v zxq z8w zoe qq8 z8g zqy z9s zel zhf zya zq8 qxs zf1 zjh qm3 qq4 qqs x3j zeg x2r qwj qj6 qt9 zc1 quk qze zwz z13 z5b z3t z8x qnq zso z9b x13 x14 x0x qv5 zzq zfs zng zva qps zzy zf4 qtc qzn ql7 qmq x3t zrx zxe zrs qja zo7 qtq zxx zgg zbg zhq zyt zd8 qj3 qvp zk5 z7b qs8 qk6 x3y z1x z6o zo1 zjx qnc qle qp2 x49 x2k zd6 x45 zpx zvd qu3 zqm qzk z6a qlg zak zma z6n qv9 z2f qov qyi zsi qsz zas zru qyv qwd zg8 zo8 zca qje qzq qrn qy9 z02 qyu qlu zb1 zu3 zmh zsa qvs qnp qpa z9n zrt z5n zyh qls zlg zai x05 z8k qp7 ze1 zc3 zid zph zcd x52 qxj x3f qqh ze7 zfw z6w qvv z9k zmu qm2 x4a zgh qsy zye zhg zt1 zew z0z ze9 qjw zkd x17 ztv z0p qy0 zlj z04 qlk zn9 qxz qq1 qxy zwe x1s z5s x0m zxr qok zem zkw zyg zdh zuz zrf qmn qjg qu7 zaz x2c qp1 qx5 zsb qnk qmx qxu zra zj9 qql qph z18 qky zl4 zuu zvo x0g qk3 qou zd2 zho z94 z9a ze3 qpp qsf z8n z1s zv8 zrp z2d zpb x0v z8d zpd znz qyt x1p zd7 zes qm6 zl6 qjz zwb z0a zvc qoe zgi zwi zny zp5 qrk zzo qyf qvg zsn zm3 zoq qv7 zlp zyn zvl zz2 zt7 qjo zb8 zam zbp qu9 x2u ql3 qt8 z5i ql4 qrr x08 z06 zp6 qum qzu z4e zft zx7 ti3 ti4 ti5 ti9 zae zdd qss qz8 z9l qo7 qpq qog qyq zgm z3c zay qqd z2a zcc qug
set_option maxHeartbeats 4000000
def qid (ss : (List Bytes)) : ((Bool) ⊕ (Unit)) → Ex × St
 | .inl y => (Ex.ret,⟨[(4,v_b y)],[(0,Blk.row false 1 (List.map zu ss))],1⟩)
 | .inr y => (Ex.normal,⟨[(4,AV.undef)],[(0,Blk.row false 1 (List.map zu ss))],1⟩)
attribute [local go_sem] qid
theorem z4j : ∀ p r,q3s p = some r → O.loop 16 0 ⟨[(0,v_i p.1),(1,v_r 0 p.2.2),(5,v_i p.2.1)],[(0,Blk.row false 1 (List.map zu p.2.2))],1⟩ = some (qid p.2.2 r) := by
 refine q3s.partial_correctness _ ?_
 rintro q3s ih5 ⟨n,i,ss⟩ r; dsimp only
 apply it <;> intro h1
 ·refine bw zu fun x3 h2 f1 f2 f3 => ?_
  apply it <;> intro h4
  ·rintro ⟨⟩
   clear ih5; exact fL q6q
  intro h; have f4 := ih5 _ _ h; clear h
  try simp only [en.down] at f4
  clear ih5; exact fL q6q
 rintro ⟨⟩
 clear ih5; exact fL q6q
theorem zpv {n r_ r} (h : q7e n r_ = some r) : O.call 16 [v_i n,v_r 0 r_] [(0,Blk.row false 1 (List.map zu r_))] = some (v_b r,[(0,Blk.row false 1 (List.map zu r_))]) := by
 revert h; unfold q7e
 refine bs fun v2 h1 => ?_
 have f1 := z4j _ _ h1
 try simp only [en.down] at f1
 rcases v2 with y3 | y4
 ·dsimp only
  rintro ⟨⟩
  exact fF q6q
 dsimp only
 rintro ⟨⟩
 exact fF q6q
def qcm : ((Bool) ⊕ (Unit)) → Ex × St
 | .inl y => (Ex.ret,⟨[(6,v_b y)],[],0⟩)
 | .inr y => (Ex.normal,⟨[(6,AV.undef)],[],0⟩)
attribute [local go_sem] qcm
theorem znl : ∀ p r,q0p p = some r → O.loop 17 0 ⟨[(1,v_i p.1),(2,v_l 3 T.qb.enc p.2.1),(7,v_i p.2.2)],[],0⟩ = some (qcm r) := by
 refine q0p.partial_correctness _ ?_
 rintro q0p ih7 ⟨n,es,i⟩ r; dsimp only
 apply it <;> intro h1
 ·refine bg T.qb.enc fun x3 h2 f1 f2 f3 => ?_
  apply it <;> intro h4
  ·rintro ⟨⟩
   clear ih7; exact fL q5o
  intro h; have f4 := ih7 _ _ h; clear h
  try simp only [en.down] at f4
  clear ih7; exact fL q5o
 rintro ⟨⟩
 clear ih7; exact fL q5o
theorem x42 {many n es r} (h : q6p many n es = some r) : O.call 17 [v_i many,v_i n,v_l 3 T.qb.enc es] [] = some (v_b r,[]) := by
 revert h; unfold q6p
 apply it <;> intro h1
 ·rintro ⟨⟩
  exact fF q5o
 refine bs fun v3 h2 => ?_
 have f1 := znl _ _ h2
 try simp only [en.down] at f1
 rcases v3 with y4 | y5
 ·dsimp only
  rintro ⟨⟩
  exact fF q5o
 dsimp only
 rintro ⟨⟩
 exact fF q5o
theorem zav : ∀ p r,q3c p = some r → O.loop 6 2 ⟨[(1,v_i p.1),(2,v_l 7 T.Op.enc p.2.1),(7,v_i p.2.2.1),(8,v_i p.2.2.2.1)],[(0,Blk.row false 1 (List.map zu p.2.2.2.2))],1⟩ = some (Ex.normal,⟨[(1,v_i r),(2,v_l 7 T.Op.enc p.2.1),(7,v_i p.2.2.1)],[(0,Blk.row false 1 (List.map zu p.2.2.2.2))],1⟩) := by
 refine q3c.partial_correctness _ ?_
 rintro q3c ih8 ⟨n,os,i,k,r0_⟩ r; dsimp only
 refine bg T.Op.enc fun x2 h1 f1 f2 f3 => ?_
 apply it <;> intro h3
 ·refine bg T.qb.enc fun x5 h4 f4 f5 f6 => ?_
  intro h; have f7 := ih8 _ _ h; clear h
  try simp only [en.down] at f7
  clear ih8; exact fL fn6
 rintro ⟨⟩
 clear ih8; exact fL fn6
def qd4 : ((Bool) ⊕ (Unit)) → Ex × St
 | .inl y => (Ex.ret,⟨[(6,v_b y)],[],0⟩)
 | .inr y => (Ex.normal,⟨[(6,AV.undef)],[],0⟩)
attribute [local go_sem] qd4
theorem z6y : ∀ p r,q3d p = some r → O.loop 6 0 ⟨[(1,v_i p.1),(2,v_l 7 T.Op.enc p.2.1),(7,v_i p.2.2)],[],0⟩ = some (qd4 r) := by
 refine q3d.partial_correctness _ ?_
 rintro q3d ih3 ⟨n,os,i⟩ r; dsimp only
 apply it <;> intro h1
 ·refine bg T.Op.enc fun x3 h2 f1 f2 f3 => ?_
  refine bs fun v5 h4 => ?_
  have f4 := zpv h4
  try simp only [en.down,Nat.reduceAdd] at f4
  apply it <;> intro h6
  ·try simp only [h6] at f4
   rintro ⟨⟩
   clear ih3; exact fL fn6
  apply it <;> intro h7
  ·try simp only [h6] at f4
   rintro ⟨⟩
   clear ih3; exact fL fn6
  apply it <;> intro h8
  ·try simp only [h6] at f4
   rintro ⟨⟩
   clear ih3; exact fL fn6
  refine bs fun v10 h9 => ?_
  have f5 := x42 h9
  try simp only [en.down] at f5
  apply it <;> intro h11
  ·try simp only [h6,h11] at f4 f5
   rintro ⟨⟩
   clear ih3; exact fL fn6
  refine bs fun v13 h12 => ?_
  have f6 := zav _ _ h12
  try simp only [en.down,Nat.reduceAdd] at f6
  apply it <;> intro h14
  ·try simp only [h6,h11] at f4 f5 f6
   rintro ⟨⟩
   clear ih3; exact fL fn6
  try simp only [h6,h11] at f4 f5 f6
  intro h; have f7 := ih3 _ _ h; clear h
  try simp only [en.down] at f7
  try simp only [h6,h11] at f7
  clear ih3; exact fL fn6
 rintro ⟨⟩
 clear ih3; exact fL fn6
theorem qsv {many n os r} (h : q74 many n os = some r) : O.call 6 [v_i many,v_i n,v_l 7 T.Op.enc os] [] = some (v_b r,[]) := by
 revert h; unfold q74
 apply it <;> intro h1
 ·rintro ⟨⟩
  exact fF fn6
 refine bs fun v3 h2 => ?_
 have f1 := z6y _ _ h2
 try simp only [en.down] at f1
 rcases v3 with y4 | y5
 ·dsimp only
  rintro ⟨⟩
  exact fF fn6
 dsimp only
 rintro ⟨⟩
 exact fF fn6
theorem zbn {x n r} (h : q7c x n = some r) : O.call 13 [v_i x,v_i n] [] = some (v_i r,[]) := by
 revert h; unfold q7c
 refine gd fun h1 => ?_
 have f1 := eq_false h1
 rintro ⟨⟩
 exact fF zdv
theorem qza : ∀ p r,q3x p = some r → O.loop 8 3 ⟨[(0,v_l 7 T.Op.enc p.1),(3,v_r 0 p.2.2.2.1),(4,v_i p.2.1),(5,AV.ptr 1 0),(6,v_i p.2.2.1)],[(0,b_r 7 T.Op.enc p.2.2.2.1),(1,Blk.box [v_i p.2.2.2.2.1,v_s p.2.2.2.2.2.1,v_s p.2.2.2.2.2.2.1,v_i p.2.2.2.2.2.2.2.1,v_b p.2.2.2.2.2.2.2.2.1,v_r 2 p.2.2.2.2.2.2.2.2.2.2,v_l 2 T.Sel.enc p.2.2.2.2.2.2.2.2.2.1]),(2,b_r 3 T.qb.enc p.2.2.2.2.2.2.2.2.2.2)],3⟩ = some (Ex.normal,⟨[(0,v_l 7 T.Op.enc p.1),(3,v_r 0 p.2.2.2.1),(4,v_i p.2.1),(5,AV.ptr 1 0)],[(0,b_r 7 T.Op.enc p.2.2.2.1),(1,Blk.box [v_i p.2.2.2.2.1,v_s p.2.2.2.2.2.1,v_s p.2.2.2.2.2.2.1,v_i p.2.2.2.2.2.2.2.1,v_b p.2.2.2.2.2.2.2.2.1,v_r 2 r,v_l 2 T.Sel.enc p.2.2.2.2.2.2.2.2.2.1]),(2,b_r 3 T.qb.enc r)],3⟩) := by
 refine q3x.partial_correctness _ ?_
 rintro q3x ih12 ⟨os,i,k,out,o,o2,o3,o4,o5,o6,r2_⟩ r; dsimp only
 refine bg T.Op.enc fun x2 h1 f1 f2 f3 => ?_
 apply it <;> intro h3
 ·refine bg T.qb.enc fun x5 h4 f4 f5 f6 => ?_
  have f7 : ((1000000000000000000 : Int) = 0) = False := by decide
  refine gd fun h6 => ?_
  have f8 := rG 3 T.qb.enc r2_
  have f9 : List.map T.qb.enc r2_ ++ [[PV.int IntKind.i64 (x5.span.frm.tmod (1000000000000000000 : Int)),PV.int IntKind.i64 (x5.span.to.tmod (1000000000000000000 : Int)),PV.str x5.text]] = List.map T.qb.enc (r2_ ++ [(T.qb.mk (T.Span.mk (x5.span.frm.tmod (1000000000000000000 : Int)) (x5.span.to.tmod (1000000000000000000 : Int))) x5.text)]) := by simp only [List.map_append,List.map_cons,List.map_nil,wh,wy,kz,T.qb.qd] <;> rfl
  intro h; have f10 := ih12 _ _ h; clear h
  try simp only [en.down] at f10
  clear ih12; exact fL fn8
 rintro ⟨⟩
 clear ih12; exact fL fn8
theorem x1d : ∀ p r,q3h p = some r → O.loop 8 5 ⟨[(0,v_l 7 T.Op.enc p.1),(3,v_r 0 p.2.2.2.1),(4,v_i p.2.1),(5,AV.ptr 1 0),(8,v_i p.2.2.1)],[(0,b_r 7 T.Op.enc p.2.2.2.1),(1,Blk.box [v_i p.2.2.2.2.1,v_s p.2.2.2.2.2.1,v_s p.2.2.2.2.2.2.1,v_i p.2.2.2.2.2.2.2.1,v_b p.2.2.2.2.2.2.2.2.1,v_l 3 T.qb.enc p.2.2.2.2.2.2.2.2.2.1,v_r 2 p.2.2.2.2.2.2.2.2.2.2]),(2,b_r 2 T.Sel.enc p.2.2.2.2.2.2.2.2.2.2)],3⟩ = some (Ex.normal,⟨[(0,v_l 7 T.Op.enc p.1),(3,v_r 0 p.2.2.2.1),(4,v_i p.2.1),(5,AV.ptr 1 0)],[(0,b_r 7 T.Op.enc p.2.2.2.1),(1,Blk.box [v_i p.2.2.2.2.1,v_s p.2.2.2.2.2.1,v_s p.2.2.2.2.2.2.1,v_i p.2.2.2.2.2.2.2.1,v_b p.2.2.2.2.2.2.2.2.1,v_l 3 T.qb.enc p.2.2.2.2.2.2.2.2.2.1,v_r 2 r]),(2,b_r 2 T.Sel.enc r)],3⟩) := by
 refine q3h.partial_correctness _ ?_
 rintro q3h ih13 ⟨os,i,k,out,o,o2,o3,o4,o5,o6,r2_⟩ r; dsimp only
 refine bg T.Op.enc fun x2 h1 f1 f2 f3 => ?_
 apply it <;> intro h3
 ·refine bg T.Sel.enc fun x5 h4 f4 f5 f6 => ?_
  have f7 : ((1000000000000000000 : Int) = 0) = False := by decide
  refine gd fun h6 => ?_
  have f8 := rG 2 T.Sel.enc r2_
  have f9 : List.map T.Sel.enc r2_ ++ [[PV.int IntKind.i64 (x5.anchor.tmod (1000000000000000000 : Int)),PV.int IntKind.i64 (x5.head.tmod (1000000000000000000 : Int))]] = List.map T.Sel.enc (r2_ ++ [(T.Sel.mk (x5.anchor.tmod (1000000000000000000 : Int)) (x5.head.tmod (1000000000000000000 : Int)))]) := by simp only [List.map_append,List.map_cons,List.map_nil,wh,wy,kz,T.Sel.qd] <;> rfl
  intro h; have f10 := ih13 _ _ h; clear h
  try simp only [en.down] at f10
  clear ih13; exact fL fn8
 rintro ⟨⟩
 clear ih13; exact fL fn8
theorem z2i : ∀ p r,uk p = some r → O.loop 8 0 ⟨[(0,v_l 7 T.Op.enc p.1),(3,v_r 0 p.2.2),(4,v_i p.2.1)],[(0,b_r 7 T.Op.enc p.2.2)],1⟩ = some (Ex.normal,⟨[(3,v_r 0 r)],[(0,b_r 7 T.Op.enc r)],1⟩) := by
 refine uk.partial_correctness _ ?_
 rintro uk ih10 ⟨os,i,out⟩ r; dsimp only
 apply it <;> intro h1
 ·refine bg T.Op.enc fun x3 h2 f1 f2 f3 => ?_
  refine bs fun v5 h4 => ?_
  have f4 := zbn h4
  try simp only [en.down] at f4
  apply it <;> intro h6
  ·refine gd fun h7 => ?_
   have f5 := rG 7 T.Op.enc out
   have f6 : List.map T.Op.enc out ++ [[PV.int IntKind.i64 (IntKind.i64.wrap ((1 : Int) + v5)),PV.str x3.name,PV.str x3.text,PV.int IntKind.i64 (0 : Int),PV.bool false,PV.sl true 0 [],PV.sl true 0 []]] = List.map T.Op.enc (out ++ [(T.Op.mk (IntKind.i64.wrap ((1 : Int) + v5)) x3.name x3.text (0 : Int) false (⟨true,[]⟩ : (Sl T.qb)) (⟨true,[]⟩ : (Sl T.Sel)))]) := by simp only [List.map_append,List.map_cons,List.map_nil,wh,wy,kz,T.Op.qd] <;> rfl
   intro h; have f7 := ih10 _ _ h; clear h
   try simp only [en.down] at f7
   clear ih10; exact fL fn8
  refine q7g ?_ (fun h8 h10 => ?_)
  ·rintro (⟨h8,h10⟩ | ⟨h8,h10⟩)
   all_goals
   refine gd fun h9 => ?_
   have f8 := rG 7 T.Op.enc out
   have f9 : List.map T.Op.enc out ++ [[PV.int IntKind.i64 (IntKind.i64.wrap ((1 : Int) + v5)),PV.str ([] : Bytes),PV.str x3.text,PV.int IntKind.i64 (0 : Int),PV.bool false,PV.sl true 0 [],PV.sl true 0 []]] = List.map T.Op.enc (out ++ [(T.Op.mk (IntKind.i64.wrap ((1 : Int) + v5)) ([] : Bytes) x3.text (0 : Int) false (⟨true,[]⟩ : (Sl T.qb)) (⟨true,[]⟩ : (Sl T.Sel)))]) := by simp only [List.map_append,List.map_cons,List.map_nil,wh,wy,kz,T.Op.qd] <;> rfl
   intro h; have f10 := ih10 _ _ h; clear h
   try simp only [en.down] at f10
   clear ih10; exact fL fn8
  refine q7g ?_ (fun h12 h14 => ?_)
  ·rintro (⟨h12,h14⟩ | ⟨h12,h14⟩)
   all_goals
   have f11 : ((1000000000000000000 : Int) = 0) = False := by decide
   refine gd fun h13 => ?_
   have f12 := rG 7 T.Op.enc out
   have f13 : List.map T.Op.enc out ++ [[PV.int IntKind.i64 (IntKind.i64.wrap ((1 : Int) + v5)),PV.str ([] : Bytes),PV.str ([] : Bytes),PV.int IntKind.i64 (x3.n.tmod (1000000000000000000 : Int)),PV.bool false,PV.sl true 0 [],PV.sl true 0 []]] = List.map T.Op.enc (out ++ [(T.Op.mk (IntKind.i64.wrap ((1 : Int) + v5)) ([] : Bytes) ([] : Bytes) (x3.n.tmod (1000000000000000000 : Int)) false (⟨true,[]⟩ : (Sl T.qb)) (⟨true,[]⟩ : (Sl T.Sel)))]) := by simp only [List.map_append,List.map_cons,List.map_nil,wh,wy,kz,T.Op.qd] <;> rfl
   intro h; have f14 := ih10 _ _ h; clear h
   try simp only [en.down] at f14
   clear ih10; exact fL fn8
  apply it <;> intro h16
  ·have f15 : ((1000000000000000000 : Int) = 0) = False := by decide
   refine gd fun h17 => ?_
   have f16 := rG 7 T.Op.enc out
   have f17 : List.map T.Op.enc out ++ [[PV.int IntKind.i64 (IntKind.i64.wrap ((1 : Int) + v5)),PV.str ([] : Bytes),PV.str ([] : Bytes),PV.int IntKind.i64 (x3.n.tmod (1000000000000000000 : Int)),PV.bool x3.extend,PV.sl true 0 [],PV.sl true 0 []]] = List.map T.Op.enc (out ++ [(T.Op.mk (IntKind.i64.wrap ((1 : Int) + v5)) ([] : Bytes) ([] : Bytes) (x3.n.tmod (1000000000000000000 : Int)) x3.extend (⟨true,[]⟩ : (Sl T.qb)) (⟨true,[]⟩ : (Sl T.Sel)))]) := by simp only [List.map_append,List.map_cons,List.map_nil,wh,wy,kz,T.Op.qd] <;> rfl
   intro h; have f18 := ih10 _ _ h; clear h
   try simp only [en.down] at f18
   clear ih10; exact fL fn8
  apply it <;> intro h18
  ·refine bs fun v20 h19 => ?_
   have f19 := qza _ _ h19
   try simp only [en.down] at f19
   refine gd fun h21 => ?_
   have f20 := rG 7 T.Op.enc out
   have f21 : List.map T.Op.enc out ++ [[PV.int IntKind.i64 (IntKind.i64.wrap ((1 : Int) + v5)),PV.str ([] : Bytes),PV.str ([] : Bytes),PV.int IntKind.i64 (0 : Int),PV.bool false,PV.sl v20.isEmpty (szc 3 v20) (List.map T.qb.enc v20),PV.sl true 0 []]] = List.map T.Op.enc (out ++ [(T.Op.mk (IntKind.i64.wrap ((1 : Int) + v5)) ([] : Bytes) ([] : Bytes) (0 : Int) false (⟨v20.isEmpty,v20⟩ : (Sl T.qb)) (⟨true,([] : List T.Sel)⟩ : (Sl T.Sel)))]) := by simp only [List.map_append,List.map_cons,List.map_nil,wh,wy,kz,T.Op.qd] <;> rfl
   intro h; have f22 := ih10 _ _ h; clear h
   try simp only [en.down] at f22
   clear ih10; exact fL fn8
  apply it <;> intro h22
  ·refine bs fun v24 h23 => ?_
   have f23 := x1d _ _ h23
   try simp only [en.down] at f23
   refine gd fun h25 => ?_
   have f24 := rG 7 T.Op.enc out
   have f25 : List.map T.Op.enc out ++ [[PV.int IntKind.i64 (IntKind.i64.wrap ((1 : Int) + v5)),PV.str ([] : Bytes),PV.str ([] : Bytes),PV.int IntKind.i64 (0 : Int),PV.bool false,PV.sl true 0 [],PV.sl v24.isEmpty (szc 2 v24) (List.map T.Sel.enc v24)]] = List.map T.Op.enc (out ++ [(T.Op.mk (IntKind.i64.wrap ((1 : Int) + v5)) ([] : Bytes) ([] : Bytes) (0 : Int) false (⟨true,([] : List T.qb)⟩ : (Sl T.qb)) (⟨v24.isEmpty,v24⟩ : (Sl T.Sel)))]) := by simp only [List.map_append,List.map_cons,List.map_nil,wh,wy,kz,T.Op.qd] <;> rfl
   intro h; have f26 := ih10 _ _ h; clear h
   try simp only [en.down] at f26
   clear ih10; exact fL fn8
  refine gd fun h26 => ?_
  have f27 := rG 7 T.Op.enc out
  have f28 : List.map T.Op.enc out ++ [[PV.int IntKind.i64 (IntKind.i64.wrap ((1 : Int) + v5)),PV.str ([] : Bytes),PV.str ([] : Bytes),PV.int IntKind.i64 (0 : Int),PV.bool false,PV.sl true 0 [],PV.sl true 0 []]] = List.map T.Op.enc (out ++ [(T.Op.mk (IntKind.i64.wrap ((1 : Int) + v5)) ([] : Bytes) ([] : Bytes) (0 : Int) false (⟨true,[]⟩ : (Sl T.qb)) (⟨true,[]⟩ : (Sl T.Sel)))]) := by simp only [List.map_append,List.map_cons,List.map_nil,wh,wy,kz,T.Op.qd] <;> rfl
  intro h; have f29 := ih10 _ _ h; clear h
  try simp only [en.down] at f29
  clear ih10; exact fL fn8
 rintro ⟨⟩
 clear ih10; exact fL fn8
theorem z7c {os r} (h : q76 os = some r) : O.call 8 [v_l 7 T.Op.enc os] [] = some (v_l 7 T.Op.enc r,[]) := by
 revert h; unfold q76
 refine bs fun v2 h1 => ?_
 have f1 := z2i _ _ h1
 try simp only [en.down] at f1
 rintro ⟨⟩
 exact fF fn8
theorem gp {n r} (h : yg n = some r) : O.call 19 [v_i n] [] = some (v_s r,[]) := by
 revert h; unfold yg
 refine bs fun v2 h1 => ?_
 have f1 := qva h1
 try simp only [en.down] at f1
 refine gd fun h3 => ?_
 have f2 : (1 + v2.length ≤ 2 ^ 62) = True := eq_true h3
 rintro ⟨⟩
 exact fF qof
theorem zey : ∀ p r,q49 p = some r → O.loop 9 0 ⟨[(1,v_l 7 T.Op.enc p.1),(6,v_r 0 p.2.2.2.2),(15,v_l 1 (kE IntKind.u32) p.2.1),(16,v_i p.2.2.1),(17,v_i p.2.2.2.1)],[(0,Blk.row false 1 (List.map qp p.2.2.2.2))],1⟩ = some (Ex.normal,⟨[(1,v_l 7 T.Op.enc p.1),(6,v_r 0 r)],[(0,Blk.row false 1 (List.map qp r))],1⟩) := by
 refine q49.partial_correctness _ ?_
 rintro q49 ih15 ⟨os,t15,t16,t17,out⟩ r; dsimp only
 apply it <;> intro h1
 ·refine bg (kE IntKind.u32) fun x3 h2 f1 f2 f3 => ?_
  refine bs fun v5 h4 => ?_
  have f4 := gp h4
  try simp only [en.down] at f4
  refine gd fun h6 => ?_
  have f5 : List.map qp out ++ List.map qp v5 = List.map qp (out ++ v5) := qd9 _ _ _
  intro h; have f6 := ih15 _ _ h; clear h
  try simp only [en.down] at f6
  clear ih15; exact fL fn9
 rintro ⟨⟩
 clear ih15; exact fL fn9
def qcf : ((Bool) ⊕ (Unit)) → Ex × St
 | .inl y => (Ex.ret,⟨[(2,v_b y)],[],0⟩)
 | .inr y => (Ex.normal,⟨[(2,AV.undef)],[],0⟩)
attribute [local go_sem] qcf
theorem x4c : ∀ p r,nz p = some r → O.loop 33 0 ⟨[(5,v_l 1 yx p.1),(6,v_i p.2.1),(7,v_i p.2.2)],[],0⟩ = some (qcf r) := by
 refine nz.partial_correctness _ ?_
 rintro nz ih21 ⟨t5,t6,t7⟩ r; dsimp only
 apply it <;> intro h1
 ·refine bg yx fun x3 h2 f1 f2 f3 => ?_
  refine q7g ?_ (fun h4 h5 => ?_)
  ·rintro (⟨h4,h5⟩ | ⟨h4,h5⟩)
   all_goals
   rintro ⟨⟩
   clear ih21; exact fL q82
  intro h; have f4 := ih21 _ _ h; clear h
  try simp only [en.down] at f4
  clear ih21; exact fL q82
 rintro ⟨⟩
 clear ih21; exact fL q82
theorem qae {ns r} (h : q2b ns = some r) : O.call 33 [v_l 1 yx ns] [] = some (v_b r,[]) := by
 revert h; unfold q2b
 refine bs fun v2 h1 => ?_
 have f1 := x4c _ _ h1
 try simp only [en.down] at f1
 rcases v2 with y3 | y4
 ·dsimp only
  rintro ⟨⟩
  exact fF q82
 dsimp only
 rintro ⟨⟩
 exact fF q82
theorem q6h {s r} (h : q1d s = some r) : O.call 34 [v_s s] [] = some (v_s r,[]) := by
 revert h; unfold q1d
 refine bs fun v2 h1 => ?_
 have f1 := gp h1
 try simp only [en.down] at f1
 refine gd fun h3 => ?_
 have f2 : (v2.length + 1 ≤ 2 ^ 62) = True := eq_true h3
 refine gd fun h4 => ?_
 have f3 := eq_true h4
 try simp only [en.down] at f3
 rintro ⟨⟩
 exact fF x4r
theorem mh {o r} (h : yf o = some r) : O.call 36 [v_g (T.Op.enc o)] [] = some (v_b r,[]) := by
 revert h; unfold yf
 refine z9m (fun h1 h2 h3 h4 h5 => ?_) ?_
 ·rintro ⟨⟩
  exact fF qcr
 rintro (⟨h1,h2,h3,h4,h5⟩ | ⟨h1,h2,h3,h4,h5⟩ | ⟨h1,h2,h3,h4,h5⟩ | ⟨h1,h2,h3,h4,h5⟩ | ⟨h1,h2,h3,h4,h5⟩)
 all_goals
 rintro ⟨⟩
 exact fF qcr
theorem qny : ∀ p r,q2o p = some r → O.loop 20 1 ⟨[(4,AV.ptr 1 0),(5,v_s p.1),(6,v_b p.2.1),(82,v_l 3 T.qb.enc p.2.2.1),(83,v_i p.2.2.2.1),(84,v_i p.2.2.2.2.1)],[(0,b_x (T.Op.enc p.2.2.2.2.2.1)),(1,b_x (T.Op.enc p.2.2.2.2.2.2)),(2,Blk.dead)],3⟩ = some (Ex.normal,⟨[(4,AV.ptr 1 0),(5,v_s r.1),(6,v_b r.2)],[(0,b_x (T.Op.enc p.2.2.2.2.2.1)),(1,b_x (T.Op.enc p.2.2.2.2.2.2)),(2,Blk.dead)],3⟩) := by
 refine q2o.partial_correctness _ ?_
 rintro q2o ih24 ⟨out,ok_,t82,t83,t84,b0_,rest⟩ r; dsimp only
 apply it <;> intro h1
 ·refine bg T.qb.enc fun x3 h2 f1 f2 f3 => ?_
  apply it <;> intro h4
  ·refine bs fun v6 h5 => ?_
   have f4 := qae h5
   try simp only [en.down] at f4
   refine bs fun v8 h7 => ?_
   have f5 := gp h7
   try simp only [en.down] at f5
   refine bs fun v10 h9 => ?_
   have f6 := gp h9
   try simp only [en.down] at f6
   refine gd fun h11 => ?_
   have f7 := eq_true h11
   try simp only [en.down] at f7
   refine bs fun v13 h12 => ?_
   have f8 := q6h h12
   try simp only [en.down] at f8
   refine gd fun h14 => ?_
   have f9 := eq_true h14
   try simp only [en.down] at f9
   refine gd fun h15 => ?_
   have f10 := eq_true h15
   try simp only [en.down] at f10
   try simp only [h4] at f4 f5 f6 f8
   intro h; have f11 := ih24 _ _ h; clear h
   try simp only [en.down] at f11
   try simp only [h4] at f11
   clear ih24; exact fL zx
  refine bs fun v17 h16 => ?_
  have f12 := gp h16
  try simp only [en.down] at f12
  refine bs fun v19 h18 => ?_
  have f13 := gp h18
  try simp only [en.down] at f13
  refine gd fun h20 => ?_
  have f14 := eq_true h20
  try simp only [en.down] at f14
  refine bs fun v22 h21 => ?_
  have f15 := q6h h21
  try simp only [en.down] at f15
  refine gd fun h23 => ?_
  have f16 := eq_true h23
  try simp only [en.down] at f16
  refine gd fun h24 => ?_
  have f17 := eq_true h24
  try simp only [en.down] at f17
  try simp only [h4] at f12 f13 f15
  intro h; have f18 := ih24 _ _ h; clear h
  try simp only [en.down] at f18
  try simp only [h4] at f18
  clear ih24; exact fL zx
 rintro ⟨⟩
 clear ih24; exact fL zx
theorem zkj : ∀ p r,q2p p = some r → O.loop 20 3 ⟨[(4,AV.ptr 1 0),(5,v_s p.1),(6,v_b p.2.1),(119,v_l 2 T.Sel.enc p.2.2.1),(120,v_i p.2.2.2.1),(121,v_i p.2.2.2.2.1)],[(0,b_x (T.Op.enc p.2.2.2.2.2.1)),(1,b_x (T.Op.enc p.2.2.2.2.2.2)),(2,Blk.dead)],3⟩ = some (Ex.normal,⟨[(4,AV.ptr 1 0),(5,v_s r.1),(6,v_b r.2)],[(0,b_x (T.Op.enc p.2.2.2.2.2.1)),(1,b_x (T.Op.enc p.2.2.2.2.2.2)),(2,Blk.dead)],3⟩) := by
 refine q2p.partial_correctness _ ?_
 rintro q2p ih25 ⟨out,ok_,t119,t120,t121,b0_,rest⟩ r; dsimp only
 apply it <;> intro h1
 ·refine bg T.Sel.enc fun x3 h2 f1 f2 f3 => ?_
  apply it <;> intro h4
  ·refine bs fun v6 h5 => ?_
   have f4 := qae h5
   try simp only [en.down] at f4
   refine bs fun v8 h7 => ?_
   have f5 := gp h7
   try simp only [en.down] at f5
   refine bs fun v10 h9 => ?_
   have f6 := gp h9
   try simp only [en.down] at f6
   refine gd fun h11 => ?_
   have f7 := eq_true h11
   try simp only [en.down] at f7
   refine gd fun h12 => ?_
   have f8 := eq_true h12
   try simp only [en.down] at f8
   try simp only [h4] at f4 f5 f6
   intro h; have f9 := ih25 _ _ h; clear h
   try simp only [en.down] at f9
   try simp only [h4] at f9
   clear ih25; exact fL zx
  refine bs fun v14 h13 => ?_
  have f10 := gp h13
  try simp only [en.down] at f10
  refine bs fun v16 h15 => ?_
  have f11 := gp h15
  try simp only [en.down] at f11
  refine gd fun h17 => ?_
  have f12 := eq_true h17
  try simp only [en.down] at f12
  refine gd fun h18 => ?_
  have f13 := eq_true h18
  try simp only [en.down] at f13
  try simp only [h4] at f10 f11
  intro h; have f14 := ih25 _ _ h; clear h
  try simp only [en.down] at f14
  try simp only [h4] at f14
  clear ih25; exact fL zx
 rintro ⟨⟩
 clear ih25; exact fL zx
theorem qdu {word r} (h : p9 word = some r) : O.call 43 [v_s word] [] = some (v_i r,[]) := by
 revert h; unfold p9
 apply it <;> intro h1
 ·rintro ⟨⟩
  exact fF q6k
 apply it <;> intro h2
 ·rintro ⟨⟩
  exact fF q6k
 apply it <;> intro h3
 ·rintro ⟨⟩
  exact fF q6k
 apply it <;> intro h4
 ·rintro ⟨⟩
  exact fF q6k
 apply it <;> intro h5
 ·rintro ⟨⟩
  exact fF q6k
 rintro ⟨⟩
 exact fF q6k
def qgl (t5 : (List Bytes)) : ((Bytes) ⊕ (Unit)) → Ex × St
 | .inl y => (Ex.ret,⟨[(2,v_s y)],[(0,Blk.row false 1 (List.map zu t5))],1⟩)
 | .inr y => (Ex.normal,⟨[(2,AV.undef)],[(0,Blk.row false 1 (List.map zu t5))],1⟩)
attribute [local go_sem] qgl
theorem zan : ∀ p r,q3w p = some r → O.loop 35 0 ⟨[(0,v_i p.1),(5,v_r 0 p.2.2.2),(6,v_i p.2.1),(7,v_i p.2.2.1)],[(0,Blk.row false 1 (List.map zu p.2.2.2))],1⟩ = some (qgl p.2.2.2 r) := by
 refine q3w.partial_correctness _ ?_
 rintro q3w ih27 ⟨kind,t6,t7,t5⟩ r; dsimp only
 apply it <;> intro h1
 ·refine bw zu fun x3 h2 f1 f2 f3 => ?_
  refine bs fun v5 h4 => ?_
  have f4 := qdu h4
  try simp only [en.down] at f4
  apply it <;> intro h6
  ·rintro ⟨⟩
   clear ih27; exact fL q7d
  intro h; have f5 := ih27 _ _ h; clear h
  try simp only [en.down] at f5
  clear ih27; exact fL q7d
 rintro ⟨⟩
 clear ih27; exact fL q7d
theorem qrv {kind r} (h : q72 kind = some r) : O.call 35 [v_i kind] [] = some (v_s r,[]) := by
 revert h; unfold q72
 refine bs fun v2 h1 => ?_
 have f1 := zan _ _ h1
 try simp only [en.down,Nat.reduceAdd,UInt8.reduceToNat] at f1
 rcases v2 with y3 | y4
 ·dsimp only
  rintro ⟨⟩
  exact fF q7d
 dsimp only
 rintro ⟨⟩
 exact fF q7d
end Go.Proofs.YtaglodpkpggdiaaGreatDoor
