/-
  What the machine's calls come to: the plain functions.
-/
import Derived.Test.YtaglodpkpggdiaaGreatDoorLag
import Derived.Test.YtaglodpkpggdiaaGreatDoorLah
import Derived.Test.YtaglodpkpggdiaaGreatDoorLai
set_option linter.unusedSimpArgs false
set_option linter.unusedVariables false
set_option maxRecDepth 100000
namespace Go.Proofs.YtaglodpkpggdiaaGreatDoor
open Go Go.Gm
attribute [go_sem] needs aop q9d q0y List.toList_toArray q8u q7l q0h List.take List.drop List.length_cons List.length_nil List.length_map q2b AV.q3k List.append q8q List.getElem?_cons_zero List.getElem?_cons_succ AV.refs AV.ren AV.rows if_true if_false List.nil_append List.append_nil List.cons_append q38 unz q1q q1n q3j qex List.getElem?_nil touched List.isEmpty_nil Option.some.injEq aUn q4b PV.cells List.replicate List.set_cons_zero List.set_cons_succ q2j q88 jr eq_self AV.thaw Blk.thaw q1c q6i aEq qp q50 List.headD_cons zh q6r q51 q6q Blk.ren Blk.refs List.flatMap_nil List.flatMap_cons q59 qhf q2m List.map_cons List.map_nil List.drop_zero Option.isSome_none Option.isNone_none Option.isSome_some Option.isNone_some q4c.eq_def zna refsOf zki qit x2y ql5 zqc qxr zlp zge z1u qtv znt qlz zme qmk zsm z8c x42 qz2 qzt qqh z0l zc1 zq.eq_1 zq.eq_2 q2o.eq_1 q2o.eq_2 q2o.eq_3 q2o.eq_4 zx9 qvk qxt qxy z3b freezes.eq_1 freezes.eq_2 ev.eq_1 ev.eq_2 ev.eq_3 ev.eq_4 Env.get.eq_1 Env.get.eq_2 j5.eq_1 j5.eq_2 qg.eq_1 qg.eq_2 q4n.eq_1 jo.eq_1 jo.eq_2 q3t.eq_1 q3t.eq_2 gy.eq_1 gy.eq_2 q8y.eq_1 ldP.eq_1 ldP.eq_2 ldA.eq_1 ldA.eq_2 TI.isAgg.eq_1 q39.eq_1 Heap.get.eq_1 Heap.get.eq_2 Heap.put.eq_1 Heap.put.eq_2 zbo zuu zgz qjz qsd quq zcq x3x qut qy2 zry zh4 zod qj7 z0n za6 zhs zyq qtg zyr ma.eq_1 AV.refs.refsL.eq_1 AV.refs.refsL.eq_2 AV.ren.renL.eq_1 AV.ren.renL.eq_2 jf.eq_1 jf.eq_2 kg.eq_1 kg.eq_2 zas z1a qw1 narrow.eq_1 q5l.eq_1 restrict.eq_1 restrict.eq_2 Heap.upto.eq_1 Heap.upto.eq_2 Heap.below.eq_1 Heap.below.eq_2 Env.below.eq_1 Env.below.eq_2 q3x.eq_1 q3x.eq_2 decide_true and_self AV.rows.rowsL.eq_1 AV.rows.rowsL.eq_2 Nat.zero_lt_one Nat.lt_add_one Nat.zero_le Nat.le_refl Nat.zero_add Nat.add_zero and_true true_and Bool.and_true Bool.true_and decide_false Bool.false_eq_true nk.eq_1 nk.eq_2 qnd qj3 z0w q0l.eq_1 q0l.eq_2 q5b.eq_1 q5b.eq_2 finish.eq_1 List.range_zero pos.eq_1 pos.eq_2 reach.eq_1 reach.eq_2 reach.eq_3 enter.eq_1 xk.eq_1 xk.eq_2 xc.eq_1 xc.eq_2 q05.eq_1 q05.eq_2 setEnv.eq_1 setEnv.eq_2 qsb zgi z9q qny zz7 z2f zhx Bool.not_false Bool.not_true Bool.or_self Bool.or_false Bool.false_or Bool.or_true Bool.true_or qmo zoy qs0 Bool.and_self Bool.and_false Bool.false_and q0s.eq_1 q0s.eq_2 Nat.mul_one Nat.one_mul true_or or_true false_or or_false or_self and_false false_and Gm.freeze.eq_1 AV.thaw.thawL.eq_1 AV.thaw.thawL.eq_2 zt.eq_1 zt.eq_2 fitAll.eq_1 fitAll.eq_2 fitAll.eq_3 qb7.eq_1 q7s.eq_1 q08.eq_1 q08.eq_2 qb3.eq_1 closedIn.eq_1 closedIn.eq_2 pick.eq_1 pick.eq_2 q1x.eq_1 q1x.eq_2 q14.eq_1 q14.eq_2 wu.eq_1 backTo.eq_1 vg.eq_1 vg.eq_2 gm.eq_1 q3e.eq_1 qsy zpr z01 z9a z3v qkp zpk qnt zw8 qs8 zao qug zez qtu zrm z5o z2j quy canon.eq_1 q4m.eq_1 q4m.eq_2 q5t.eq_1 q5t.eq_2 bu.eq_1 bu.eq_2 qti qol zf9 qw5 q2d.eq_1 orT.eq_1 orT.eq_2 isBytes.eq_1 q4r.eq_1 q52.eq_1 qfs qjr kv qf1 qe7 qi6 qi5 qgv qcq qi3 qfp take_len zhc zyu qn8 z13 q92.eq_1 q92.eq_2 kE.eq_1 zk7 zf4 zr3 zet zj3 ztm zv2 qr0 qkk zfy qnl zni zkj z8i qe1 qya z1x z2z zd0 x0j qku zr6 x05 qn0 zqe zcz zdl zln zd1 z9e Int.natCast_zero Int.cast_ofNat_Int kr w9 take_set List.take_length v_i v_b v_s v_g v_l v_r b_x b_r b_m z8 yn zn q8x slE qdo T.Span.qd T.qb.qd T.Sel.qd T.Op.qd T.yo.qd T.qc.qd T.Row.qd T.Rx.qd T.Fmt.qd T.Form.qd T.Stop.qd T.uy.qd T.gq.qd T.State.qd T.q42.qd T.q3i.qd T.q3a.qd T.q41.qd T.q2t.qd T.mi.qd T.q02.qd T.q3l.qd T.zb.qd T.Range.qd T.q2w.qd T.q3n.qd T.q3m.qd T.zg.qd T.za.qd T.q2v.qd T.q3y.qd T.q1d.qd T.q3c.qd cm0 cm1 cm2 cm3 z3q kp4 cm4 pr4 cm5 qoo kp6 cm6 pr6 zr8 kp7 cm7 pr7 zmj kp8 cm8 pr8 z4o kp9 cm9 pr9 zor zg6 z4u qyo zih qmq z4g zol zk4 zbt zcu zy8 x37 qk9 z6e qs6 qv0 z2e qtf x2q zps qz5 x21 zld zon zrv za1 z7d zl1 qp5 zal z0g zp6 zgh zli qzp zot x04 z3l zba zsh zdu zb3 zt9 zqz zyv zvx qjk z7h zkb zoz x03 znv z00 x26 zm7 zu7 zds zn0 ze2 zta z8v qkb zfj z2y qv8 qrj zx3 qrz z7c x2r zxg zcy z1z x3a ztg zzg qk3 zwi zqw z04 zmb zr9 za8 ze8 qtx x14 z7k zyk qz7 zkq qo5 zo2 qrx zx7 zpv z4q z9d qn6 zzh qk5 zbu ql1 zsd qot qod zqm zuz z5i x1p z4y zs6 zx5 zkn zaw zlm zfx zs9 qwt qkl qj8 ql7 zfu quh zyj qzj qpa x3l qs5 z2q zbr zxs z11 z2m qsv qt8 qqe zbn z1y zp5 zfa qsl zbh z05 znn qqp qxf zgn zpj zgx zfk qxs zdo qtc zku qoe x11 ztz zi7 qyd zc6 x0w x0d zmm qin ztx zb4 ql0 zed zgo zdz zaj qwi zqn zzr qvq zgk za5 qnr z4j ziu qk1 zco zyn z2o z96 zpn ze0 qx4 z5k qjf qme qtl zsr x0m qx2 zkt zok qk4 qvp zbk zmx z18 z7e zk6 z7r zdv zq5 z4r quj x0o x0e qy3 x1c zbs zyx qql qkn z03 z92 zq1 zsf zzi z3z qlv qoc qtp zmf ztf z3c zxf z4w zz6 zaz qvc qn9 qzq x1e z8x zsw zw7 zqb qvv zq2 za2 znw zbf qz4 qms zy9 qlm zul zk1 x10 qim zvi zkv x2x ql2 x2k qqw qzk zlb zqq qvt zax x2b x0z zbq qve zxm z0i ze9 qke zno zjw zbi z4n qsn zex zf2 qqi z90 zt6 qtb z7v zqa zjz zl9 zwy qpo z9b qj2 qoa zpz zze zm3 zai z3r zqp qvm znc x1v qyl qzm qwu qiu z5h zib zjj zio zar z8g qp1 qis zy7 zmk zq3 qkw zir zm4 qul zrl zhu x2f zgm qjd qpi zd2 zvt x2m zxa qld qum ql6 ztk zzl z9v qz9 zab qnk quz zlc z0d zk8 zen zxd x3g z4k zpm zzz zn9 z1k qif z7z qzl zrp zz3 zv7 ql4 zda zic zel zj7 qvh qwh zup qxc qob qpj zzx zdp z88 zrt qw9 zkl qzh qo0 zat z7i zfe x15 zuj qwp zpg x0x qrl z6r qqf quc qt5 qwz x16 z08 zth zpa zlu qnp qwr qog qlo zhb zb8 z2s qsw zv4 zy0 qvu zu5 zu9 qka zwx x0k qoj z1e zj0 x3y zj5 qp8 zoj qw3 zph qvd zru qid zqt zha zkc z9i zue zng zsu zlq qrv zdg z3e z0v zzy x3d x00 zc3 zoh z09 zms zpb qnv zff qq3 zgv z0e zl5 x44 zla x1z zfg z6b z0r zav qsj qtr zlf ztv qkt zjn qls zvg zde z3p qu7 zka x3e zcx x2l zji zcp zk5 z1c qxh qnu qky zft x0y qse zwn qmt qo3 qvw zs8 qxd zkm zhy x2w qiy zcm x0p qnf z4l ztn zgw zm8 zmr zbg qy6 qks qov qkm z5v qpn qro z1j qrt zvm zpl zqs qrg z8s x1o zwm zy6 zt7 z9w zsb qwb qyv x3z qqu zzm z6n zdj x1m ziq zv8 zg1 fz1 fz2 fz3 fz4 fz5 fz6 fz7 fz8 fz9 zq7 zw2 x01 zjl z3n qxj zpd qw8 qsp z6p x0i qmp zbl zac qu9 qta zj6 qmh x0l zgy zbd zgd zkf qrb zkx qki z10 qts z9s zv0 zmg zrd x0u zii zwp x02 qsh zaf qm0 qwf zr0 qth qu1 zgp zl7 qkf zvn zfr zsc qzr qq6 x3t zxp zq4 qnn zu0 zw3 zek zpw z6k zs2 qvg qpq zmq qof z3i zqu x1u qok zfc qko quf zpu z9f zmp zo4 zij qx7 zcv zql zq6 qk7 zy3 z6j zj8 zu3 zhd qrc zrj x3k qvl zye zb5 zvo zd7 que zfz zlt zie qy8 qkx zxn zm2 qqr z97 z0b ziw zg0 x3p zgj qm8 x1x qu8 z2n z6g zxy z9t zuf qu0 qmc z0o zkd zr1 z4z qp6 zzq zoe qt0 z3t zmd z7m qyj z2x z6m zhj zs1 ztu zl2 zhn qva zmh zfw x12 x0t z9g z8n zhh x3v zi3 qzw zgq zn3 z1d zam qt4 zcr qsi zsz zev qt1 zg4 zmc z3u qpx qoh qyb qrr z8u zd6 qom qtz qrw zvc zkw zfq zc0 zml qu4 ql9 qiz zm5 qrn qsf qmi zh1 zhv qvx qir zpo qqg qxu znp zi9 z0t zrw zsk qzb qwg qxp zzj qpv zm0 qtn z5p x2s zyl zk9 qle zvk qmb qpd qy1 zmn zee zju qxk zrz qvy qnx zv6 z6v qz0 zae qp3 zjb qq9 zvu zto ql8 zfv x2o qw0 zix x2c zrh qup z5e z0u qyc z2d zvb qrq z6s qj5 zoi zea zz2 qji qyk zjf z9j zxc qn1 zsx zvh zj1 qo8 z6i qmj ziz qm5 zn1 z6c qun zqf qzg qr8 x0r zfm qkr qra zob qm9 qwy zlh qlc zlz zq8 z2k zt3 qpe ztq qvf zwf qkc qtk z5j zw1 zcb qjn z4b zct zwe qqn zcc zt8 qnb zr5 quu qv5 z6h qpm z7q qp4 ztl z14 zhi zdc zls qst zlx zo7 qpt z9x zzb qwl qlg z7n z1f qq1 zwj zdk zxz zti qt9 zrb z2r qjg zpy qpf zvw ztp x0f z6x qua z8d qjt qm3 zvy zv3 qoq zp8 ze5 qq7 zj4 ziy zmu qvj ztc zgt qn5 qq8 qur qp7 qj6 qp0 znx zjy qjo zc7 z4e zyh qze zp4 zve zh7 x1r zz4 qjs x3q z15 zf1 ztt zrn zu1 x2d qqj zhp zis qqx qs1 qyp qxv z06 zi2 qwv z2a z4p zro qni zfh zsq qr9 qud x1d znd x1l zmy zwz z5b x33 ztb zv9 qlj qw6 z4t zak zxv qnq zq0 qjh qqy zr2 qv9 zne zn8 zyy zlo zof zcj z6u qjm zbc zt0 z6y z5w zf3 zmz z81 z4c zhq zin zwh qpp zug qzu zly qtt x2g qsu qjx zeo zgu z5z zhw zck qm7 qk0 z5f zfo z9y zxx qo4 qnc zn2 qkg qm4 znu zxe zeh zb9 z8j zit zwc zy4 zuw qs4 zh0 qri ziv zcw qnw zky zdw zmv zuh z3k z5r mf1 mf2 mf3 mf4 mf5 mf6 mf7 mf8 mf9 qwj z7u zwk zdx qyg zn6 x3j zhm zd3 z7o z5s zty qsx zzk z8r qll zsi zzf qo2 zxt zuk zu4 zm1 qo1 zx6 qux zf8 zsj zri qpr zqr zd8 qty zik qno zf7 qjp x1q zey z8p zh8 x17 zui zqg zou zdq x06 zbp qiq zjc qon z6o zg5 z5g z6t zjr z6q zht zxj qyu za9 zc9 zoa zmw zua z7s zx0 qxe qyt z1b qpk z07 zys qqm qrs zjv zh2 zl0 zw0 zcn z5q qye qii zw6 zjg qxn z4s x2i zi8 zw4 zvs zus zfs zil qwq zxk zz8 zmi z6d znr zv1 zxi qie qjq zdd qja qvs z9m zpi zow zq9 qrf z1t z3s zr7 zdi qih z0m z1r qre znf zl3 znq qmv zpe zah za0 qig z3x zby zrr qn3 ztw zay qz3 zww zlk z4h zhr zo0 qnz zrg zkp qsm zop qwk qsq zox qx9 zb0 zc4 zzd qu5 z0x qsc zoo qxl qwa z0z zvr zbe x3o qlq qzx x1s z3m zya z2h x2e ze1 qwd z2t zt1 qxx x2h zd9 zce qyw qmd qxq zaq zxl qsk zi0 qt3 z3y zs7 zbb zg7 zi5 zyb qmn z9n qp2 ze3 x1f qtd zyi zn4 qil zh9 zlw zp2 zm9 zn7 zjd qw4 zqj x18 zjx zw9 zd5 zjk z5m zrq zau qzf zch zgb qr1 zfd z8t qry qpu qpw qij zeq z8k zb7 zdn qpg zyf qus zan za3 qte x1j qjb zrs zvp zy5 z2v qxw zsg zss zc5 zkg qkz zgs qyz z2l zg3 qzy qj9 zi6 qmw qvb z4x qtm zp0 qvr zt4 zpp qr7 zi1 zcl qlp qzd qvo zfp zzs qk6 zd4 zwq zdy zg2 zko zo5 zsv qlf zse z6w qlk x1h zj9 zyp z3j zke zbj zvz z7p qkq qqz zyg znk x36 z02 qvi z5u zkh qk2 zzc zrx zxq qwx zwo zbw zec z1g qoz zz9 zgg qqq zmo ql3 zkz zjt z1i qlh zxo qnm qn7 zhz zyd zei z7a qww z7x qt6 x0s qwc qor zs3 qk8 zjs zh5 zn5 x3u qmz zeg zyc z5l qw7 x1g zif zxh z5c zr4 qla qrh qys zog z7t zaa x2t zqx qq4 qu6 zbx qzn qs3 zny zhg z8y qox qv2 quw zh3 zja zza zwa zxb zpx x2n qqb qqd zpt zsn zfi qlu qxa qjj zo8 qto qpy zxr x2z zes qvn qqt z0a x0g zte qso quv qlt z5a qr5 qu2 zt2 x1i qph qy9 z2w z8o qnj x2u zef zc8 z9r qrd x3m zy2 x07 z0q qow z1p qz6 zz1 z3w z9o x0c qs9 qy7 zzo znz x1w zma qxi x0q quk z5d z8l qr2 qws qo9 qx8 qxm z1m zyo zo9 qwe z6l zvq zqv zts qyh qss x1y qv3 z4d zyz zvj zvv z1n zwv zfl qq0 zwu zep zz5 qlb znj qne zgc qt7 z9h qvz qik zvf qsz qyr qpz z5n zer qzz z3a z7j ti3 ti4 ti5 ti9 zbv zz0 zx4 zyt z9u zg9 qzo qqc qym zga z0j zre z4i z3d zu8 ze6
set_option maxHeartbeats 4000000
def qd0 (ss : (List Bytes)) : ((Bool) ⊕ (Unit)) → Ex × St
 | .inl y => (Ex.ret,⟨[(4,v_b y)],[(0,Blk.row false 1 (List.map zn ss))],1⟩)
 | .inr y => (Ex.normal,⟨[(4,AV.undef)],[(0,Blk.row false 1 (List.map zn ss))],1⟩)
attribute [local go_sem] qd0
theorem z2u : ∀ p r,q3h p = some r → O.loop 16 0 ⟨[(0,v_i p.1),(1,v_r 0 p.2.2),(5,v_i p.2.1)],[(0,Blk.row false 1 (List.map zn p.2.2))],1⟩ = some (qd0 p.2.2 r) := by
 refine q3h.partial_correctness _ ?_
 rintro q3h ih5 ⟨n,i,ss⟩ r; dsimp only
 apply it <;> intro h1
 ·refine bw zn fun x3 h2 f1 f2 f3 => ?_
  apply it <;> intro h4
  ·rintro ⟨⟩
   clear ih5; exact fL q7q
  intro h; have f4 := ih5 _ _ h; clear h
  try simp only [en.down] at f4
  clear ih5; exact fL q7q
 rintro ⟨⟩
 clear ih5; exact fL q7q
theorem zlg {n r_ r} (h : q7m n r_ = some r) : O.call 16 [v_i n,v_r 0 r_] [(0,Blk.row false 1 (List.map zn r_))] = some (v_b r,[(0,Blk.row false 1 (List.map zn r_))]) := by
 revert h; unfold q7m
 refine bs fun v2 h1 => ?_
 have f1 := z2u _ _ h1
 try simp only [en.down] at f1
 rcases v2 with y3 | y4
 ·dsimp only
  rintro ⟨⟩
  exact fF q7q
 dsimp only
 rintro ⟨⟩
 exact fF q7q
def qeb : ((Bool) ⊕ (Unit)) → Ex × St
 | .inl y => (Ex.ret,⟨[(6,v_b y)],[],0⟩)
 | .inr y => (Ex.normal,⟨[(6,AV.undef)],[],0⟩)
attribute [local go_sem] qeb
theorem qz8 : ∀ p r,q0f p = some r → O.loop 17 0 ⟨[(1,v_i p.1),(2,v_l 3 T.qb.enc p.2.1),(7,v_i p.2.2)],[],0⟩ = some (qeb r) := by
 refine q0f.partial_correctness _ ?_
 rintro q0f ih7 ⟨n,es,i⟩ r; dsimp only
 apply it <;> intro h1
 ·refine bg T.qb.enc fun x3 h2 f1 f2 f3 => ?_
  apply it <;> intro h4
  ·rintro ⟨⟩
   clear ih7; exact fL q68
  intro h; have f4 := ih7 _ _ h; clear h
  try simp only [en.down] at f4
  clear ih7; exact fL q68
 rintro ⟨⟩
 clear ih7; exact fL q68
theorem zhe {many n es r} (h : q6f many n es = some r) : O.call 17 [v_i many,v_i n,v_l 3 T.qb.enc es] [] = some (v_b r,[]) := by
 revert h; unfold q6f
 apply it <;> intro h1
 ·rintro ⟨⟩
  exact fF q68
 refine bs fun v3 h2 => ?_
 have f1 := qz8 _ _ h2
 try simp only [en.down] at f1
 rcases v3 with y4 | y5
 ·dsimp only
  rintro ⟨⟩
  exact fF q68
 dsimp only
 rintro ⟨⟩
 exact fF q68
theorem zst : ∀ p r,q2r p = some r → O.loop 6 2 ⟨[(1,v_i p.1),(2,v_l 7 T.Op.enc p.2.1),(7,v_i p.2.2.1),(8,v_i p.2.2.2.1)],[(0,Blk.row false 1 (List.map zn p.2.2.2.2))],1⟩ = some (Ex.normal,⟨[(1,v_i r),(2,v_l 7 T.Op.enc p.2.1),(7,v_i p.2.2.1)],[(0,Blk.row false 1 (List.map zn p.2.2.2.2))],1⟩) := by
 refine q2r.partial_correctness _ ?_
 rintro q2r ih8 ⟨n,os,i,k,r0_⟩ r; dsimp only
 refine bg T.Op.enc fun x2 h1 f1 f2 f3 => ?_
 apply it <;> intro h3
 ·refine bg T.qb.enc fun x5 h4 f4 f5 f6 => ?_
  intro h; have f7 := ih8 _ _ h; clear h
  try simp only [en.down] at f7
  clear ih8; exact fL fn6
 rintro ⟨⟩
 clear ih8; exact fL fn6
def qhw : ((Bool) ⊕ (Unit)) → Ex × St
 | .inl y => (Ex.ret,⟨[(6,v_b y)],[],0⟩)
 | .inr y => (Ex.normal,⟨[(6,AV.undef)],[],0⟩)
attribute [local go_sem] qhw
theorem qm2 : ∀ p r,q3o p = some r → O.loop 6 0 ⟨[(1,v_i p.1),(2,v_l 7 T.Op.enc p.2.1),(7,v_i p.2.2)],[],0⟩ = some (qhw r) := by
 refine q3o.partial_correctness _ ?_
 rintro q3o ih3 ⟨n,os,i⟩ r; dsimp only
 apply it <;> intro h1
 ·refine bg T.Op.enc fun x3 h2 f1 f2 f3 => ?_
  refine bs fun v5 h4 => ?_
  have f4 := zlg h4
  try simp only [en.down,Nat.reduceAdd] at f4
  apply it <;> intro h6
  ·try simp only [h6] at f4
   rintro ⟨⟩
   clear ih3; exact fL fn6
  apply it <;> intro h7
  ·try simp only [h6] at f4
   rintro ⟨⟩
   clear ih3; exact fL fn6
  apply it <;> intro h8
  ·try simp only [h6] at f4
   rintro ⟨⟩
   clear ih3; exact fL fn6
  refine bs fun v10 h9 => ?_
  have f5 := zhe h9
  try simp only [en.down] at f5
  apply it <;> intro h11
  ·try simp only [h6,h11] at f4 f5
   rintro ⟨⟩
   clear ih3; exact fL fn6
  refine bs fun v13 h12 => ?_
  have f6 := zst _ _ h12
  try simp only [en.down,Nat.reduceAdd] at f6
  apply it <;> intro h14
  ·try simp only [h6,h11] at f4 f5 f6
   rintro ⟨⟩
   clear ih3; exact fL fn6
  try simp only [h6,h11] at f4 f5 f6
  intro h; have f7 := ih3 _ _ h; clear h
  try simp only [en.down] at f7
  try simp only [h6,h11] at f7
  clear ih3; exact fL fn6
 rintro ⟨⟩
 clear ih3; exact fL fn6
theorem qn2 {many n os r} (h : q79 many n os = some r) : O.call 6 [v_i many,v_i n,v_l 7 T.Op.enc os] [] = some (v_b r,[]) := by
 revert h; unfold q79
 apply it <;> intro h1
 ·rintro ⟨⟩
  exact fF fn6
 refine bs fun v3 h2 => ?_
 have f1 := qm2 _ _ h2
 try simp only [en.down] at f1
 rcases v3 with y4 | y5
 ·dsimp only
  rintro ⟨⟩
  exact fF fn6
 dsimp only
 rintro ⟨⟩
 exact fF fn6
theorem qgg {x n r} (h : q62 x n = some r) : O.call 13 [v_i x,v_i n] [] = some (v_i r,[]) := by
 revert h; unfold q62
 refine gd fun h1 => ?_
 have f1 := eq_false h1
 rintro ⟨⟩
 exact fF qm1
theorem zcg : ∀ p r,q30 p = some r → O.loop 8 3 ⟨[(0,v_l 7 T.Op.enc p.1),(3,v_r 0 p.2.2.2.1),(4,v_i p.2.1),(5,AV.ptr 1 0),(6,v_i p.2.2.1)],[(0,b_r 7 T.Op.enc p.2.2.2.1),(1,Blk.box [v_i p.2.2.2.2.1,v_s p.2.2.2.2.2.1,v_s p.2.2.2.2.2.2.1,v_i p.2.2.2.2.2.2.2.1,v_b p.2.2.2.2.2.2.2.2.1,v_r 2 p.2.2.2.2.2.2.2.2.2.2,v_l 2 T.Sel.enc p.2.2.2.2.2.2.2.2.2.1]),(2,b_r 3 T.qb.enc p.2.2.2.2.2.2.2.2.2.2)],3⟩ = some (Ex.normal,⟨[(0,v_l 7 T.Op.enc p.1),(3,v_r 0 p.2.2.2.1),(4,v_i p.2.1),(5,AV.ptr 1 0)],[(0,b_r 7 T.Op.enc p.2.2.2.1),(1,Blk.box [v_i p.2.2.2.2.1,v_s p.2.2.2.2.2.1,v_s p.2.2.2.2.2.2.1,v_i p.2.2.2.2.2.2.2.1,v_b p.2.2.2.2.2.2.2.2.1,v_r 2 r,v_l 2 T.Sel.enc p.2.2.2.2.2.2.2.2.2.1]),(2,b_r 3 T.qb.enc r)],3⟩) := by
 refine q30.partial_correctness _ ?_
 rintro q30 ih12 ⟨os,i,k,out,o,o2,o3,o4,o5,o6,r2_⟩ r; dsimp only
 refine bg T.Op.enc fun x2 h1 f1 f2 f3 => ?_
 apply it <;> intro h3
 ·refine bg T.qb.enc fun x5 h4 f4 f5 f6 => ?_
  have f7 : ((1000000000000000000 : Int) = 0) = False := by decide
  refine gd fun h6 => ?_
  have f8 := rG 3 T.qb.enc r2_
  have f9 : List.map T.qb.enc r2_ ++ [[PV.int IntKind.i64 (x5.span.frm.tmod (1000000000000000000 : Int)),PV.int IntKind.i64 (x5.span.to.tmod (1000000000000000000 : Int)),PV.str x5.text]] = List.map T.qb.enc (r2_ ++ [(T.qb.mk (T.Span.mk (x5.span.frm.tmod (1000000000000000000 : Int)) (x5.span.to.tmod (1000000000000000000 : Int))) x5.text)]) := by simp only [List.map_append,List.map_cons,List.map_nil,kr,w9,kv,T.qb.qd] <;> rfl
  intro h; have f10 := ih12 _ _ h; clear h
  try simp only [en.down] at f10
  clear ih12; exact fL fn8
 rintro ⟨⟩
 clear ih12; exact fL fn8
theorem x0h : ∀ p r,q35 p = some r → O.loop 8 5 ⟨[(0,v_l 7 T.Op.enc p.1),(3,v_r 0 p.2.2.2.1),(4,v_i p.2.1),(5,AV.ptr 1 0),(8,v_i p.2.2.1)],[(0,b_r 7 T.Op.enc p.2.2.2.1),(1,Blk.box [v_i p.2.2.2.2.1,v_s p.2.2.2.2.2.1,v_s p.2.2.2.2.2.2.1,v_i p.2.2.2.2.2.2.2.1,v_b p.2.2.2.2.2.2.2.2.1,v_l 3 T.qb.enc p.2.2.2.2.2.2.2.2.2.1,v_r 2 p.2.2.2.2.2.2.2.2.2.2]),(2,b_r 2 T.Sel.enc p.2.2.2.2.2.2.2.2.2.2)],3⟩ = some (Ex.normal,⟨[(0,v_l 7 T.Op.enc p.1),(3,v_r 0 p.2.2.2.1),(4,v_i p.2.1),(5,AV.ptr 1 0)],[(0,b_r 7 T.Op.enc p.2.2.2.1),(1,Blk.box [v_i p.2.2.2.2.1,v_s p.2.2.2.2.2.1,v_s p.2.2.2.2.2.2.1,v_i p.2.2.2.2.2.2.2.1,v_b p.2.2.2.2.2.2.2.2.1,v_l 3 T.qb.enc p.2.2.2.2.2.2.2.2.2.1,v_r 2 r]),(2,b_r 2 T.Sel.enc r)],3⟩) := by
 refine q35.partial_correctness _ ?_
 rintro q35 ih13 ⟨os,i,k,out,o,o2,o3,o4,o5,o6,r2_⟩ r; dsimp only
 refine bg T.Op.enc fun x2 h1 f1 f2 f3 => ?_
 apply it <;> intro h3
 ·refine bg T.Sel.enc fun x5 h4 f4 f5 f6 => ?_
  have f7 : ((1000000000000000000 : Int) = 0) = False := by decide
  refine gd fun h6 => ?_
  have f8 := rG 2 T.Sel.enc r2_
  have f9 : List.map T.Sel.enc r2_ ++ [[PV.int IntKind.i64 (x5.anchor.tmod (1000000000000000000 : Int)),PV.int IntKind.i64 (x5.head.tmod (1000000000000000000 : Int))]] = List.map T.Sel.enc (r2_ ++ [(T.Sel.mk (x5.anchor.tmod (1000000000000000000 : Int)) (x5.head.tmod (1000000000000000000 : Int)))]) := by simp only [List.map_append,List.map_cons,List.map_nil,kr,w9,kv,T.Sel.qd] <;> rfl
  intro h; have f10 := ih13 _ _ h; clear h
  try simp only [en.down] at f10
  clear ih13; exact fL fn8
 rintro ⟨⟩
 clear ih13; exact fL fn8
theorem x3f : ∀ p r,uh p = some r → O.loop 8 0 ⟨[(0,v_l 7 T.Op.enc p.1),(3,v_r 0 p.2.2),(4,v_i p.2.1)],[(0,b_r 7 T.Op.enc p.2.2)],1⟩ = some (Ex.normal,⟨[(3,v_r 0 r)],[(0,b_r 7 T.Op.enc r)],1⟩) := by
 refine uh.partial_correctness _ ?_
 rintro uh ih10 ⟨os,i,out⟩ r; dsimp only
 apply it <;> intro h1
 ·refine bg T.Op.enc fun x3 h2 f1 f2 f3 => ?_
  refine bs fun v5 h4 => ?_
  have f4 := qgg h4
  try simp only [en.down] at f4
  apply it <;> intro h6
  ·refine gd fun h7 => ?_
   have f5 := rG 7 T.Op.enc out
   have f6 : List.map T.Op.enc out ++ [[PV.int IntKind.i64 (IntKind.i64.wrap ((1 : Int) + v5)),PV.str x3.name,PV.str x3.text,PV.int IntKind.i64 (0 : Int),PV.bool false,PV.sl true 0 [],PV.sl true 0 []]] = List.map T.Op.enc (out ++ [(T.Op.mk (IntKind.i64.wrap ((1 : Int) + v5)) x3.name x3.text (0 : Int) false (⟨true,[]⟩ : (Sl T.qb)) (⟨true,[]⟩ : (Sl T.Sel)))]) := by simp only [List.map_append,List.map_cons,List.map_nil,kr,w9,kv,T.Op.qd] <;> rfl
   intro h; have f7 := ih10 _ _ h; clear h
   try simp only [en.down] at f7
   clear ih10; exact fL fn8
  refine q94 ?_ (fun h8 h10 => ?_)
  ·rintro (⟨h8,h10⟩ | ⟨h8,h10⟩)
   all_goals
   refine gd fun h9 => ?_
   have f8 := rG 7 T.Op.enc out
   have f9 : List.map T.Op.enc out ++ [[PV.int IntKind.i64 (IntKind.i64.wrap ((1 : Int) + v5)),PV.str ([] : Bytes),PV.str x3.text,PV.int IntKind.i64 (0 : Int),PV.bool false,PV.sl true 0 [],PV.sl true 0 []]] = List.map T.Op.enc (out ++ [(T.Op.mk (IntKind.i64.wrap ((1 : Int) + v5)) ([] : Bytes) x3.text (0 : Int) false (⟨true,[]⟩ : (Sl T.qb)) (⟨true,[]⟩ : (Sl T.Sel)))]) := by simp only [List.map_append,List.map_cons,List.map_nil,kr,w9,kv,T.Op.qd] <;> rfl
   intro h; have f10 := ih10 _ _ h; clear h
   try simp only [en.down] at f10
   clear ih10; exact fL fn8
  refine q94 ?_ (fun h12 h14 => ?_)
  ·rintro (⟨h12,h14⟩ | ⟨h12,h14⟩)
   all_goals
   have f11 : ((1000000000000000000 : Int) = 0) = False := by decide
   refine gd fun h13 => ?_
   have f12 := rG 7 T.Op.enc out
   have f13 : List.map T.Op.enc out ++ [[PV.int IntKind.i64 (IntKind.i64.wrap ((1 : Int) + v5)),PV.str ([] : Bytes),PV.str ([] : Bytes),PV.int IntKind.i64 (x3.n.tmod (1000000000000000000 : Int)),PV.bool false,PV.sl true 0 [],PV.sl true 0 []]] = List.map T.Op.enc (out ++ [(T.Op.mk (IntKind.i64.wrap ((1 : Int) + v5)) ([] : Bytes) ([] : Bytes) (x3.n.tmod (1000000000000000000 : Int)) false (⟨true,[]⟩ : (Sl T.qb)) (⟨true,[]⟩ : (Sl T.Sel)))]) := by simp only [List.map_append,List.map_cons,List.map_nil,kr,w9,kv,T.Op.qd] <;> rfl
   intro h; have f14 := ih10 _ _ h; clear h
   try simp only [en.down] at f14
   clear ih10; exact fL fn8
  apply it <;> intro h16
  ·have f15 : ((1000000000000000000 : Int) = 0) = False := by decide
   refine gd fun h17 => ?_
   have f16 := rG 7 T.Op.enc out
   have f17 : List.map T.Op.enc out ++ [[PV.int IntKind.i64 (IntKind.i64.wrap ((1 : Int) + v5)),PV.str ([] : Bytes),PV.str ([] : Bytes),PV.int IntKind.i64 (x3.n.tmod (1000000000000000000 : Int)),PV.bool x3.extend,PV.sl true 0 [],PV.sl true 0 []]] = List.map T.Op.enc (out ++ [(T.Op.mk (IntKind.i64.wrap ((1 : Int) + v5)) ([] : Bytes) ([] : Bytes) (x3.n.tmod (1000000000000000000 : Int)) x3.extend (⟨true,[]⟩ : (Sl T.qb)) (⟨true,[]⟩ : (Sl T.Sel)))]) := by simp only [List.map_append,List.map_cons,List.map_nil,kr,w9,kv,T.Op.qd] <;> rfl
   intro h; have f18 := ih10 _ _ h; clear h
   try simp only [en.down] at f18
   clear ih10; exact fL fn8
  apply it <;> intro h18
  ·refine bs fun v20 h19 => ?_
   have f19 := zcg _ _ h19
   try simp only [en.down] at f19
   refine gd fun h21 => ?_
   have f20 := rG 7 T.Op.enc out
   have f21 : List.map T.Op.enc out ++ [[PV.int IntKind.i64 (IntKind.i64.wrap ((1 : Int) + v5)),PV.str ([] : Bytes),PV.str ([] : Bytes),PV.int IntKind.i64 (0 : Int),PV.bool false,PV.sl v20.isEmpty (szc 3 v20) (List.map T.qb.enc v20),PV.sl true 0 []]] = List.map T.Op.enc (out ++ [(T.Op.mk (IntKind.i64.wrap ((1 : Int) + v5)) ([] : Bytes) ([] : Bytes) (0 : Int) false (⟨v20.isEmpty,v20⟩ : (Sl T.qb)) (⟨true,([] : List T.Sel)⟩ : (Sl T.Sel)))]) := by simp only [List.map_append,List.map_cons,List.map_nil,kr,w9,kv,T.Op.qd] <;> rfl
   intro h; have f22 := ih10 _ _ h; clear h
   try simp only [en.down] at f22
   clear ih10; exact fL fn8
  apply it <;> intro h22
  ·refine bs fun v24 h23 => ?_
   have f23 := x0h _ _ h23
   try simp only [en.down] at f23
   refine gd fun h25 => ?_
   have f24 := rG 7 T.Op.enc out
   have f25 : List.map T.Op.enc out ++ [[PV.int IntKind.i64 (IntKind.i64.wrap ((1 : Int) + v5)),PV.str ([] : Bytes),PV.str ([] : Bytes),PV.int IntKind.i64 (0 : Int),PV.bool false,PV.sl true 0 [],PV.sl v24.isEmpty (szc 2 v24) (List.map T.Sel.enc v24)]] = List.map T.Op.enc (out ++ [(T.Op.mk (IntKind.i64.wrap ((1 : Int) + v5)) ([] : Bytes) ([] : Bytes) (0 : Int) false (⟨true,([] : List T.qb)⟩ : (Sl T.qb)) (⟨v24.isEmpty,v24⟩ : (Sl T.Sel)))]) := by simp only [List.map_append,List.map_cons,List.map_nil,kr,w9,kv,T.Op.qd] <;> rfl
   intro h; have f26 := ih10 _ _ h; clear h
   try simp only [en.down] at f26
   clear ih10; exact fL fn8
  refine gd fun h26 => ?_
  have f27 := rG 7 T.Op.enc out
  have f28 : List.map T.Op.enc out ++ [[PV.int IntKind.i64 (IntKind.i64.wrap ((1 : Int) + v5)),PV.str ([] : Bytes),PV.str ([] : Bytes),PV.int IntKind.i64 (0 : Int),PV.bool false,PV.sl true 0 [],PV.sl true 0 []]] = List.map T.Op.enc (out ++ [(T.Op.mk (IntKind.i64.wrap ((1 : Int) + v5)) ([] : Bytes) ([] : Bytes) (0 : Int) false (⟨true,[]⟩ : (Sl T.qb)) (⟨true,[]⟩ : (Sl T.Sel)))]) := by simp only [List.map_append,List.map_cons,List.map_nil,kr,w9,kv,T.Op.qd] <;> rfl
  intro h; have f29 := ih10 _ _ h; clear h
  try simp only [en.down] at f29
  clear ih10; exact fL fn8
 rintro ⟨⟩
 clear ih10; exact fL fn8
theorem zhk {os r} (h : q6h os = some r) : O.call 8 [v_l 7 T.Op.enc os] [] = some (v_l 7 T.Op.enc r,[]) := by
 revert h; unfold q6h
 refine bs fun v2 h1 => ?_
 have f1 := x3f _ _ h1
 try simp only [en.down] at f1
 rintro ⟨⟩
 exact fF fn8
theorem mf {n r} (h : yc n = some r) : O.call 19 [v_i n] [] = some (v_s r,[]) := by
 revert h; unfold yc
 refine bs fun v2 h1 => ?_
 have f1 := qjc h1
 try simp only [en.down] at f1
 refine gd fun h3 => ?_
 have f2 : (1 + v2.length ≤ 2 ^ 62) = True := eq_true h3
 rintro ⟨⟩
 exact fF qoi
theorem zf5 : ∀ p r,q3f p = some r → O.loop 9 0 ⟨[(1,v_l 7 T.Op.enc p.1),(6,v_r 0 p.2.2.2.2),(15,v_l 1 (kE IntKind.u32) p.2.1),(16,v_i p.2.2.1),(17,v_i p.2.2.2.1)],[(0,Blk.row false 1 (List.map z8 p.2.2.2.2))],1⟩ = some (Ex.normal,⟨[(1,v_l 7 T.Op.enc p.1),(6,v_r 0 r)],[(0,Blk.row false 1 (List.map z8 r))],1⟩) := by
 refine q3f.partial_correctness _ ?_
 rintro q3f ih15 ⟨os,t15,t16,t17,out⟩ r; dsimp only
 apply it <;> intro h1
 ·refine bg (kE IntKind.u32) fun x3 h2 f1 f2 f3 => ?_
  refine bs fun v5 h4 => ?_
  have f4 := mf h4
  try simp only [en.down] at f4
  refine gd fun h6 => ?_
  have f5 : List.map z8 out ++ List.map z8 v5 = List.map z8 (out ++ v5) := qhl _ _ _
  intro h; have f6 := ih15 _ _ h; clear h
  try simp only [en.down] at f6
  clear ih15; exact fL fn9
 rintro ⟨⟩
 clear ih15; exact fL fn9
def qd3 : ((Bool) ⊕ (Unit)) → Ex × St
 | .inl y => (Ex.ret,⟨[(2,v_b y)],[],0⟩)
 | .inr y => (Ex.normal,⟨[(2,AV.undef)],[],0⟩)
attribute [local go_sem] qd3
theorem z9p : ∀ p r,ng p = some r → O.loop 33 0 ⟨[(5,v_l 1 yn p.1),(6,v_i p.2.1),(7,v_i p.2.2)],[],0⟩ = some (qd3 r) := by
 refine ng.partial_correctness _ ?_
 rintro ng ih21 ⟨t5,t6,t7⟩ r; dsimp only
 apply it <;> intro h1
 ·refine bg yn fun x3 h2 f1 f2 f3 => ?_
  refine q94 ?_ (fun h4 h5 => ?_)
  ·rintro (⟨h4,h5⟩ | ⟨h4,h5⟩)
   all_goals
   rintro ⟨⟩
   clear ih21; exact fL q7f
  intro h; have f4 := ih21 _ _ h; clear h
  try simp only [en.down] at f4
  clear ih21; exact fL q7f
 rintro ⟨⟩
 clear ih21; exact fL q7f
theorem qai {ns r} (h : q2f ns = some r) : O.call 33 [v_l 1 yn ns] [] = some (v_b r,[]) := by
 revert h; unfold q2f
 refine bs fun v2 h1 => ?_
 have f1 := z9p _ _ h1
 try simp only [en.down] at f1
 rcases v2 with y3 | y4
 ·dsimp only
  rintro ⟨⟩
  exact fF q7f
 dsimp only
 rintro ⟨⟩
 exact fF q7f
theorem q5j {s r} (h : q18 s = some r) : O.call 34 [v_s s] [] = some (v_s r,[]) := by
 revert h; unfold q18
 refine bs fun v2 h1 => ?_
 have f1 := mf h1
 try simp only [en.down] at f1
 refine gd fun h3 => ?_
 have f2 : (v2.length + 1 ≤ 2 ^ 62) = True := eq_true h3
 refine gd fun h4 => ?_
 have f3 := eq_true h4
 try simp only [en.down] at f3
 rintro ⟨⟩
 exact fF zbm
theorem pq {o r} (h : yh o = some r) : O.call 36 [v_g (T.Op.enc o)] [] = some (v_b r,[]) := by
 revert h; unfold yh
 refine zdf (fun h1 h2 h3 h4 h5 => ?_) ?_
 ·rintro ⟨⟩
  exact fF qh2
 rintro (⟨h1,h2,h3,h4,h5⟩ | ⟨h1,h2,h3,h4,h5⟩ | ⟨h1,h2,h3,h4,h5⟩ | ⟨h1,h2,h3,h4,h5⟩ | ⟨h1,h2,h3,h4,h5⟩)
 all_goals
 rintro ⟨⟩
 exact fF qh2
theorem qjy : ∀ p r,q21 p = some r → O.loop 20 1 ⟨[(4,AV.ptr 1 0),(5,v_s p.1),(6,v_b p.2.1),(82,v_l 3 T.qb.enc p.2.2.1),(83,v_i p.2.2.2.1),(84,v_i p.2.2.2.2.1)],[(0,b_x (T.Op.enc p.2.2.2.2.2.1)),(1,b_x (T.Op.enc p.2.2.2.2.2.2)),(2,Blk.dead)],3⟩ = some (Ex.normal,⟨[(4,AV.ptr 1 0),(5,v_s r.1),(6,v_b r.2)],[(0,b_x (T.Op.enc p.2.2.2.2.2.1)),(1,b_x (T.Op.enc p.2.2.2.2.2.2)),(2,Blk.dead)],3⟩) := by
 refine q21.partial_correctness _ ?_
 rintro q21 ih24 ⟨out,ok_,t82,t83,t84,b0_,rest⟩ r; dsimp only
 apply it <;> intro h1
 ·refine bg T.qb.enc fun x3 h2 f1 f2 f3 => ?_
  apply it <;> intro h4
  ·refine bs fun v6 h5 => ?_
   have f4 := qai h5
   try simp only [en.down] at f4
   refine bs fun v8 h7 => ?_
   have f5 := mf h7
   try simp only [en.down] at f5
   refine bs fun v10 h9 => ?_
   have f6 := mf h9
   try simp only [en.down] at f6
   refine gd fun h11 => ?_
   have f7 := eq_true h11
   try simp only [en.down] at f7
   refine bs fun v13 h12 => ?_
   have f8 := q5j h12
   try simp only [en.down] at f8
   refine gd fun h14 => ?_
   have f9 := eq_true h14
   try simp only [en.down] at f9
   refine gd fun h15 => ?_
   have f10 := eq_true h15
   try simp only [en.down] at f10
   try simp only [h4] at f4 f5 f6 f8
   intro h; have f11 := ih24 _ _ h; clear h
   try simp only [en.down] at f11
   try simp only [h4] at f11
   clear ih24; exact fL zy
  refine bs fun v17 h16 => ?_
  have f12 := mf h16
  try simp only [en.down] at f12
  refine bs fun v19 h18 => ?_
  have f13 := mf h18
  try simp only [en.down] at f13
  refine gd fun h20 => ?_
  have f14 := eq_true h20
  try simp only [en.down] at f14
  refine bs fun v22 h21 => ?_
  have f15 := q5j h21
  try simp only [en.down] at f15
  refine gd fun h23 => ?_
  have f16 := eq_true h23
  try simp only [en.down] at f16
  refine gd fun h24 => ?_
  have f17 := eq_true h24
  try simp only [en.down] at f17
  try simp only [h4] at f12 f13 f15
  intro h; have f18 := ih24 _ _ h; clear h
  try simp only [en.down] at f18
  try simp only [h4] at f18
  clear ih24; exact fL zy
 rintro ⟨⟩
 clear ih24; exact fL zy
theorem z0p : ∀ p r,q2l p = some r → O.loop 20 3 ⟨[(4,AV.ptr 1 0),(5,v_s p.1),(6,v_b p.2.1),(119,v_l 2 T.Sel.enc p.2.2.1),(120,v_i p.2.2.2.1),(121,v_i p.2.2.2.2.1)],[(0,b_x (T.Op.enc p.2.2.2.2.2.1)),(1,b_x (T.Op.enc p.2.2.2.2.2.2)),(2,Blk.dead)],3⟩ = some (Ex.normal,⟨[(4,AV.ptr 1 0),(5,v_s r.1),(6,v_b r.2)],[(0,b_x (T.Op.enc p.2.2.2.2.2.1)),(1,b_x (T.Op.enc p.2.2.2.2.2.2)),(2,Blk.dead)],3⟩) := by
 refine q2l.partial_correctness _ ?_
 rintro q2l ih25 ⟨out,ok_,t119,t120,t121,b0_,rest⟩ r; dsimp only
 apply it <;> intro h1
 ·refine bg T.Sel.enc fun x3 h2 f1 f2 f3 => ?_
  apply it <;> intro h4
  ·refine bs fun v6 h5 => ?_
   have f4 := qai h5
   try simp only [en.down] at f4
   refine bs fun v8 h7 => ?_
   have f5 := mf h7
   try simp only [en.down] at f5
   refine bs fun v10 h9 => ?_
   have f6 := mf h9
   try simp only [en.down] at f6
   refine gd fun h11 => ?_
   have f7 := eq_true h11
   try simp only [en.down] at f7
   refine gd fun h12 => ?_
   have f8 := eq_true h12
   try simp only [en.down] at f8
   try simp only [h4] at f4 f5 f6
   intro h; have f9 := ih25 _ _ h; clear h
   try simp only [en.down] at f9
   try simp only [h4] at f9
   clear ih25; exact fL zy
  refine bs fun v14 h13 => ?_
  have f10 := mf h13
  try simp only [en.down] at f10
  refine bs fun v16 h15 => ?_
  have f11 := mf h15
  try simp only [en.down] at f11
  refine gd fun h17 => ?_
  have f12 := eq_true h17
  try simp only [en.down] at f12
  refine gd fun h18 => ?_
  have f13 := eq_true h18
  try simp only [en.down] at f13
  try simp only [h4] at f10 f11
  intro h; have f14 := ih25 _ _ h; clear h
  try simp only [en.down] at f14
  try simp only [h4] at f14
  clear ih25; exact fL zy
 rintro ⟨⟩
 clear ih25; exact fL zy
theorem qcu {word r} (h : mo word = some r) : O.call 43 [v_s word] [] = some (v_i r,[]) := by
 revert h; unfold mo
 apply it <;> intro h1
 ·rintro ⟨⟩
  exact fF q54
 apply it <;> intro h2
 ·rintro ⟨⟩
  exact fF q54
 apply it <;> intro h3
 ·rintro ⟨⟩
  exact fF q54
 apply it <;> intro h4
 ·rintro ⟨⟩
  exact fF q54
 apply it <;> intro h5
 ·rintro ⟨⟩
  exact fF q54
 rintro ⟨⟩
 exact fF q54
def qgc (t5 : (List Bytes)) : ((Bytes) ⊕ (Unit)) → Ex × St
 | .inl y => (Ex.ret,⟨[(2,v_s y)],[(0,Blk.row false 1 (List.map zn t5))],1⟩)
 | .inr y => (Ex.normal,⟨[(2,AV.undef)],[(0,Blk.row false 1 (List.map zn t5))],1⟩)
attribute [local go_sem] qgc
theorem za4 : ∀ p r,q43 p = some r → O.loop 35 0 ⟨[(0,v_i p.1),(5,v_r 0 p.2.2.2),(6,v_i p.2.1),(7,v_i p.2.2.1)],[(0,Blk.row false 1 (List.map zn p.2.2.2))],1⟩ = some (qgc p.2.2.2 r) := by
 refine q43.partial_correctness _ ?_
 rintro q43 ih27 ⟨kind,t6,t7,t5⟩ r; dsimp only
 apply it <;> intro h1
 ·refine bw zn fun x3 h2 f1 f2 f3 => ?_
  refine bs fun v5 h4 => ?_
  have f4 := qcu h4
  try simp only [en.down] at f4
  apply it <;> intro h6
  ·rintro ⟨⟩
   clear ih27; exact fL q7p
  intro h; have f5 := ih27 _ _ h; clear h
  try simp only [en.down] at f5
  clear ih27; exact fL q7p
 rintro ⟨⟩
 clear ih27; exact fL q7p
theorem znl {kind r} (h : q75 kind = some r) : O.call 35 [v_i kind] [] = some (v_s r,[]) := by
 revert h; unfold q75
 refine bs fun v2 h1 => ?_
 have f1 := za4 _ _ h1
 try simp only [en.down,Nat.reduceAdd,UInt8.reduceToNat] at f1
 rcases v2 with y3 | y4
 ·dsimp only
  rintro ⟨⟩
  exact fF q7p
 dsimp only
 rintro ⟨⟩
 exact fF q7p
end Go.Proofs.YtaglodpkpggdiaaGreatDoor
