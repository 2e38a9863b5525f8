/-
  What the machine's calls come to: the plain functions.
-/
import Derived.Test.YtlapkkdodjhgpaaGreatDoorTag
import Derived.Test.YtlapkkdodjhgpaaGreatDoorTah
import Derived.Test.YtlapkkdodjhgpaaGreatDoorTai
set_option linter.unusedSimpArgs false
set_option linter.unusedVariables false
set_option maxRecDepth 100000
namespace Go.Proofs.YtlapkkdodjhgpaaGreatDoor
open Go Go.Gm
attribute [go_sem] needs aop q6h mr List.toList_toArray q63 q5f gz List.take List.drop List.length_cons List.length_nil List.length_map q1b AV.q2h List.append q6n List.getElem?_cons_zero List.getElem?_cons_succ AV.refs AV.ren AV.rows if_true if_false List.nil_append List.append_nil List.cons_append q1p unz q0m q14 q1t qbi List.getElem?_nil touched List.isEmpty_nil Option.some.injEq aUn q31 PV.cells List.replicate List.set_cons_zero List.set_cons_succ q13 q7f ja eq_self AV.thaw Blk.thaw q0h q56 aEq qm q3d List.headD_cons zf q5b q2t q4o Blk.ren Blk.refs List.flatMap_nil List.flatMap_cons q3w qd3 q1d List.map_cons List.map_nil List.drop_zero Option.isSome_none Option.isNone_none Option.isSome_some Option.isNone_some q2v.eq_def zl5 refsOf qu9 z9p qk7 zjw z6k zl4 qip qgk qqu zo4 z7w zvw z5c zej zqm qs7 zie zqk znl qen qwy zu0 zm.eq_1 zm.eq_2 q0u.eq_1 q0u.eq_2 q0u.eq_3 q0u.eq_4 quj ztn qh1 qvu zv2 freezes.eq_1 freezes.eq_2 ev.eq_1 ev.eq_2 ev.eq_3 ev.eq_4 Env.get.eq_1 Env.get.eq_2 xu.eq_1 xu.eq_2 qd.eq_1 qd.eq_2 q35.eq_1 jd.eq_1 jd.eq_2 q2e.eq_1 q2e.eq_2 yg.eq_1 yg.eq_2 q6v.eq_1 ldP.eq_1 ldP.eq_2 ldA.eq_1 ldA.eq_2 TI.isAgg.eq_1 q1l.eq_1 Heap.get.eq_1 Heap.get.eq_2 Heap.put.eq_1 Heap.put.eq_2 qz6 z4x qo5 qfs qw5 zws za9 zcf qvd qyu qui zo7 zqv qre zet qqj zd1 zoh zfn zrr yu.eq_1 AV.refs.refsL.eq_1 AV.refs.refsL.eq_2 AV.ren.renL.eq_1 AV.ren.renL.eq_2 j5.eq_1 j5.eq_2 jb.eq_1 jb.eq_2 qz2 qy3 qol narrow.eq_1 q48.eq_1 restrict.eq_1 restrict.eq_2 Heap.upto.eq_1 Heap.upto.eq_2 Heap.below.eq_1 Heap.below.eq_2 Env.below.eq_1 Env.below.eq_2 q28.eq_1 q28.eq_2 decide_true and_self AV.rows.rowsL.eq_1 AV.rows.rowsL.eq_2 Nat.zero_lt_one Nat.lt_add_one Nat.zero_le Nat.le_refl Nat.zero_add Nat.add_zero and_true true_and Bool.and_true Bool.true_and decide_false Bool.false_eq_true u6.eq_1 u6.eq_2 zho qy4 qyy ma.eq_1 ma.eq_2 q4c.eq_1 q4c.eq_2 finish.eq_1 List.range_zero pos.eq_1 pos.eq_2 reach.eq_1 reach.eq_2 reach.eq_3 enter.eq_1 xg.eq_1 xg.eq_2 zx.eq_1 zx.eq_2 gm.eq_1 gm.eq_2 setEnv.eq_1 setEnv.eq_2 qwf qzs zo5 qjy zkk z9u z6z Bool.not_false Bool.not_true Bool.or_self Bool.or_false Bool.false_or Bool.or_true Bool.true_or qnd qze zeu Bool.and_self Bool.and_false Bool.false_and nk.eq_1 nk.eq_2 Nat.mul_one Nat.one_mul true_or or_true false_or or_false or_self and_false false_and Gm.freeze.eq_1 AV.thaw.thawL.eq_1 AV.thaw.thawL.eq_2 zo.eq_1 zo.eq_2 fitAll.eq_1 fitAll.eq_2 fitAll.eq_3 q7q.eq_1 q4s.eq_1 nz.eq_1 nz.eq_2 q88.eq_1 closedIn.eq_1 closedIn.eq_2 pick.eq_1 pick.eq_2 q18.eq_1 q18.eq_2 q06.eq_1 q06.eq_2 jo.eq_1 backTo.eq_1 kv.eq_1 kv.eq_2 yj.eq_1 q2k.eq_1 qkt z4l qve zuq z5i zl8 ze4 z7l qh6 z9q z5o z1k qws qlg zpt qxt zuk zmn canon.eq_1 q39.eq_1 q39.eq_2 q46.eq_1 q46.eq_2 ug.eq_1 ug.eq_2 zai zln qiz zs3 q0k.eq_1 orT.eq_1 orT.eq_2 isBytes.eq_1 q2u.eq_1 q3r.eq_1 qcg qo6 q70 qcx qap qc8 qbn qd8 qd2 qcb qe3 take_len qv4 zuy qvg qxn q6o.eq_1 q6o.eq_2 kE.eq_1 zuu zew z7o z3m zbr zdw qy0 zpp zw4 qnx zdk z1l zc7 ztl qae qxu qv3 qk1 zlz z6j qiy zhx zqp qjk qf1 z5a za0 z3d zdu zsv Int.natCast_zero Int.cast_ofNat_Int q4d q3i take_set List.take_length v_i v_b v_s v_g v_l v_r b_x b_r b_m z8 kz zl q65 slE qcy T.Span.qc T.qj.qc T.Sel.qc T.Op.qc T.Row.qc T.Rx.qc T.Fmt.qc T.Form.qc T.Stop.qc T.y9.qc T.yc.qc T.State.qc T.q0f.qc T.q27.qc T.q1s.qc T.q1j.qc T.q1r.qc T.q2i.qc T.q1o.qc T.um.qc T.uw.qc T.q2m.qc T.qy.qc T.Range.qc T.q1w.qc T.q2c.qc T.q1n.qc T.ze.qc T.qz.qc T.q2b.qc T.q21.qc T.q02.qc T.q29.qc cm0 cm1 cm2 zei kp3 cm3 pr3 znt kp4 cm4 pr4 zwo kp5 cm5 pr5 zuo kp6 cm6 pr6 zli kp7 cm7 pr7 qk4 kp8 cm8 pr8 zt7 kp9 cm9 pr9 qxj zbt qj6 zj1 ql0 qi5 zwk qsc zvn z7h zna z8n zkm qov z6x qff zat zsk zq3 zaz zns qxb qf5 qmd zlc zu1 qj0 qow qnc zsc qfd zrl z4m zr9 zo6 qfy qy7 zb0 qvc qx3 qpc zp9 qqe zdl zhn zi5 zdz z2o zqb qx6 z3e qxh qxa zp4 zbj qok zb4 zn3 qtt qjd qlo z0e qot z7q zqh zhb zp5 qrq qm8 que z8b quz za5 z6t z8l qjz qmw zim qyk za8 qfm zos zc4 zn6 qvs qlp zvs zu6 zgr z14 qwt z0p zbn zes qse qt8 z4f zhc zdx z0f qk3 qu0 qs5 qph qf6 zke qmt zhu ztw zfj qxg qwp qqc z8y zhl znk qt5 z7j zkl qz0 z3o ziv qsu qo9 zi3 zqu zvg qrh zb8 zem zhw qfq z0a qub qzg qsg z9n zt6 zki zf4 zwe qps qhp qqg qyh qwa zqw zi2 zfg qlw ztf qou qtv qlz qt0 zpk z8f qjf z4g z7b z8e zib zj8 zgw z6c qhv zsi zco z8k za2 zkn z1t z9o zuj qn6 qoa qma qsp qp1 zmb zly qsv qhu qyz qtp qx1 qty qyl qgl zqe qhy zfl qqv z3p zh0 qr3 zb5 qpy quk qvt qm9 qtf qsd zsn z1v zgj zcl zon qf3 qeq zd5 qr1 z4z zkq zlq zkw zod zcp qux z2z zom qzx qw8 zun qr2 qfh qns zuz z2a zn4 qqb zvt zq7 qkn z7k z4n qtb qm2 zel zup qs4 zb3 zw8 qmq qoe qrf zjs qzj znc qi0 z04 z98 qys zfs zfk zep qx0 qg3 zx6 zg0 z9c qqm z1x qsl zwy zkf zh7 qts qjr qlr qym z07 z1h qoi zu3 z5q z1c qix zae zbv qv8 qm0 z6s qsf qpl qi2 zvo zs2 qf2 zb9 qzm zm6 zpy z6a qgb qt2 zw2 qqf qrb z2x qkw qex zbx znn qwn zs9 qtu qj7 zmy zeh zid qmx qkj qfr qq2 zic qug qj2 qmc zwp z3s z3b qg4 qiv zv5 zog qul zu9 qgi zsu zgi qtg z9k z3r ztj zfm zfo qw1 z5m zh9 qjh qih qwu zdp qo7 zmg qz5 zwd zs7 qmb z01 z0c zuv zfh z2e z7e zx1 qla zce zo3 zwv qs6 zne qxl znm zvm zgx qlk zgb qj3 qr6 qfx zo2 zlv zs8 zjb qy1 z7z qlu zll qwl qep zum qwb quh zwz qio zvc qs8 z2u qpz qp7 zqf zdy zr3 qzp ze2 zlk z7v qh9 znf z0u z8j qjs qof zkr zfr qwj zea qgf zn9 zwm zbg qfw zpd qf7 zky qsi qy8 qhh qgy ze6 z5s zj3 zro qsq qvq qw3 zdg zr1 qum zc2 zth zo1 zj2 ze1 zh4 qin zkg z0i z5z ztp zhe zvd z1d qyn z0x qgu qqw ztx zvy zjj ztz zj0 qig zt8 z8q zsz z8i qic z2k zt4 qu3 zot qoy z3k zte znw qyf zsq qrt zvh qez qpb zrv qoo qw6 z10 qo8 zbi zcw z6w qka zqj qz7 zmm zh2 zc5 zfp z5g zmz zmv qzd qoc zdi z7s qvb zql fz1 fz2 fz3 fz4 fz5 fz6 fz7 fz8 fz9 zg2 zm1 zpq zg8 z09 qq0 za3 zsw zl2 qm1 zmx qg5 zrp zwn zto zga z3a qxz qrj zx5 qqn qni qp2 z7a z5n qii zo0 zlm zwa z3g zg9 qzz qpt qek qyw zqa zko qyq zba zq5 zdr z0r qku zfz qwo qjw qki z7y z1n zdn zn7 qx8 zsr zje qr4 qmv zan qgg zny qr9 zso zvx zr7 qkv z2g qy5 zay zuf zis z2c zcy zks zex z4p qkx qlc zoy qzt zfc qie qyc zhp z05 qtw zfx zq2 qr8 zcv qib ziw zby qp4 ztt qzn qtk zv7 z2i zno zcg z5p z2f zng qlv qi8 zdo qhi znu qpm zgl zrb qev zof qwh qo3 qrd qmj z2n zw1 z1u qtz qwv zpa qzi qx7 zr2 zta qsb zj4 zgo qrw zmr qld qp6 z2l zbh zge zer qg6 zpn zio zdb zwb z9l qzu zah qf0 zit qwm zoc zau z8c qvh zcx qmk zu4 qsx zm3 ztb zrx zok z7i z0k za6 zk2 qgn qt9 zdc qn9 ql9 qsy zd0 qfn zq4 zhj qpn qj9 zjz z2q zi6 zx3 qga z8o ztg qlq zjd z3v z9z qha zde qo4 zhs qkd qox qhx qpa zse qw2 qpu qn1 z4t zeg z7x qi6 z3u zq6 z5u zpv z4k z0n z0y zp7 zvk qqy zol z9b zeq ze7 qi7 qir qww z06 qkb qif ql2 qoh zqy zx0 zvj quq zc3 zjv zk9 qsr z7p z6v zn0 qfz qzw zrm znv zaf qs2 qv0 qfl zmq qrp za7 z0z qx9 zku zf2 zpx z6f z8u zij zj6 zpe qkm zl7 z4a qhs qh7 z9e zm9 zmj zrh zsg zaj qtl qim qvj qno qho z88 qt3 qny qpo quu zeb zar quw qlt qpw zj9 qvk qtr z6q qyx qs0 qwq z6g qvo zsy zq0 zlg qj5 ql1 zda zqz zua zpb zgt qmu zi9 qjg qn7 z1r z1q qf4 zcj z5k ze8 zkz ztr qwc zvl qzb zr5 qnn z5d zsx qgj zq8 zur qzk qsn znp qgv znj zlh zhd zv8 qss qet zkt zo9 quc zrf z7u zfd zm0 z5x zr0 zc8 zra qmz zpz qsh qxm zal zry zpg z6y qyg z4o z2d qrr qrn zvr zhf qvm zbc zbf zla qvp zf5 qlb qrs zrj qpf qkc zfq quv zhh qn0 qwr qwd qmo qky qqr z8a qq6 z0o zpc zwg qqi z0j zlr zgf z0g zcd qhd zv3 qjo zus zpo zh3 z5b zd8 zaw zkb z1m qjp zov zpl z3t qhl z5j qqt znd zuw zev zmi zl1 qjq zsj zkx zgs z99 zni z8x qgq zk8 zhq z5f zwl z6m zlp qnw z3x qv9 qfb zcu zbe qye zhy zs5 qm4 z92 z1e zlu z2s zaq zgp zox z1g zgk qnz quf z7g z1j qis z6i zfw ziq qud zlw z4h zwj qza zca qpp z9a zb1 zhk qes zqo qrz z0w zqg z2h z9w zu8 zow mf1 mf2 mf3 mf4 mf5 mf6 mf7 mf8 mf9 qry zvp qnh za1 qri qpj ql3 zr4 zbb zcs zil zbd qkk zl0 z4q qto zh8 zkh z3l qxo qyr zk0 z0l qyt zcq zv4 qjx qng zcm qyi zhz qko z8r zmd zkd z2j z11 zgd zaa qv5 z7r zty zs4 z8g qvy qz3 qkz zkc ziu zch zm4 qgt zru zsf zcc zix zmh zpf qhj zp3 zir qiu zef qxr qkf zgh z9f z3q zwu ql4 zc0 zvz qhn qil z2m qva z8p z9v z7m zs6 qo2 qpv zmt qnp zpj zv1 zft zrd qo1 z5t qob zrs qjj z3j zg5 z4c qel qle qgh z0b z6r qp5 qll z3i zif zey qeo zts zdj qxp z1w zjf zfb zao zad qhg qlm qgz zoe znz qg9 qr0 qv7 qu4 qq1 znh z3y z19 zez qey zjc qqa z9r zw3 qf8 qi9 zqs qf9 zqn z4i zrw qzv qh3 qg7 zqr qoz qon z1z z3f zlj zgy qvz zgq zqx zma zmf qm3 zq9 zab zd6 qti ze9 zff qnq zlf ztv zmw zha zt9 qxw z4v qms qt4 qp3 zp0 ztu z9h zlo qz9 zm2 zj7 qqp qvl zf0 qt1 qzh qln zac qtc zwt qya qv1 zf6 qzy qnk qew zam z2v zjn zx2 zjl z5e zuh zfu qwk qst qhw z1a qml qr5 qtd zvq zk7 zcb qyd zt1 z90 z0t zx4 qnb zcz zi1 zg4 z5l zd3 qkr qwi ql5 qj1 qke zps qp0 qr7 zpi z6h zds z5h qqk znq qn3 zwh qh8 z02 qz1 qik qks zin znx zdd qnl z6o zop qqq ze3 zen qh0 qm7 z5w zfi zqc zkp zrk zek zp2 z6u qgr zbz zj5 qk2 z81 zv6 zut zm5 qor zui qfv qq4 zvi qn8 zn1 zlt z9t z9x qhc qk0 qjt qy9 zpr qsw zcn ql7 z1p zpm qxd z8w qw9 qyj zd4 qft qh4 qnm qzl zik zgc zg7 qy6 zmc qmf qlh qjn z9j qgs z8s zpw qop z7d qso qmr zt0 qfg qxi qpq zc6 qyp z95 zqi qtn qnr zls z2w qx5 z0s zec qun qxq qj8 zm7 zob qq3 qqs qnf zjh qhr zdf ztk z13 zl6 zjr zbm zfv zjy zjk qxv zvb zn2 qql qg8 qnv z8v z7c zq1 qls qrl z4b z8d qje qvf z0m qfc qqx z6n zjg z18 zrg zf8 qi3 qia qzf qsa z3w qfi qu8 qoq qte zkj z5v zv0 zww qvx zsm zih zb2 qua qij qjv qtj zax z4u zt5 qi1 z8m qjc qyb qk9 zc1 zgv qn4 zi8 qja qkg qzq z3c zf1 qhq z7t z3n zh5 ziz zfa zf9 ze5 z96 qvr qrg zqt qqo zux zck zle qqd qme zg6 zu5 z7n zms qwx zhi qv6 ql6 qx4 qvi zc9 zlx zbp zrn zl9 qu6 zji zi4 zld qra qrc qrm qzc qup ql8 qk5 qmg ztc zcr qg2 z4d zrz qge qfu z1b zg1 z6p qji qli z97 qw4 z1f qlj ti3 ti4 ti5 ti9 z94 zbk zd9 qlf z9d zp1 qsz qpe zpu qsj zss qne qi4
set_option maxHeartbeats 4000000
def qds (ss : (List Bytes)) : ((Bool) ⊕ (Unit)) → Ex × St
 | .inl y => (Ex.ret,⟨[(4,v_b y)],[(0,Blk.row false 1 (List.map zl ss))],1⟩)
 | .inr y => (Ex.normal,⟨[(4,AV.undef)],[(0,Blk.row false 1 (List.map zl ss))],1⟩)
attribute [local go_sem] qds
theorem qhm : ∀ p r,q26 p = some r → O.loop 8 0 ⟨[(0,v_i p.1),(1,v_r 0 p.2.2),(5,v_i p.2.1)],[(0,Blk.row false 1 (List.map zl p.2.2))],1⟩ = some (qds p.2.2 r) := by
 refine q26.partial_correctness _ ?_
 rintro q26 ih5 ⟨n,i,ss⟩ r; dsimp only
 apply it <;> intro h1
 ·refine bw zl fun x3 h2 f1 f2 f3 => ?_
  apply it <;> intro h4
  ·rintro ⟨⟩
   clear ih5; exact fL fn8
  intro h; have f4 := ih5 _ _ h; clear h
  try simp only [en.down] at f4
  clear ih5; exact fL fn8
 rintro ⟨⟩
 clear ih5; exact fL fn8
theorem z08 {n r_ r} (h : q5m n r_ = some r) : O.call 8 [v_i n,v_r 0 r_] [(0,Blk.row false 1 (List.map zl r_))] = some (v_b r,[(0,Blk.row false 1 (List.map zl r_))]) := by
 revert h; unfold q5m
 refine bs fun v2 h1 => ?_
 have f1 := qhm _ _ h1
 try simp only [en.down] at f1
 rcases v2 with y3 | y4
 ·dsimp only
  rintro ⟨⟩
  exact fF fn8
 dsimp only
 rintro ⟨⟩
 exact fF fn8
def q9l : ((Bool) ⊕ (Unit)) → Ex × St
 | .inl y => (Ex.ret,⟨[(6,v_b y)],[],0⟩)
 | .inr y => (Ex.normal,⟨[(6,AV.undef)],[],0⟩)
attribute [local go_sem] q9l
theorem qk6 : ∀ p r,gu p = some r → O.loop 9 0 ⟨[(1,v_i p.1),(2,v_l 3 T.qj.enc p.2.1),(7,v_i p.2.2)],[],0⟩ = some (q9l r) := by
 refine gu.partial_correctness _ ?_
 rintro gu ih7 ⟨n,es,i⟩ r; dsimp only
 apply it <;> intro h1
 ·refine bg T.qj.enc fun x3 h2 f1 f2 f3 => ?_
  apply it <;> intro h4
  ·rintro ⟨⟩
   clear ih7; exact fL fn9
  intro h; have f4 := ih7 _ _ h; clear h
  try simp only [en.down] at f4
  clear ih7; exact fL fn9
 rintro ⟨⟩
 clear ih7; exact fL fn9
theorem zbs {many n es r} (h : q4i many n es = some r) : O.call 9 [v_i many,v_i n,v_l 3 T.qj.enc es] [] = some (v_b r,[]) := by
 revert h; unfold q4i
 apply it <;> intro h1
 ·rintro ⟨⟩
  exact fF fn9
 refine bs fun v3 h2 => ?_
 have f1 := qk6 _ _ h2
 try simp only [en.down] at f1
 rcases v3 with y4 | y5
 ·dsimp only
  rintro ⟨⟩
  exact fF fn9
 dsimp only
 rintro ⟨⟩
 exact fF fn9
theorem z2p : ∀ p r,q1v p = some r → O.loop 4 2 ⟨[(1,v_i p.1),(2,v_l 7 T.Op.enc p.2.1),(7,v_i p.2.2.1),(8,v_i p.2.2.2.1)],[(0,Blk.row false 1 (List.map zl p.2.2.2.2))],1⟩ = some (Ex.normal,⟨[(1,v_i r),(2,v_l 7 T.Op.enc p.2.1),(7,v_i p.2.2.1)],[(0,Blk.row false 1 (List.map zl p.2.2.2.2))],1⟩) := by
 refine q1v.partial_correctness _ ?_
 rintro q1v ih8 ⟨n,os,i,k,r0_⟩ r; dsimp only
 refine bg T.Op.enc fun x2 h1 f1 f2 f3 => ?_
 apply it <;> intro h3
 ·refine bg T.qj.enc fun x5 h4 f4 f5 f6 => ?_
  intro h; have f7 := ih8 _ _ h; clear h
  try simp only [en.down] at f7
  clear ih8; exact fL fn4
 rintro ⟨⟩
 clear ih8; exact fL fn4
def qd6 : ((Bool) ⊕ (Unit)) → Ex × St
 | .inl y => (Ex.ret,⟨[(6,v_b y)],[],0⟩)
 | .inr y => (Ex.normal,⟨[(6,AV.undef)],[],0⟩)
attribute [local go_sem] qd6
theorem zfy : ∀ p r,q2f p = some r → O.loop 4 0 ⟨[(1,v_i p.1),(2,v_l 7 T.Op.enc p.2.1),(7,v_i p.2.2)],[],0⟩ = some (qd6 r) := by
 refine q2f.partial_correctness _ ?_
 rintro q2f ih3 ⟨n,os,i⟩ r; dsimp only
 apply it <;> intro h1
 ·refine bg T.Op.enc fun x3 h2 f1 f2 f3 => ?_
  refine bs fun v5 h4 => ?_
  have f4 := z08 h4
  try simp only [en.down,Nat.reduceAdd] at f4
  apply it <;> intro h6
  ·try simp only [h6] at f4
   rintro ⟨⟩
   clear ih3; exact fL fn4
  apply it <;> intro h7
  ·try simp only [h6] at f4
   rintro ⟨⟩
   clear ih3; exact fL fn4
  apply it <;> intro h8
  ·try simp only [h6] at f4
   rintro ⟨⟩
   clear ih3; exact fL fn4
  refine bs fun v10 h9 => ?_
  have f5 := zbs h9
  try simp only [en.down] at f5
  apply it <;> intro h11
  ·try simp only [h6,h11] at f4 f5
   rintro ⟨⟩
   clear ih3; exact fL fn4
  refine bs fun v13 h12 => ?_
  have f6 := z2p _ _ h12
  try simp only [en.down,Nat.reduceAdd] at f6
  apply it <;> intro h14
  ·try simp only [h6,h11] at f4 f5 f6
   rintro ⟨⟩
   clear ih3; exact fL fn4
  try simp only [h6,h11] at f4 f5 f6
  intro h; have f7 := ih3 _ _ h; clear h
  try simp only [en.down] at f7
  try simp only [h6,h11] at f7
  clear ih3; exact fL fn4
 rintro ⟨⟩
 clear ih3; exact fL fn4
theorem zl3 {many n os r} (h : q57 many n os = some r) : O.call 4 [v_i many,v_i n,v_l 7 T.Op.enc os] [] = some (v_b r,[]) := by
 revert h; unfold q57
 apply it <;> intro h1
 ·rintro ⟨⟩
  exact fF fn4
 refine bs fun v3 h2 => ?_
 have f1 := zfy _ _ h2
 try simp only [en.down] at f1
 rcases v3 with y4 | y5
 ·dsimp only
  rintro ⟨⟩
  exact fF fn4
 dsimp only
 rintro ⟨⟩
 exact fF fn4
theorem yx {n r} (h : kg n = some r) : O.call 13 [v_i n] [] = some (v_s r,[]) := by
 revert h; unfold kg
 refine bs fun v2 h1 => ?_
 have f1 := z4j h1
 try simp only [en.down] at f1
 refine gd fun h3 => ?_
 have f2 : (1 + v2.length ≤ 2 ^ 62) = True := eq_true h3
 rintro ⟨⟩
 exact fF zp8
theorem zvu : ∀ p r,q2j p = some r → O.loop 6 0 ⟨[(1,v_l 7 T.Op.enc p.1),(6,v_r 0 p.2.2.2.2),(15,v_l 1 (kE IntKind.u32) p.2.1),(16,v_i p.2.2.1),(17,v_i p.2.2.2.1)],[(0,Blk.row false 1 (List.map z8 p.2.2.2.2))],1⟩ = some (Ex.normal,⟨[(1,v_l 7 T.Op.enc p.1),(6,v_r 0 r)],[(0,Blk.row false 1 (List.map z8 r))],1⟩) := by
 refine q2j.partial_correctness _ ?_
 rintro q2j ih10 ⟨os,t15,t16,t17,out⟩ r; dsimp only
 apply it <;> intro h1
 ·refine bg (kE IntKind.u32) fun x3 h2 f1 f2 f3 => ?_
  refine bs fun v5 h4 => ?_
  have f4 := yx h4
  try simp only [en.down] at f4
  refine gd fun h6 => ?_
  have f5 : List.map z8 out ++ List.map z8 v5 = List.map z8 (out ++ v5) := qd4 _ _ _
  intro h; have f6 := ih10 _ _ h; clear h
  try simp only [en.down] at f6
  clear ih10; exact fL fn6
 rintro ⟨⟩
 clear ih10; exact fL fn6
def qd0 : ((Bool) ⊕ (Unit)) → Ex × St
 | .inl y => (Ex.ret,⟨[(2,v_b y)],[],0⟩)
 | .inr y => (Ex.normal,⟨[(2,AV.undef)],[],0⟩)
attribute [local go_sem] qd0
theorem zmk : ∀ p r,ym p = some r → O.loop 26 0 ⟨[(5,v_l 1 kz p.1),(6,v_i p.2.1),(7,v_i p.2.2)],[],0⟩ = some (qd0 r) := by
 refine ym.partial_correctness _ ?_
 rintro ym ih16 ⟨t5,t6,t7⟩ r; dsimp only
 apply it <;> intro h1
 ·refine bg kz fun x3 h2 f1 f2 f3 => ?_
  refine q6g ?_ (fun h4 h5 => ?_)
  ·rintro (⟨h4,h5⟩ | ⟨h4,h5⟩)
   all_goals
   rintro ⟨⟩
   clear ih16; exact fL q52
  intro h; have f4 := ih16 _ _ h; clear h
  try simp only [en.down] at f4
  clear ih16; exact fL q52
 rintro ⟨⟩
 clear ih16; exact fL q52
theorem q8z {ns r} (h : q0n ns = some r) : O.call 26 [v_l 1 kz ns] [] = some (v_b r,[]) := by
 revert h; unfold q0n
 refine bs fun v2 h1 => ?_
 have f1 := zmk _ _ h1
 try simp only [en.down] at f1
 rcases v2 with y3 | y4
 ·dsimp only
  rintro ⟨⟩
  exact fF q52
 dsimp only
 rintro ⟨⟩
 exact fF q52
theorem q3n {s r} (h : q00 s = some r) : O.call 27 [v_s s] [] = some (v_s r,[]) := by
 revert h; unfold q00
 refine bs fun v2 h1 => ?_
 have f1 := yx h1
 try simp only [en.down] at f1
 refine gd fun h3 => ?_
 have f2 : (v2.length + 1 ≤ 2 ^ 62) = True := eq_true h3
 refine gd fun h4 => ?_
 have f3 := eq_true h4
 try simp only [en.down] at f3
 rintro ⟨⟩
 exact fF zk5
theorem uu {o r} (h : jv o = some r) : O.call 29 [v_g (T.Op.enc o)] [] = some (v_b r,[]) := by
 revert h; unfold jv
 refine q77 (fun h1 h2 h3 h4 h5 => ?_) ?_
 ·rintro ⟨⟩
  exact fF qbo
 rintro (⟨h1,h2,h3,h4,h5⟩ | ⟨h1,h2,h3,h4,h5⟩ | ⟨h1,h2,h3,h4,h5⟩ | ⟨h1,h2,h3,h4,h5⟩ | ⟨h1,h2,h3,h4,h5⟩)
 all_goals
 rintro ⟨⟩
 exact fF qbo
theorem qhf : ∀ p r,q1e p = some r → O.loop 14 1 ⟨[(4,AV.ptr 1 0),(5,v_s p.1),(6,v_b p.2.1),(82,v_l 3 T.qj.enc p.2.2.1),(83,v_i p.2.2.2.1),(84,v_i p.2.2.2.2.1)],[(0,b_x (T.Op.enc p.2.2.2.2.2.1)),(1,b_x (T.Op.enc p.2.2.2.2.2.2)),(2,Blk.dead)],3⟩ = some (Ex.normal,⟨[(4,AV.ptr 1 0),(5,v_s r.1),(6,v_b r.2)],[(0,b_x (T.Op.enc p.2.2.2.2.2.1)),(1,b_x (T.Op.enc p.2.2.2.2.2.2)),(2,Blk.dead)],3⟩) := by
 refine q1e.partial_correctness _ ?_
 rintro q1e ih19 ⟨out,ok_,t82,t83,t84,b0_,rest⟩ r; dsimp only
 apply it <;> intro h1
 ·refine bg T.qj.enc fun x3 h2 f1 f2 f3 => ?_
  apply it <;> intro h4
  ·refine bs fun v6 h5 => ?_
   have f4 := q8z h5
   try simp only [en.down] at f4
   refine bs fun v8 h7 => ?_
   have f5 := yx h7
   try simp only [en.down] at f5
   refine bs fun v10 h9 => ?_
   have f6 := yx h9
   try simp only [en.down] at f6
   refine gd fun h11 => ?_
   have f7 := eq_true h11
   try simp only [en.down] at f7
   refine bs fun v13 h12 => ?_
   have f8 := q3n h12
   try simp only [en.down] at f8
   refine gd fun h14 => ?_
   have f9 := eq_true h14
   try simp only [en.down] at f9
   refine gd fun h15 => ?_
   have f10 := eq_true h15
   try simp only [en.down] at f10
   try simp only [h4] at f4 f5 f6 f8
   intro h; have f11 := ih19 _ _ h; clear h
   try simp only [en.down] at f11
   try simp only [h4] at f11
   clear ih19; exact fL zw
  refine bs fun v17 h16 => ?_
  have f12 := yx h16
  try simp only [en.down] at f12
  refine bs fun v19 h18 => ?_
  have f13 := yx h18
  try simp only [en.down] at f13
  refine gd fun h20 => ?_
  have f14 := eq_true h20
  try simp only [en.down] at f14
  refine bs fun v22 h21 => ?_
  have f15 := q3n h21
  try simp only [en.down] at f15
  refine gd fun h23 => ?_
  have f16 := eq_true h23
  try simp only [en.down] at f16
  refine gd fun h24 => ?_
  have f17 := eq_true h24
  try simp only [en.down] at f17
  try simp only [h4] at f12 f13 f15
  intro h; have f18 := ih19 _ _ h; clear h
  try simp only [en.down] at f18
  try simp only [h4] at f18
  clear ih19; exact fL zw
 rintro ⟨⟩
 clear ih19; exact fL zw
theorem zug : ∀ p r,q0i p = some r → O.loop 14 3 ⟨[(4,AV.ptr 1 0),(5,v_s p.1),(6,v_b p.2.1),(119,v_l 2 T.Sel.enc p.2.2.1),(120,v_i p.2.2.2.1),(121,v_i p.2.2.2.2.1)],[(0,b_x (T.Op.enc p.2.2.2.2.2.1)),(1,b_x (T.Op.enc p.2.2.2.2.2.2)),(2,Blk.dead)],3⟩ = some (Ex.normal,⟨[(4,AV.ptr 1 0),(5,v_s r.1),(6,v_b r.2)],[(0,b_x (T.Op.enc p.2.2.2.2.2.1)),(1,b_x (T.Op.enc p.2.2.2.2.2.2)),(2,Blk.dead)],3⟩) := by
 refine q0i.partial_correctness _ ?_
 rintro q0i ih20 ⟨out,ok_,t119,t120,t121,b0_,rest⟩ r; dsimp only
 apply it <;> intro h1
 ·refine bg T.Sel.enc fun x3 h2 f1 f2 f3 => ?_
  apply it <;> intro h4
  ·refine bs fun v6 h5 => ?_
   have f4 := q8z h5
   try simp only [en.down] at f4
   refine bs fun v8 h7 => ?_
   have f5 := yx h7
   try simp only [en.down] at f5
   refine bs fun v10 h9 => ?_
   have f6 := yx h9
   try simp only [en.down] at f6
   refine gd fun h11 => ?_
   have f7 := eq_true h11
   try simp only [en.down] at f7
   refine gd fun h12 => ?_
   have f8 := eq_true h12
   try simp only [en.down] at f8
   try simp only [h4] at f4 f5 f6
   intro h; have f9 := ih20 _ _ h; clear h
   try simp only [en.down] at f9
   try simp only [h4] at f9
   clear ih20; exact fL zw
  refine bs fun v14 h13 => ?_
  have f10 := yx h13
  try simp only [en.down] at f10
  refine bs fun v16 h15 => ?_
  have f11 := yx h15
  try simp only [en.down] at f11
  refine gd fun h17 => ?_
  have f12 := eq_true h17
  try simp only [en.down] at f12
  refine gd fun h18 => ?_
  have f13 := eq_true h18
  try simp only [en.down] at f13
  try simp only [h4] at f10 f11
  intro h; have f14 := ih20 _ _ h; clear h
  try simp only [en.down] at f14
  try simp only [h4] at f14
  clear ih20; exact fL zw
 rintro ⟨⟩
 clear ih20; exact fL zw
theorem z2t {word r} (h : q0s word = some r) : O.call 55 [v_s word] [] = some (v_i r,[]) := by
 revert h; unfold q0s
 apply it <;> intro h1
 ·rintro ⟨⟩
  exact fF q3l
 apply it <;> intro h2
 ·rintro ⟨⟩
  exact fF q3l
 apply it <;> intro h3
 ·rintro ⟨⟩
  exact fF q3l
 apply it <;> intro h4
 ·rintro ⟨⟩
  exact fF q3l
 apply it <;> intro h5
 ·rintro ⟨⟩
  exact fF q3l
 rintro ⟨⟩
 exact fF q3l
def qeg (t5 : (List Bytes)) : ((Bytes) ⊕ (Unit)) → Ex × St
 | .inl y => (Ex.ret,⟨[(2,v_s y)],[(0,Blk.row false 1 (List.map zl t5))],1⟩)
 | .inr y => (Ex.normal,⟨[(2,AV.undef)],[(0,Blk.row false 1 (List.map zl t5))],1⟩)
attribute [local go_sem] qeg
theorem z6e : ∀ p r,q23 p = some r → O.loop 28 0 ⟨[(0,v_i p.1),(5,v_r 0 p.2.2.2),(6,v_i p.2.1),(7,v_i p.2.2.1)],[(0,Blk.row false 1 (List.map zl p.2.2.2))],1⟩ = some (qeg p.2.2.2 r) := by
 refine q23.partial_correctness _ ?_
 rintro q23 ih22 ⟨kind,t6,t7,t5⟩ r; dsimp only
 apply it <;> intro h1
 ·refine bw zl fun x3 h2 f1 f2 f3 => ?_
  refine bs fun v5 h4 => ?_
  have f4 := z2t h4
  try simp only [en.down] at f4
  apply it <;> intro h6
  ·rintro ⟨⟩
   clear ih22; exact fL q5h
  intro h; have f5 := ih22 _ _ h; clear h
  try simp only [en.down] at f5
  clear ih22; exact fL q5h
 rintro ⟨⟩
 clear ih22; exact fL q5h
theorem zi7 {kind r} (h : q5e kind = some r) : O.call 28 [v_i kind] [] = some (v_s r,[]) := by
 revert h; unfold q5e
 refine bs fun v2 h1 => ?_
 have f1 := z6e _ _ h1
 try simp only [en.down,Nat.reduceAdd,UInt8.reduceToNat] at f1
 rcases v2 with y3 | y4
 ·dsimp only
  rintro ⟨⟩
  exact fF q5h
 dsimp only
 rintro ⟨⟩
 exact fF q5h
theorem qth {o r} (h : q4y o = some r) : O.call 14 [v_g (T.Op.enc o)] [] = some (AV.tup [v_s r.1,v_b r.2],[]) := by
 revert h; unfold q4y
 refine bs fun v2 h1 => ?_
 have f1 := q8z h1
 try simp only [en.down] at f1
 apply it <;> intro h3
 ·refine bs fun v5 h4 => ?_
  have f2 := q3n h4
  try simp only [en.down] at f2
  refine gd fun h6 => ?_
  have f3 : (3 + v5.length ≤ 2 ^ 62) = True := eq_true h6
  refine bs fun v8 h7 => ?_
  have f4 := q3n h7
  try simp only [en.down] at f4
  refine gd fun h9 => ?_
  have f5 := eq_true h9
  try simp only [en.down] at f5
  refine yn (fun h10 h11 => ?_) ?_
  ·try simp only [List.cons_append,List.nil_append] at h11
   refine bs fun v13 h12 => ?_
   have f6 := uu h12
   try simp only [en.down] at f6
   try simp only [h10] at f1 f2 f4 f6
   rintro ⟨⟩
   exact fF zw
  rintro (⟨h10,h11⟩ | ⟨h10,h11⟩)
  all_goals
  try simp only [List.cons_append,List.nil_append] at h11
  try simp only [h10] at f1 f2 f4
  rintro ⟨⟩
  exact fF zw
 apply it <;> intro h14
 ·refine bs fun v16 h15 => ?_
  have f7 := q3n h15
  try simp only [en.down] at f7
  refine gd fun h17 => ?_
  have f8 : (4 + v16.length ≤ 2 ^ 62) = True := eq_true h17
  apply it <;> intro h18
  ·refine gd fun h19 => ?_
   have f9 : (6 + v16.length ≤ 2 ^ 62) = True := eq_true h19
   refine yn (fun h20 h21 => ?_) ?_
   ·try simp only [List.cons_append,List.nil_append] at h21
    refine bs fun v23 h22 => ?_
    have f10 := uu h22
    try simp only [en.down] at f10
    try simp only [h20] at f1 f7 f10
    rintro ⟨⟩
    exact fF zw
   rintro (⟨h20,h21⟩ | ⟨h20,h21⟩)
   all_goals
   try simp only [List.cons_append,List.nil_append] at h21
   try simp only [h20] at f1 f7
   rintro ⟨⟩
   exact fF zw
  refine yn (fun h24 h25 => ?_) ?_
  ·try simp only [List.cons_append,List.nil_append] at h25
   refine bs fun v27 h26 => ?_
   have f11 := uu h26
   try simp only [en.down] at f11
   try simp only [h24] at f1 f7 f11
   rintro ⟨⟩
   exact fF zw
  rintro (⟨h24,h25⟩ | ⟨h24,h25⟩)
  all_goals
  try simp only [List.cons_append,List.nil_append] at h25
  try simp only [h24] at f1 f7
  rintro ⟨⟩
  exact fF zw
 apply it <;> intro h28
 ·refine bs fun v30 h29 => ?_
  have f12 := q3n h29
  try simp only [en.down] at f12
  refine gd fun h31 => ?_
  have f13 : (4 + v30.length ≤ 2 ^ 62) = True := eq_true h31
  refine gd fun h32 => ?_
  have f14 : (6 + v30.length ≤ 2 ^ 62) = True := eq_true h32
  refine yn (fun h33 h34 => ?_) ?_
  ·try simp only [List.cons_append,List.nil_append] at h34
   refine bs fun v36 h35 => ?_
   have f15 := uu h35
   try simp only [en.down] at f15
   try simp only [h33] at f1 f12 f15
   rintro ⟨⟩
   exact fF zw
  rintro (⟨h33,h34⟩ | ⟨h33,h34⟩)
  all_goals
  try simp only [List.cons_append,List.nil_append] at h34
  try simp only [h33] at f1 f12
  rintro ⟨⟩
  exact fF zw
 apply it <;> intro h37
 ·refine bs fun v39 h38 => ?_
  have f16 := yx h38
  try simp only [en.down] at f16
  refine gd fun h40 => ?_
  have f17 : (5 + v39.length ≤ 2 ^ 62) = True := eq_true h40
  apply it <;> intro h41
  ·refine gd fun h42 => ?_
   have f18 : (6 + v39.length ≤ 2 ^ 62) = True := eq_true h42
   refine yn (fun h43 h44 => ?_) ?_
   ·try simp only [List.cons_append,List.nil_append] at h44
    refine bs fun v46 h45 => ?_
    have f19 := uu h45
    try simp only [en.down] at f19
    try simp only [h43] at f1 f16 f19
    rintro ⟨⟩
    exact fF zw
   rintro (⟨h43,h44⟩ | ⟨h43,h44⟩)
   all_goals
   try simp only [List.cons_append,List.nil_append] at h44
   try simp only [h43] at f1 f16
   rintro ⟨⟩
   exact fF zw
  refine yn (fun h47 h48 => ?_) ?_
  ·try simp only [List.cons_append,List.nil_append] at h48
   refine bs fun v50 h49 => ?_
   have f20 := uu h49
   try simp only [en.down] at f20
   try simp only [h47] at f1 f16 f20
   rintro ⟨⟩
   exact fF zw
  rintro (⟨h47,h48⟩ | ⟨h47,h48⟩)
  all_goals
  try simp only [List.cons_append,List.nil_append] at h48
  try simp only [h47] at f1 f16
  rintro ⟨⟩
  exact fF zw
 apply it <;> intro h51
 ·refine bs fun v53 h52 => ?_
  have f21 := yx h52
  try simp only [en.down] at f21
  refine gd fun h54 => ?_
  have f22 : (5 + v53.length ≤ 2 ^ 62) = True := eq_true h54
  refine gd fun h55 => ?_
  have f23 : (6 + v53.length ≤ 2 ^ 62) = True := eq_true h55
  refine yn (fun h56 h57 => ?_) ?_
  ·try simp only [List.cons_append,List.nil_append] at h57
   refine bs fun v59 h58 => ?_
   have f24 := uu h58
   try simp only [en.down] at f24
   try simp only [h56] at f1 f21 f24
   rintro ⟨⟩
   exact fF zw
  rintro (⟨h56,h57⟩ | ⟨h56,h57⟩)
  all_goals
  try simp only [List.cons_append,List.nil_append] at h57
  try simp only [h56] at f1 f21
  rintro ⟨⟩
  exact fF zw
 apply it <;> intro h60
 ·refine bs fun v62 h61 => ?_
  have f25 := yx h61
  try simp only [en.down] at f25
  refine gd fun h63 => ?_
  have f26 : (4 + v62.length ≤ 2 ^ 62) = True := eq_true h63
  refine gd fun h64 => ?_
  have f27 : ((([109,111,118,101] : Bytes) ++ v62).length + 2 ≤ 2 ^ 62) = True := eq_true h64
  try simp only [en.down] at f27
  apply it <;> intro h65
  ·refine gd fun h66 => ?_
   have f28 : (4 + v62.length ≤ 2 ^ 62) = True := eq_true h66
   refine gd fun h67 => ?_
   have f29 : ((([109,111,118,101] : Bytes) ++ v62).length + 2 ≤ 2 ^ 62) = True := eq_true h67
   try simp only [en.down] at f29
   refine yn (fun h68 h69 => ?_) ?_
   ·try simp only [List.cons_append,List.nil_append] at h69
    refine bs fun v71 h70 => ?_
    have f30 := uu h70
    try simp only [en.down] at f30
    try simp only [h65,h68] at f1 f25 f30
    rintro ⟨⟩
    exact fF zw
   rintro (⟨h68,h69⟩ | ⟨h68,h69⟩)
   all_goals
   try simp only [List.cons_append,List.nil_append] at h69
   try simp only [h65,h68] at f1 f25
   rintro ⟨⟩
   exact fF zw
  refine yn (fun h72 h73 => ?_) ?_
  ·try simp only [List.cons_append,List.nil_append] at h73
   refine bs fun v75 h74 => ?_
   have f31 := uu h74
   try simp only [en.down] at f31
   try simp only [h65,h72] at f1 f25 f31
   rintro ⟨⟩
   exact fF zw
  rintro (⟨h72,h73⟩ | ⟨h72,h73⟩)
  all_goals
  try simp only [List.cons_append,List.nil_append] at h73
  try simp only [h65,h72] at f1 f25
  rintro ⟨⟩
  exact fF zw
 apply it <;> intro h76
 ·refine bs fun v78 h77 => ?_
  have f32 := qhf _ _ h77
  try simp only [en.down,UInt8.reduceToNat] at f32
  refine yn (fun h79 h80 => ?_) ?_
  ·refine bs fun v82 h81 => ?_
   have f33 := uu h81
   try simp only [en.down] at f33
   try simp only [h79] at f1 f32 f33
   rintro ⟨⟩
   exact fF zw
  rintro (⟨h79,h80⟩ | ⟨h79,h80⟩)
  all_goals
  try simp only [h79] at f1 f32
  rintro ⟨⟩
  exact fF zw
 apply it <;> intro h83
 ·refine bs fun v85 h84 => ?_
  have f34 := zug _ _ h84
  try simp only [en.down,UInt8.reduceToNat] at f34
  refine yn (fun h86 h87 => ?_) ?_
  ·refine bs fun v89 h88 => ?_
   have f35 := uu h88
   try simp only [en.down] at f35
   try simp only [h86] at f1 f34 f35
   rintro ⟨⟩
   exact fF zw
  rintro (⟨h86,h87⟩ | ⟨h86,h87⟩)
  all_goals
  try simp only [h86] at f1 f34
  rintro ⟨⟩
  exact fF zw
 refine bs fun v91 h90 => ?_
 have f36 := zi7 h90
 try simp only [en.down] at f36
 refine yn (fun h92 h93 => ?_) ?_
 ·refine bs fun v95 h94 => ?_
  have f37 := uu h94
  try simp only [en.down] at f37
  try simp only [h92] at f1 f36 f37
  rintro ⟨⟩
  exact fF zw
 rintro (⟨h92,h93⟩ | ⟨h92,h93⟩)
 all_goals
 try simp only [h92] at f1 f36
 rintro ⟨⟩
 exact fF zw
def qba (os : (Sl T.Op)) (r1_ : (List UInt8)) : (((Sl UInt8) × Int × (List UInt8)) ⊕ ((List UInt8))) → Ex × St
 | .inl y => (Ex.ret,⟨[(1,v_l 7 T.Op.enc os),(4,v_l 1 z8 y.1),(5,v_i y.2.1),(6,v_r 0 y.2.2)],[(0,Blk.row false 1 (List.map z8 y.2.2)),(1,Blk.row false 1 (List.map z8 r1_))],2⟩)
 | .inr y => (Ex.normal,⟨[(1,v_l 7 T.Op.enc os),(4,AV.undef),(5,AV.undef),(6,v_r 0 y)],[(0,Blk.row false 1 (List.map z8 y)),(1,Blk.row false 1 (List.map z8 r1_))],2⟩)
attribute [local go_sem] qba
theorem qs3 : ∀ p r,q0v p = some r → O.loop 6 2 ⟨[(1,v_l 7 T.Op.enc p.1),(6,v_r 0 p.2.2.2.2.1),(30,v_l 7 T.Op.enc p.2.1),(31,v_i p.2.2.1),(32,v_i p.2.2.2.1)],[(0,Blk.row false 1 (List.map z8 p.2.2.2.2.1)),(1,Blk.row false 1 (List.map z8 p.2.2.2.2.2))],2⟩ = some (qba p.1 p.2.2.2.2.2 r) := by
 refine q0v.partial_correctness _ ?_
 rintro q0v ih13 ⟨os,t30,t31,t32,out,r1_⟩ r; dsimp only
 apply it <;> intro h1
 ·refine bg T.Op.enc fun x3 h2 f1 f2 f3 => ?_
  refine bs fun v5 h4 => ?_
  have f4 := qth h4
  try simp only [en.down] at f4
  apply it <;> intro h6
  ·rintro ⟨⟩
   clear ih13; exact fL fn6
  refine gd fun h7 => ?_
  have f5 : List.map z8 out ++ List.map z8 v5.1 = List.map z8 (out ++ v5.1) := qd4 _ _ _
  refine gd fun h8 => ?_
  have f6 : List.map z8 (out ++ v5.1) ++ [[PV.int IntKind.u8 (10 : Int)]] = List.map z8 ((out ++ v5.1) ++ [10]) := by simp only [List.map_append,List.map_cons,List.map_nil,q4d,q3i,q70,z8] <;> rfl
  intro h; have f7 := ih13 _ _ h; clear h
  try simp only [en.down] at f7
  clear ih13; exact fL fn6
 rintro ⟨⟩
 clear ih13; exact fL fn6
theorem z8t {nums os r} (h : q4m nums os = some r) : O.call 6 [v_l 1 (kE IntKind.u32) nums,v_l 7 T.Op.enc os] [] = some (AV.tup [v_l 1 z8 r.1,v_i r.2],[]) := by
 revert h; unfold q4m
 refine gd fun h1 => ?_
 have f1 : (0 < [100,105,99,101].length) = True := eq_true h1
 refine bs fun v3 h2 => ?_
 have f2 := zvu _ _ h2
 try simp only [en.down,Nat.reduceAdd,UInt8.reduceToNat] at f2
 refine gd fun h4 => ?_
 have f3 : List.map z8 v3 ++ [[PV.int IntKind.u8 (10 : Int)]] = List.map z8 (v3 ++ [10]) := by simp only [List.map_append,List.map_cons,List.map_nil,q4d,q3i,q70,z8] <;> rfl
 refine bs fun v6 h5 => ?_
 have f4 := qs3 _ _ h5
 try simp only [en.down,Nat.reduceAdd,UInt8.reduceToNat] at f4
 rcases v6 with y7 | y8
 ·dsimp only
  rintro ⟨⟩
  exact fF fn6
 dsimp only
 apply it <;> intro h9
 ·rintro ⟨⟩
  exact fF fn6
 apply it <;> intro h10
 ·rintro ⟨⟩
  exact fF fn6
 rintro ⟨⟩
 exact fF fn6
theorem qq8 : ∀ p r,q1u p = some r → O.loop 15 0 ⟨[(0,v_i p.1),(3,v_s p.2.1)],[(0,Blk.row false 1 (List.map z8 p.2.2))],1⟩ = some (Ex.normal,⟨[(3,v_s r)],[(0,Blk.row false 1 (List.map z8 p.2.2))],1⟩) := by
 refine q1u.partial_correctness _ ?_
 rintro q1u ih27 ⟨n,s,r0_⟩ r; dsimp only
 apply it <;> intro h1
 ·have f1 : ((10 : Int) = 0) = False := by decide
  have f2 := q6y 1 z8 [(u8 (IntKind.u8.wrap (IntKind.i64.wrap ((48 : Int) + ((IntKind.i64.wrap (n.tdiv (10 : Int))).tmod (10 : Int))))))]
  try simp only [en.down] at f2
  have f3 := bytesOf_map [(u8 (IntKind.u8.wrap (IntKind.i64.wrap ((48 : Int) + ((IntKind.i64.wrap (n.tdiv (10 : Int))).tmod (10 : Int))))))]
  have f4 : bytesOf [[PV.int IntKind.u8 (IntKind.u8.wrap (IntKind.i64.wrap ((48 : Int) + ((IntKind.i64.wrap (n.tdiv (10 : Int))).tmod (10 : Int)))))]] = some [(u8 (IntKind.u8.wrap (IntKind.i64.wrap ((48 : Int) + ((IntKind.i64.wrap (n.tdiv (10 : Int))).tmod (10 : Int))))))] := by first | exact bytesOf_map [(u8 (IntKind.u8.wrap (IntKind.i64.wrap ((48 : Int) + ((IntKind.i64.wrap (n.tdiv (10 : Int))).tmod (10 : Int))))))] | simpa only [List.map_cons,List.map_nil,z8,q4d,q3i] using bytesOf_map [(u8 (IntKind.u8.wrap (IntKind.i64.wrap ((48 : Int) + ((IntKind.i64.wrap (n.tdiv (10 : Int))).tmod (10 : Int))))))]
  refine gd fun h2 => ?_
  have f5 : (1 + s.length ≤ 2 ^ 62) = True := eq_true h2
  intro h; have f6 := ih27 _ _ h; clear h
  try simp only [en.down] at f6
  clear ih27; exact fL q7x
 rintro ⟨⟩
 clear ih27; exact fL q7x
theorem q6q {n r} (h : q1q n = some r) : O.call 15 [v_i n] [] = some (v_s r,[]) := by
 revert h; unfold q1q
 have f1 : ((10 : Int) = 0) = False := by decide
 have f2 := q6y 1 z8 [(u8 (IntKind.u8.wrap (IntKind.i64.wrap ((48 : Int) + (n.tmod (10 : Int))))))]
 try simp only [en.down] at f2
 have f3 := bytesOf_map [(u8 (IntKind.u8.wrap (IntKind.i64.wrap ((48 : Int) + (n.tmod (10 : Int))))))]
 have f4 : bytesOf [[PV.int IntKind.u8 (IntKind.u8.wrap (IntKind.i64.wrap ((48 : Int) + (n.tmod (10 : Int)))))]] = some [(u8 (IntKind.u8.wrap (IntKind.i64.wrap ((48 : Int) + (n.tmod (10 : Int))))))] := by first | exact bytesOf_map [(u8 (IntKind.u8.wrap (IntKind.i64.wrap ((48 : Int) + (n.tmod (10 : Int))))))] | simpa only [List.map_cons,List.map_nil,z8,q4d,q3i] using bytesOf_map [(u8 (IntKind.u8.wrap (IntKind.i64.wrap ((48 : Int) + (n.tmod (10 : Int))))))]
 refine bs fun v2 h1 => ?_
 have f5 := qq8 _ _ h1
 try simp only [en.down,Nat.reduceAdd] at f5
 rintro ⟨⟩
 exact fF q7x
end Go.Proofs.YtlapkkdodjhgpaaGreatDoor
