/-
  What the machine's calls come to: the plain functions.
-/
import Derived.Test.YtaglodpkpggdiaaGreatDoorMag
import Derived.Test.YtaglodpkpggdiaaGreatDoorMah
import Derived.Test.YtaglodpkpggdiaaGreatDoorMai
set_option linter.unusedSimpArgs false
set_option linter.unusedVariables false
set_option maxRecDepth 100000
namespace Go.Proofs.YtaglodpkpggdiaaGreatDoor
open Go Go.Gm
attribute [go_sem] needs aop q8i q0w List.toList_toArray q8q q71 mq List.take List.drop List.length_cons List.length_nil List.length_map q1o AV.q3n List.append q8y List.getElem?_cons_zero List.getElem?_cons_succ AV.refs AV.ren AV.rows if_true if_false List.nil_append List.append_nil List.cons_append q3b unz q26 q1i q3d qh4 List.getElem?_nil touched List.isEmpty_nil Option.some.injEq aUn q47 PV.cells List.replicate List.set_cons_zero List.set_cons_succ q1j q7q jv eq_self AV.thaw Blk.thaw q13 q75 aEq qp q3o List.headD_cons zg q6g q42 q6t Blk.ren Blk.refs List.flatMap_nil List.flatMap_cons q5b qdc q1t List.map_cons List.map_nil List.drop_zero Option.isSome_none Option.isNone_none Option.isSome_some Option.isNone_some q3w.eq_def z11 refsOf qr4 zwo z3c qsz zyg zlf qnm qlt qnw zws qop zyl z8z zuf zzg qza qn1 zx8 z3r z7z z2p zku zo.eq_1 zo.eq_2 q1q.eq_1 q1q.eq_2 q1q.eq_3 q1q.eq_4 qyl zr1 zyd x0g zy8 freezes.eq_1 freezes.eq_2 ev.eq_1 ev.eq_2 ev.eq_3 ev.eq_4 Env.get.eq_1 Env.get.eq_2 xy.eq_1 xy.eq_2 qg.eq_1 qg.eq_2 q3q.eq_1 jm.eq_1 jm.eq_2 q33.eq_1 q33.eq_2 uh.eq_1 uh.eq_2 q7x.eq_1 ldP.eq_1 ldP.eq_2 ldA.eq_1 ldA.eq_2 TI.isAgg.eq_1 q3f.eq_1 Heap.get.eq_1 Heap.get.eq_2 Heap.put.eq_1 Heap.put.eq_2 qju zd5 qrm zdg zuz zmo z3p x1y qzn zuu zxw qq8 z6x zwq zvs zb4 zjv zza qu7 qrb gz.eq_1 AV.refs.refsL.eq_1 AV.refs.refsL.eq_2 AV.ren.renL.eq_1 AV.ren.renL.eq_2 jb.eq_1 jb.eq_2 jr.eq_1 jr.eq_2 zmp znm zhd narrow.eq_1 q58.eq_1 restrict.eq_1 restrict.eq_2 Heap.upto.eq_1 Heap.upto.eq_2 Heap.below.eq_1 Heap.below.eq_2 Env.below.eq_1 Env.below.eq_2 q2l.eq_1 q2l.eq_2 decide_true and_self AV.rows.rowsL.eq_1 AV.rows.rowsL.eq_2 Nat.zero_lt_one Nat.lt_add_one Nat.zero_le Nat.le_refl Nat.zero_add Nat.add_zero and_true true_and Bool.and_true Bool.true_and decide_false Bool.false_eq_true uo.eq_1 uo.eq_2 zic z9b z8r q0d.eq_1 q0d.eq_2 q61.eq_1 q61.eq_2 finish.eq_1 List.range_zero pos.eq_1 pos.eq_2 reach.eq_1 reach.eq_2 reach.eq_3 enter.eq_1 xg.eq_1 xg.eq_2 zy.eq_1 zy.eq_2 ng.eq_1 ng.eq_2 setEnv.eq_1 setEnv.eq_2 qtu qzk zl6 qs0 qvt zuq zjb Bool.not_false Bool.not_true Bool.or_self Bool.or_false Bool.false_or Bool.or_true Bool.true_or zq6 zzu qs5 Bool.and_self Bool.and_false Bool.false_and tu.eq_1 tu.eq_2 Nat.mul_one Nat.one_mul true_or or_true false_or or_false or_self and_false false_and Gm.freeze.eq_1 AV.thaw.thawL.eq_1 AV.thaw.thawL.eq_2 zq.eq_1 zq.eq_2 fitAll.eq_1 fitAll.eq_2 fitAll.eq_3 qb1.eq_1 q6w.eq_1 p9.eq_1 p9.eq_2 qbb.eq_1 closedIn.eq_1 closedIn.eq_2 pick.eq_1 pick.eq_2 q2b.eq_1 q2b.eq_2 q0v.eq_1 q0v.eq_2 wh.eq_1 backTo.eq_1 wu.eq_1 wu.eq_2 ug.eq_1 q3m.eq_1 qjk qw6 zf4 zwc zy9 qnc ziz qxx z4v zyc qys qkz zjg qua zko z3q zb5 qpa canon.eq_1 q3v.eq_1 q3v.eq_2 q5u.eq_1 q5u.eq_2 uq.eq_1 uq.eq_2 qxo zwt zni zls q1x.eq_1 orT.eq_1 orT.eq_2 isBytes.eq_1 q48.eq_1 q5s.eq_1 z2x qmy q0m qeh qfk qfh zfx qcf qi0 qci qfx take_len qsi zhp z0f qze q8u.eq_1 q8u.eq_2 kE.eq_1 zym zos zdn zr5 zb2 zyh qqu zns zf8 x0d zfv zve qig qtd qha qsh z8s qqp ql5 zec zxq z4n znc qky zlr zgx qs4 qmo zm9 zjf Int.natCast_zero Int.cast_ofNat_Int gu uw take_set List.take_length v_i v_b v_s v_g v_l v_r b_x b_r b_m qo q1s jo qhq slE qbw T.Span.qf T.qd.qf T.Sel.qf T.Op.qf T.yh.qf T.qb.qf T.Row.qf T.Rx.qf T.Fmt.qf T.Form.qf T.Stop.qf T.uj.qf T.ui.qf T.State.qf T.q3h.qf T.q2t.qf T.q31.qf T.q3e.qf T.q3a.qf T.mf.qf T.mi.qf T.q3c.qf T.z8.qf T.Range.qf T.q3g.qf T.q3l.qf T.q2u.qf T.zf.qf T.za.qf T.q2m.qf T.q38.qf T.q0t.qf T.q2i.qf cm0 cm1 cm2 cm3 cm4 zkc kp5 cm5 pr5 cm6 z1m kp7 cm7 pr7 cm8 zto kp9 cm9 pr9 qx4 zoj zxe qzr qqg z6o zk5 zjq qpk qnx zqe qov znk zeo qid qml zhh zet zkz zvq zkr qwq znu zzj zst zum qrl qjp qt4 z3e x1x zu8 zg2 qn8 z2l zra z7s qow zor qm7 zq1 qzo z2e z7k x00 zb6 qk6 z8u zl3 zvp zei qog zmg zk0 qqa qzg zq7 qty zny qlz quc zcx qk2 x13 zu9 zex zgr qvu qqf zt8 qz4 zq8 zle za2 zcn quu zxg qki qi6 zo6 qvl qnf z8c zsp qj7 qw5 zm5 zk6 zdw qro zid zbk qlc zsq zt5 qz8 qyz zps qp5 zjx qkm zar z90 zla zhm zzz zxk qp4 qkd qln z92 zso z0z quy qzd qxq x0m zdu zhn qp3 qzp zkd qtc zta x0i qip z8w zv3 qvj z2r qpi zix z7t qk4 qxv qwk zqk zg9 z3m qva zsw zjy zhs qvy x0w zfr zx1 qyo zeu zxj qqq qnh ztx z9d zmu qmk zue ql3 zez zrr qnl qtn zcl z03 qpo zc3 z8o zwk zpk qkr qz9 x1v zrp zog zac zhi zrd z5r zu7 zf1 z6y zw8 z9y zwd qq7 qu4 qy7 zzf ze0 zlw qq2 zcs qw7 ztt zel qrd zx4 qz2 zs1 zm3 zdd qkx qmg qu2 zdt zkx zwj x17 znx x0k qlf qmb zqy zsv qvz zun z2u zju zpo qyx qtz z9t qj0 qk5 z5v z8g zg6 zv5 qyr qyg qxr zyi zgf qka z2q zlo qpf zl5 zua qte qxn zwp zq9 z0v qy2 z0r qmq qy3 zt6 zj6 zly qks zmf zzq qtm zqu x1r zjo qlo zye z9c zfc zzx z2c zu3 zno zy1 qrn zvk qrc z3f qrq qy9 qmw znh zry qrf zax qls qxf zss qwr ztb qpm qo8 qtt qm0 z9n qmx qmh zrw x0e qjc zwb zi8 zs6 zz0 qzi qkt z1c qjf qkb zc1 zjh zp8 zgc qv7 zhg qri zr9 zct qxb ql0 qjt qxs qnj qsw ztl z88 z2h zn4 zqt qui qr5 zsr qo3 zvg zpx z6h z8h qyc qin qj4 zxv zjt zb9 qjx zev zn3 zg5 zrf z1y zc0 z5h qsd z8k zma z5g zfe qq3 zxt qxz z1w x1s zui qv2 zkj qyh z7l qzb qob qqc qxt qnn z8p zok quw qxj x03 zkk qic qme qmm qqy zzw zgm qmu qnv zdc zes qsf zah z8i z4m zdy z3n zci qu8 x0h zxx qxe qv4 zha qm6 qn6 zz8 zq3 zoe zln qis que zkp zu6 x1e qx5 zcc z6c zv9 zoz z7i zho zuw zw1 zy4 x0f z5m qug qj6 ql6 qvf zx7 zsc zhl zek z4r zde zga qqb zc9 qkp qpw z3y zhw zu5 zab zru qps zi9 zgw zxl ze8 zh3 qkc zwu zgo qlx z9v qqj qif zx0 zbt zsj x1m qs2 qjb qu0 qwu qt1 znf qoi zxy zi1 zeb zke qwl zfa zn2 zd3 zsx qvh qv5 zmh zda zcw zf5 z1k zh6 z4f z2n qxk z10 zvz zvb zn5 za3 zod z1e zqb qnz quv qjl zng z7j zvm qq5 z8f zb7 qoq x1q zuj qiv zxb z0w zff z5s zme zsm ze1 zdk z4t zl8 zdb z3b z4p zdq zdh z5w z9x z8m zrl z1g ze7 zlt qyu x0z fz1 fz2 fz3 fz4 fz5 fz6 fz7 fz8 fz9 z0u zlc zmq z1a zxz qnu zf0 qu3 qpt zlp zl0 zgp zpr z1v zkb zdo x1i ztm zay ztq qly zze z8t zvy zn1 x1u zp3 zjd zv7 zgg qub qxy qn7 za0 zxh z0e zbj zu1 zbx qld zgn zvw zlz z3t zy5 zdx zbc z6z zfg qjg qq0 z94 qkv z9i z8j zgs ztd qt7 zlg x1z zyo qns zgz z0b qq6 zrc zuo x1n zbd qy6 zp6 x11 qyj znz zq0 qor qjm z1d zaz zm8 qp6 qm1 zmv qs8 qyb zgj qoy zfo x2a z0g qmn zs7 qs1 qul qvs zmn zp7 qiw x0x zpb x26 qp8 qn3 zeg zyb z2a z7f zo0 z6m x0u zoa ztg qk0 zw5 qoc z97 zl1 qqi zmz zwy ztp zzb qqh z6v qli zqh z3d zn6 zrt zk1 zt7 x10 x0v qym zmk z6i z81 zur zu4 qpp qru z5n qil qph zms qjq zg4 zt1 qrg zan zxp znl zg3 qwy qtl zsz zlq qwx qsb qnb qp2 qtq zd6 qv3 qol qlw zq4 qnk zcy x1o qr7 z0q z7q qut qkn qmi qjh zoh z7p qlj zqx qrr x19 zoq qn9 x1f zpg zfz qpz qwv qwz zbn zyk zqd zzn z6b zzh qlp qkl zrm ztw zh1 z04 zi6 z3o qtb zts zk8 z3v x0t x15 zjk x07 z9m zqa qkq zzv z6l z08 x1a zcp z8x zsa qse qt0 zlx qw8 zz5 quj zmi zbo zzr qke qrj z2s zf3 x1j zdm qo9 qry qyn zhq zep zqf qkj zgi qji zri z5l zae ql1 ze2 qww z16 zen qsy qvk zkh zpq zvc zew qsa x1l zv4 z7e zxs zp4 ztj zk9 zvt zcd z1p za8 qzw zqr zj3 zpn qx3 qny z8v zpc zd7 qkk zji zsn zfn qom z4x z1t ze9 qr3 z1l qvr zol zks zyz qz0 qu5 zp5 z4u x1c ql8 qpg zzl zao z05 zxu z5z z9k zwn zzt z7g zi2 qx0 qyf zgl qij qot zwl zhf qxl zj5 qoa zf2 zvj qun qrz zmw zou zfs x14 zau z9r qtr qi9 qwp zbe qyd zz1 zco qix zw7 qzs qmp qiq qjn zz6 z1s zht z4b ztf zgk zj4 zgv qpx z7u qqk z9p zmb z2z z9o zn8 z9h zl9 x01 zc8 zse zvv zpa qp1 z99 zii zka x2c z0k zll zbu zhv z2f qpv z6n zm0 qoe zqo zh7 z1n qi7 zdf zad zxd qjo qzy qvw z8y qqv znr za1 zs3 z1r zug qxc qwb znj zbv zr6 z18 z95 zz9 zqg zpl zr7 qnt zw3 z9j zv8 z1o zaa zzm z4q zz3 z4k x23 qs9 zea zxi qm8 qpb zr2 zyp zd8 zba zpf qr6 qll qql zfw zoo zhc z8a qko zcq z9q zqw quh qlr zj2 zm1 zit zyu qve qsl zdv zo2 zi4 zkw zvh x1b qy0 qqm zzy z7x qoo z1f qqd qwc zey qss qz5 zh8 qjd qlb zlm z8q qz3 zuv zpt zmd zc4 mf1 mf2 mf3 mf4 mf5 mf6 mf7 mf8 mf9 z3s za5 ztr zbr qzz z9w z4a qu6 zx3 zr8 zyv x05 x1p ziu qu1 z5y zx5 zmt zfb qzv qiy qxm zo3 zh9 zkt qof qvg zy2 zw9 qs6 z9e zg0 zal qu9 qj5 qqx qw3 z5i z0p qth zqp z2o qsv qrh qoz zdp zsi zyx zov z2y x06 zne qii z7h zd0 ztz zzc zk2 znv zxm zil zz7 zwx z0j z6u qma x12 qnq z4w zcf qod qpn x0p qrk z9u zwv zhu zus qo2 zh4 zlb zh5 qkw z0y z0l zgu zzp zed z6p qs3 zxn zhb zdj zfh zsh zf7 zrh zcu zam zpu qr8 zj7 zjz zb1 z9a qng x1w z7v z6k ztk qqw qkh qur qxu zca zsy z5x zoy qlk zoc z5d zwe z2j z8b zkl qq4 qo0 qqt z9f zav zbl z2v zkf ziy qkf zo7 z1u qzf qyy zyr qn2 z2k zir zef qwi zyq ze3 zs9 z7n zlh x02 zrn zk3 zp2 zdi z4d zfu z3z qux zim zm4 zqc zjc zo8 qlv qoj qkg qjr qvc qwh qyk zwm qx6 zlu zup zwz zzd z1q zkq ziq x0b qo1 zch qou x1g qpr zxa zqj qzj zob zbb qwm zhz zt0 z2g zp1 qya zs8 z8l zmm zv0 zpp zj8 z4j qsg x1t qzm z7o qts qtf qz6 zvx z4s zmr zvn qrv zdr z5j znq zfi qqz zfy zph z02 zww zsu zki qp0 zfk zqs zm6 qlm qvq zut zti qms qyi zx9 z4y zo9 zia zsb z4l zro z3l qvi qno qsc quk z6a qsx qit zc5 qx1 zmc z6q zl7 qw9 qna zrx zn0 z4g qwn zhx qsm qio qtp z09 zak zqv z5b zqm zn9 zql zij qle zgb qlq ztv qz1 z4h x0o zs2 z2m zjs z13 qtk qmc zja qk7 zxo zx6 z8d zrg zik qrx zvd zw4 z6s qxg zvi z7a qlg z3x qt9 zsd qjv qj9 zom zaf zfp zmy qsp qjy z06 x18 qta z0t zfl z0n qsq zbq ztu zb0 qt3 qm4 qz7 qku zwr qn5 zbi z4c zz4 z4e zyt ze4 qw0 zwh zbg qk8 zq5 qj3 zlk zr4 qp7 zoi zbs qzt z5p zwa zcz zt3 zw6 zxr qt8 qtj z0h z14 qx9 zt2 qwa z6t qiu qy5 z3u z9l zsf zhe qxw zaj qo6 qx2 z9z zaw qk9 qtv zv1 z6f x0n zlj zcm z3h x0s x0r qzx qvp zs4 z6d zfq qir zd4 zk4 qt5 qvo zpy zbp z6g qzq zgy qzl qrw zd2 z1j qzu zl2 x16 qtw znb zft znd z1b qye zot zf6 x08 ql4 zrz zqq x0j zrk zcg z7w z3j zyw za7 z5k zm7 zbz zt9 zul qv9 z7b z7m zie zgd zcj zfj qj1 qw1 z8e qm5 qqn zj0 z0i z15 qyv qw4 qnr qst qwd qmd z7d qum zai zr3 qmr zyj zi7 qw2 zow zis zuk zej qr9 ztn zio z2i ql9 qyp qja z2w qpj qq9 qxh qxa zas qzc z98 ti3 ti4 ti5 ti9 qup zkm znn zjj qo4 zee z0a x2b zh2 zc6 x0y zgq qmt z0s zce qti
set_option maxHeartbeats 4000000
theorem q9y {x n r} (h : q4h x n = some r) : O.call 13 [v_i x,v_i n] [] = some (v_i r,[]) := by
 revert h; unfold q4h
 refine gd fun h1 => ?_
 have f1 := eq_false h1
 rintro ⟨⟩
 exact fF qok
theorem gq {n r} (h : wz n = some r) : O.call 19 [v_i n] [] = some (v_s r,[]) := by
 revert h; unfold wz
 refine bs fun v2 h1 => ?_
 have f1 := z1z h1
 try simp only [en.down] at f1
 refine gd fun h3 => ?_
 have f2 : (1 + v2.length ≤ 2 ^ 62) = True := eq_true h3
 rintro ⟨⟩
 exact fF zif
theorem za4 : ∀ p r,q2j p = some r → O.loop 9 0 ⟨[(1,v_l 7 T.Op.enc p.1),(6,v_r 0 p.2.2.2.2),(15,v_l 1 (kE IntKind.u32) p.2.1),(16,v_i p.2.2.1),(17,v_i p.2.2.2.1)],[(0,Blk.row false 1 (List.map qo p.2.2.2.2))],1⟩ = some (Ex.normal,⟨[(1,v_l 7 T.Op.enc p.1),(6,v_r 0 r)],[(0,Blk.row false 1 (List.map qo r))],1⟩) := by
 refine q2j.partial_correctness _ ?_
 rintro q2j ih15 ⟨os,t15,t16,t17,out⟩ r; dsimp only
 apply it <;> intro h1
 ·refine bg (kE IntKind.u32) fun x3 h2 f1 f2 f3 => ?_
  refine bs fun v5 h4 => ?_
  have f4 := gq h4
  try simp only [en.down] at f4
  refine gd fun h6 => ?_
  have f5 : List.map qo out ++ List.map qo v5 = List.map qo (out ++ v5) := qf9 _ _ _
  intro h; have f6 := ih15 _ _ h; clear h
  try simp only [en.down] at f6
  clear ih15; exact fL fn9
 rintro ⟨⟩
 clear ih15; exact fL fn9
def qgr : ((Bool) ⊕ (Unit)) → Ex × St
 | .inl y => (Ex.ret,⟨[(2,v_b y)],[],0⟩)
 | .inr y => (Ex.normal,⟨[(2,AV.undef)],[],0⟩)
attribute [local go_sem] qgr
theorem zy0 : ∀ p r,uy p = some r → O.loop 33 0 ⟨[(5,v_l 1 q1s p.1),(6,v_i p.2.1),(7,v_i p.2.2)],[],0⟩ = some (qgr r) := by
 refine uy.partial_correctness _ ?_
 rintro uy ih21 ⟨t5,t6,t7⟩ r; dsimp only
 apply it <;> intro h1
 ·refine bg q1s fun x3 h2 f1 f2 f3 => ?_
  refine qgg ?_ (fun h4 h5 => ?_)
  ·rintro (⟨h4,h5⟩ | ⟨h4,h5⟩)
   all_goals
   rintro ⟨⟩
   clear ih21; exact fL q68
  intro h; have f4 := ih21 _ _ h; clear h
  try simp only [en.down] at f4
  clear ih21; exact fL q68
 rintro ⟨⟩
 clear ih21; exact fL q68
theorem q9i {ns r} (h : q1e ns = some r) : O.call 33 [v_l 1 q1s ns] [] = some (v_b r,[]) := by
 revert h; unfold q1e
 refine bs fun v2 h1 => ?_
 have f1 := zy0 _ _ h1
 try simp only [en.down] at f1
 rcases v2 with y3 | y4
 ·dsimp only
  rintro ⟨⟩
  exact fF q68
 dsimp only
 rintro ⟨⟩
 exact fF q68
theorem q62 {s r} (h : q0o s = some r) : O.call 34 [v_s s] [] = some (v_s r,[]) := by
 revert h; unfold q0o
 refine bs fun v2 h1 => ?_
 have f1 := gq h1
 try simp only [en.down] at f1
 refine gd fun h3 => ?_
 have f2 : (v2.length + 1 ≤ 2 ^ 62) = True := eq_true h3
 refine gd fun h4 => ?_
 have f3 := eq_true h4
 try simp only [en.down] at f3
 rintro ⟨⟩
 exact fF z5c
theorem ny {o r} (h : vw o = some r) : O.call 36 [v_g (T.Op.enc o)] [] = some (v_b r,[]) := by
 revert h; unfold vw
 refine qae (fun h1 h2 h3 h4 h5 => ?_) ?_
 ·rintro ⟨⟩
  exact fF qfi
 rintro (⟨h1,h2,h3,h4,h5⟩ | ⟨h1,h2,h3,h4,h5⟩ | ⟨h1,h2,h3,h4,h5⟩ | ⟨h1,h2,h3,h4,h5⟩ | ⟨h1,h2,h3,h4,h5⟩)
 all_goals
 rintro ⟨⟩
 exact fF qfi
theorem qrp : ∀ p r,q1n p = some r → O.loop 20 1 ⟨[(4,AV.ptr 1 0),(5,v_s p.1),(6,v_b p.2.1),(82,v_l 3 T.qd.enc p.2.2.1),(83,v_i p.2.2.2.1),(84,v_i p.2.2.2.2.1)],[(0,b_x (T.Op.enc p.2.2.2.2.2.1)),(1,b_x (T.Op.enc p.2.2.2.2.2.2)),(2,Blk.dead)],3⟩ = some (Ex.normal,⟨[(4,AV.ptr 1 0),(5,v_s r.1),(6,v_b r.2)],[(0,b_x (T.Op.enc p.2.2.2.2.2.1)),(1,b_x (T.Op.enc p.2.2.2.2.2.2)),(2,Blk.dead)],3⟩) := by
 refine q1n.partial_correctness _ ?_
 rintro q1n ih24 ⟨out,ok_,t82,t83,t84,b0_,rest⟩ r; dsimp only
 apply it <;> intro h1
 ·refine bg T.qd.enc fun x3 h2 f1 f2 f3 => ?_
  apply it <;> intro h4
  ·refine bs fun v6 h5 => ?_
   have f4 := q9i h5
   try simp only [en.down] at f4
   refine bs fun v8 h7 => ?_
   have f5 := gq h7
   try simp only [en.down] at f5
   refine bs fun v10 h9 => ?_
   have f6 := gq h9
   try simp only [en.down] at f6
   refine gd fun h11 => ?_
   have f7 := eq_true h11
   try simp only [en.down] at f7
   refine bs fun v13 h12 => ?_
   have f8 := q62 h12
   try simp only [en.down] at f8
   refine gd fun h14 => ?_
   have f9 := eq_true h14
   try simp only [en.down] at f9
   refine gd fun h15 => ?_
   have f10 := eq_true h15
   try simp only [en.down] at f10
   try simp only [h4] at f4 f5 f6 f8
   intro h; have f11 := ih24 _ _ h; clear h
   try simp only [en.down] at f11
   try simp only [h4] at f11
   clear ih24; exact fL zw
  refine bs fun v17 h16 => ?_
  have f12 := gq h16
  try simp only [en.down] at f12
  refine bs fun v19 h18 => ?_
  have f13 := gq h18
  try simp only [en.down] at f13
  refine gd fun h20 => ?_
  have f14 := eq_true h20
  try simp only [en.down] at f14
  refine bs fun v22 h21 => ?_
  have f15 := q62 h21
  try simp only [en.down] at f15
  refine gd fun h23 => ?_
  have f16 := eq_true h23
  try simp only [en.down] at f16
  refine gd fun h24 => ?_
  have f17 := eq_true h24
  try simp only [en.down] at f17
  try simp only [h4] at f12 f13 f15
  intro h; have f18 := ih24 _ _ h; clear h
  try simp only [en.down] at f18
  try simp only [h4] at f18
  clear ih24; exact fL zw
 rintro ⟨⟩
 clear ih24; exact fL zw
theorem zvu : ∀ p r,q1w p = some r → O.loop 20 3 ⟨[(4,AV.ptr 1 0),(5,v_s p.1),(6,v_b p.2.1),(119,v_l 2 T.Sel.enc p.2.2.1),(120,v_i p.2.2.2.1),(121,v_i p.2.2.2.2.1)],[(0,b_x (T.Op.enc p.2.2.2.2.2.1)),(1,b_x (T.Op.enc p.2.2.2.2.2.2)),(2,Blk.dead)],3⟩ = some (Ex.normal,⟨[(4,AV.ptr 1 0),(5,v_s r.1),(6,v_b r.2)],[(0,b_x (T.Op.enc p.2.2.2.2.2.1)),(1,b_x (T.Op.enc p.2.2.2.2.2.2)),(2,Blk.dead)],3⟩) := by
 refine q1w.partial_correctness _ ?_
 rintro q1w ih25 ⟨out,ok_,t119,t120,t121,b0_,rest⟩ r; dsimp only
 apply it <;> intro h1
 ·refine bg T.Sel.enc fun x3 h2 f1 f2 f3 => ?_
  apply it <;> intro h4
  ·refine bs fun v6 h5 => ?_
   have f4 := q9i h5
   try simp only [en.down] at f4
   refine bs fun v8 h7 => ?_
   have f5 := gq h7
   try simp only [en.down] at f5
   refine bs fun v10 h9 => ?_
   have f6 := gq h9
   try simp only [en.down] at f6
   refine gd fun h11 => ?_
   have f7 := eq_true h11
   try simp only [en.down] at f7
   refine gd fun h12 => ?_
   have f8 := eq_true h12
   try simp only [en.down] at f8
   try simp only [h4] at f4 f5 f6
   intro h; have f9 := ih25 _ _ h; clear h
   try simp only [en.down] at f9
   try simp only [h4] at f9
   clear ih25; exact fL zw
  refine bs fun v14 h13 => ?_
  have f10 := gq h13
  try simp only [en.down] at f10
  refine bs fun v16 h15 => ?_
  have f11 := gq h15
  try simp only [en.down] at f11
  refine gd fun h17 => ?_
  have f12 := eq_true h17
  try simp only [en.down] at f12
  refine gd fun h18 => ?_
  have f13 := eq_true h18
  try simp only [en.down] at f13
  try simp only [h4] at f10 f11
  intro h; have f14 := ih25 _ _ h; clear h
  try simp only [en.down] at f14
  try simp only [h4] at f14
  clear ih25; exact fL zw
 rintro ⟨⟩
 clear ih25; exact fL zw
theorem qfu {word r} (h : mh word = some r) : O.call 43 [v_s word] [] = some (v_i r,[]) := by
 revert h; unfold mh
 apply it <;> intro h1
 ·rintro ⟨⟩
  exact fF q57
 apply it <;> intro h2
 ·rintro ⟨⟩
  exact fF q57
 apply it <;> intro h3
 ·rintro ⟨⟩
  exact fF q57
 apply it <;> intro h4
 ·rintro ⟨⟩
  exact fF q57
 apply it <;> intro h5
 ·rintro ⟨⟩
  exact fF q57
 rintro ⟨⟩
 exact fF q57
def qfw (t5 : (List Bytes)) : ((Bytes) ⊕ (Unit)) → Ex × St
 | .inl y => (Ex.ret,⟨[(2,v_s y)],[(0,Blk.row false 1 (List.map jo t5))],1⟩)
 | .inr y => (Ex.normal,⟨[(2,AV.undef)],[(0,Blk.row false 1 (List.map jo t5))],1⟩)
attribute [local go_sem] qfw
theorem z6j : ∀ p r,q3i p = some r → O.loop 35 0 ⟨[(0,v_i p.1),(5,v_r 0 p.2.2.2),(6,v_i p.2.1),(7,v_i p.2.2.1)],[(0,Blk.row false 1 (List.map jo p.2.2.2))],1⟩ = some (qfw p.2.2.2 r) := by
 refine q3i.partial_correctness _ ?_
 rintro q3i ih27 ⟨kind,t6,t7,t5⟩ r; dsimp only
 apply it <;> intro h1
 ·refine bw jo fun x3 h2 f1 f2 f3 => ?_
  refine bs fun v5 h4 => ?_
  have f4 := qfu h4
  try simp only [en.down] at f4
  apply it <;> intro h6
  ·rintro ⟨⟩
   clear ih27; exact fL q65
  intro h; have f5 := ih27 _ _ h; clear h
  try simp only [en.down] at f5
  clear ih27; exact fL q65
 rintro ⟨⟩
 clear ih27; exact fL q65
theorem z7y {kind r} (h : q78 kind = some r) : O.call 35 [v_i kind] [] = some (v_s r,[]) := by
 revert h; unfold q78
 refine bs fun v2 h1 => ?_
 have f1 := z6j _ _ h1
 try simp only [en.down,Nat.reduceAdd,UInt8.reduceToNat] at f1
 rcases v2 with y3 | y4
 ·dsimp only
  rintro ⟨⟩
  exact fF q65
 dsimp only
 rintro ⟨⟩
 exact fF q65
end Go.Proofs.YtaglodpkpggdiaaGreatDoor
