/-
  What the machine's calls come to: the plain functions.
-/
import Derived.Test.YtcelddmcoklooaaGreatDoorJag
import Derived.Test.YtcelddmcoklooaaGreatDoorJah
import Derived.Test.YtcelddmcoklooaaGreatDoorJai
set_option linter.unusedSimpArgs false
set_option linter.unusedVariables false
set_option maxRecDepth 100000
namespace Go.Proofs.YtcelddmcoklooaaGreatDoor
open Go Go.Gm
attribute [go_sem] needs aop q72 q05 List.toList_toArray q7h q6p nz List.take List.drop List.length_cons List.length_nil List.length_map q0x AV.q1f List.append q7l List.getElem?_cons_zero List.getElem?_cons_succ AV.refs AV.ren AV.rows if_true if_false List.nil_append List.append_nil List.cons_append q25 unz q0i q0f q1m qd7 List.getElem?_nil touched List.isEmpty_nil Option.some.injEq aUn q2l PV.cells List.replicate List.set_cons_zero List.set_cons_succ q0r q7d j5 eq_self AV.thaw Blk.thaw q0c q6i aEq qo q2j List.headD_cons ze q6m q39 q5v Blk.ren Blk.refs List.flatMap_nil List.flatMap_cons q47 qda q0o Blk.slv List.map_cons List.map_nil List.drop_zero Option.isSome_none Option.isNone_none Option.isSome_some Option.isNone_some q3q.eq_def qvg refsOf zjb zt9 zz9 x3t zhc x1r zeb qmi z5k zlv z0e zol zju z7r zfm zrq zkw zop qyg zmr z9d zxt zi.eq_1 zi.eq_2 q0b.eq_1 q0b.eq_2 q0b.eq_3 q0b.eq_4 q0b.eq_5 zbh zsr x73 zzf qyk freezes.eq_1 freezes.eq_2 ev.eq_1 ev.eq_2 ev.eq_3 ev.eq_4 Env.get.eq_1 Env.get.eq_2 xw.eq_1 xw.eq_2 qg.eq_1 qg.eq_2 q2q.eq_1 jd.eq_1 jd.eq_2 q2b.eq_1 q2b.eq_2 vw.eq_1 vw.eq_2 q75.eq_1 ldP.eq_1 ldP.eq_2 ldA.eq_1 ldA.eq_2 TI.isAgg.eq_1 q15.eq_1 Heap.get.eq_1 Heap.get.eq_2 Heap.put.eq_1 Heap.put.eq_2 zfs zn0 zqj zt6 x3z qna zg7 qkm zh2 zbt qr0 x0v zb3 zd2 qh1 qs6 zza zrx x1z z3x yl.eq_1 AV.refs.refsL.eq_1 AV.refs.refsL.eq_2 AV.ren.renL.eq_1 AV.ren.renL.eq_2 xz.eq_1 xz.eq_2 jb.eq_1 jb.eq_2 zzl x11 qqe narrow.eq_1 q40.eq_1 restrict.eq_1 restrict.eq_2 Heap.upto.eq_1 Heap.upto.eq_2 Heap.below.eq_1 Heap.below.eq_2 Env.below.eq_1 Env.below.eq_2 q26.eq_1 q26.eq_2 decide_true and_self AV.rows.rowsL.eq_1 AV.rows.rowsL.eq_2 Nat.zero_lt_one Nat.lt_add_one Nat.zero_le Nat.le_refl Nat.zero_add Nat.add_zero and_true true_and Bool.and_true Bool.true_and decide_false Bool.false_eq_true yf.eq_1 yf.eq_2 zfl z8n zg8 uy.eq_1 uy.eq_2 q49.eq_1 q49.eq_2 finish.eq_1 List.range_zero pos.eq_1 pos.eq_2 reach.eq_1 reach.eq_2 reach.eq_3 enter.eq_1 xe.eq_1 xe.eq_2 zu.eq_1 zu.eq_2 um.eq_1 um.eq_2 setEnv.eq_1 setEnv.eq_2 z08 zru zfw zm2 x3s zd7 x68 Bool.not_false Bool.not_true Bool.or_self Bool.or_false Bool.false_or Bool.or_true Bool.true_or x70 x3g ze5 Bool.and_self Bool.and_false Bool.false_and mh.eq_1 mh.eq_2 Nat.mul_one Nat.one_mul true_or or_true false_or or_false or_self and_false false_and Gm.freeze.eq_1 AV.thaw.thawL.eq_1 AV.thaw.thawL.eq_2 zk.eq_1 zk.eq_2 fitAll.eq_1 fitAll.eq_2 fitAll.eq_3 qan.eq_1 q5i.eq_1 gp.eq_1 gp.eq_2 q8y.eq_1 closedIn.eq_1 closedIn.eq_2 pick.eq_1 pick.eq_2 q0k.eq_1 q0k.eq_2 gz.eq_1 gz.eq_2 jm.eq_1 backTo.eq_1 jv.eq_1 jv.eq_2 kv.eq_1 q1c.eq_1 z3t qwg z5a zqe qii qhk qwo zuk zfk z4q qx5 zhv x2b zkq qmp qzc x2p zbi canon.eq_1 q2c.eq_1 q2c.eq_2 q3y.eq_1 q3y.eq_2 yo.eq_1 yo.eq_2 qwn zem zsa qq6 q0p.eq_1 orT.eq_1 orT.eq_2 isBytes.eq_1 q2x.eq_1 zpo q45.eq_1 qyh zlx q19 qcv qbt qfl qwr qcq qeb qee qe4 take_len qyb zsg qjt qhz q8j.eq_1 q8j.eq_2 kE.eq_1 zx6 z7p z10 zjs zr8 zrr zp2 zk6 x0b zar zz7 z2z zf9 z5u qf2 x3f zmt zn2 zvy z6k zoj qic qog qv2 x4k qov z90 zrt zo2 qk8 Int.natCast_zero Int.cast_ofNat_Int q1a q1v take_set List.take_length v_i v_b v_s v_g v_l v_r b_x b_r b_m vg zn kg q3v slE qfr q13.eq_1 q13.eq_2 z6f qai.eq_def T.Span.qf T.Row.qf T.Rx.qf T.Fmt.qf T.Form.qf T.Stop.qf T.qc.qf T.Sel.qf T.qb.qf T.State.qf T.wz.qf T.Op.qf T.ui.qf T.q1l.qf T.q1y.qf T.q29.qf T.q1s.qf T.q17.qf T.z8.qf T.q1h.qf T.q1j.qf T.yx.qf T.uf.qf T.q27.qf T.qz.qf T.Range.qf T.q1k.qf T.q28.qf T.zf.qf T.q1u.qf T.q08.qf T.q1w.qf cm0 cm1 cm2 zs6 kp3 qp6 x2v zte zc4 zix z6d z0m ql6 zfh qzq qs2 zqg qu9 zv4 zec zcy x1j zao z06 qqd z7t zpd z2r zm7 qi1 zgr x0m zsk z2i zn8 zm5 zc1 qxz zui qk9 qu7 z5v qvf zmw z16 zm3 z8h qpc qjj zvp zwn zcw qnf qwp qng x5j zmu qot zib z5w qrw qnq x3l zmv qsv zmq zym zk7 zun zky x6o z6j qrm zvt x1k zhg z8s x3m qgx z3z qpi zie zxl zq4 qx6 z9m zyn z4x zpr z0x qyj zhe zx7 qmr qvp zg2 z6l qz1 x4u qtj qxk zvn zcu zq8 qsc x3n zyu zyw zwa x6e qjv qjx zct zut zlz znf zwb x0j qvj qtx zqa x0u qw6 zmn z9e qzo pr3 qj3 kp4 cm4 pr4 zw2 kp5 cm5 pr5 zwz kp6 cm6 pr6 cm7 cm8 cm9 zak zu0 qjm x6z qvo x5g z1v x18 qhd zbe zio qja z5r qpn z9r zxv z5l zns qn3 z04 qws zkm z8f qse zl3 z8a ziy qtn zi2 zug zfu x45 zkk zbv qyd qxp zp0 znp zsm x1i zwv z6v qs1 zqb zv0 x2d qhv zh8 z3b x6t zfz x76 x4t zzh z0r x3h zev zxz zwf qyt qp7 zh4 qvn qvy zvb x4j ztu zqh zyt qwh zw0 zd4 z97 qj4 zn9 zmk qm1 x3p x33 z7a zqz zin zra qoq qvz qrf zpl ql2 x2c zbn z0f zuw qht qkn z1l zkh zmx zpm zrb z7u qwt zv2 zn7 zzb zdx x6v z6w x3x x0d z5o qw4 x3u x0n zwi qya zxq qzb z5p zdt qo6 x5z zor z0b x7a zh5 zyi z4o zby qqs qpt qlo qqn zod qsy zc2 qki zkc za8 x5k zo5 za5 qoj qsm z02 qh7 qzu qk1 qka x12 z1z zj0 z2m x3y x4x zgs qjo ze0 zzr zz1 qob zr0 qid z7e z05 qkt zi3 qrg zgu za6 zxa x1h zna qye qxw z8d zzs qqc z5s zkv qmd zpn zeo zcv zmi qnd zkx zdd zvq qhw qze z2j zto qn4 qvs x3w zfg ze2 qqo x50 zwd qr8 zo6 ql7 z8i z6t zz6 z1x zjt zv9 x1m qp0 zm8 zax qi6 ziq zdy qlc zqk znt zid zj6 z0l qsb zmj zlg zbl qy4 zmf zpi qpx z9w qoz qww qjy z8r z6m x5t z0i qyp zox znl z9n qib qup zkz qzw qub ze7 zx5 zyj zfn qlu zu5 qo5 qtl zvh qp1 z5g z0o qyl zo8 zog zr6 zgh qy3 z4v z7w z94 zkt qtw qu6 z99 zwj zil ql4 zcp qsr z8p qn7 x02 qxh z9b znu qmt x4v zvi qwq zoh qlp qpo x5x zfb x5l z3c x4o z5h z9j qry z0d z7c qsn zx8 zzv zlr x3r zmp qzm x2q qlx qtu z3e x2s z1t x60 qk7 x2w zjq qxt zq2 z1e zp3 x6h z9k zwh zet zzg zob qri x0e zc7 qqb qv8 z09 qml qrr z9x qhj zhq z0p qv6 zmc znm qte zam qq9 quc zue qq8 zdj qir z2p zvx qko qom zhn qw0 zco zjf qnk zda zca zff qxc x0k z8q zdm zgy zg4 qps qmw x7p x7b qvv qwi qut x56 x7c ze3 zhp qkv qod qts x1x qjf qpk zng x79 z6i x7h zom qv5 zlq qrx zbm z00 zqo x4l qu2 qz7 zbr zso qvc zst qw2 qzn zgd qt2 qph z8g qti z4j ztg qvx zdf qt9 x3d z2s qu8 qqq zze qm5 z6b qy6 zzj z7d qn6 qip zf2 zgl qn0 qkg z1m qil z4z qqg qh9 ztm x6d zuz x6p x3a zcd qyu qrz x6x zo9 zrz zjk zqr z5z x2m z8z zl8 zht qn1 zre zyc zzx zyx z5t zae qx7 qvb zpw qo0 qlt x49 zn5 qm0 z2a qpa zjc zsu x03 zgf zc6 zoo zz4 zl6 zyz zh0 qq4 zds qxu qp4 qr5 zd8 z4n zw6 zvo zcl zw1 z0k qsk zoz z3h qt3 zim x6c qy7 qum zzu zuo z6q z4h z6o ztc zuq zit quh zxg zy7 qp2 z3m qth zan zzt znv x7d x42 qpy zp4 x6n qie qw8 x15 zc5 z4y zpq zp8 qnp zwo zj2 qwj x5e zrs qx9 ql0 qkp zny quj qij z5n zvf ze8 qox zsy zu1 qqh z6x zm0 z8j qwa qkc zs1 zmh z7v zjh x0g que qr6 z1o zq9 qt7 qky qjp zgm zc3 zgn qju z9z z2d zpg zvr zqd x58 zdu fz1 fz2 fz3 fz4 fz5 fz6 fz7 fz8 fz9 zhb x7i qlq zvl x16 z5m zqi zq7 x04 qla qsh z2l z7z z2g zal qt6 zmg znb zdc zj7 z0a qhe zwt zv8 zqm zyv z5i zfa zm1 qjl qo9 zb0 zcf qy0 qha qhc zbg x1n qw3 zj4 zrn zjm zc0 zj8 qmx z5f qkr zon x6q quz x7m zks qym zcj zhu qrs qsi zql zyf x7g z8t qyn qra x37 qlw zo3 qqa qp3 qiq quv zn3 zpu ztl x6f zck z2w zcc z2u z4k x0s ztr z11 qls znd z6p zs4 zd6 x1v qq7 zww qpu qx1 x4y z0u z9p qy1 zpj qkf zu9 x0y qo7 zqn zsz zms zq0 z7y zlp ziv zy2 qoi x48 zxy qvu qw5 qrj qtq zs9 zdw qv1 zcx zk5 qtk z8c qj0 z9a qvq qn5 qn2 zxi zko qr4 zw9 zia z8k zry z95 zed ztx qtc qt0 qpf zfo zln qyy qyf x3i qkw z2x qoo qmo zhy zow zyk zxd zyl zdv zs5 x6a z6e z4i zhz zly zkp x57 qiz qvt z9u z7f zr7 qkk zbc zhi zjy x1u z9q z6z qk6 z0j qlr zz5 zdz qiw qo1 zzk zsv zwp z1y qnu zoc qj7 zye z7o qpe zw7 qm3 qtb zu8 qol x4h z7h qyr qzk qz5 qtf zlc qkj qzx x4i zs7 qsu qmy zts zdh x05 zkb qnn qlj zta qmm qmc qzp qme qwy qyo zbw qx2 qn8 x51 qhy qvl z2c zqw qwk zxj qy5 zbj z3q zfe qto zh3 qmz qug zav z03 x53 zov qz4 x2x qyc zej zy5 znw qq1 quy zg5 ztj zbf z1d z7g x2k z4l qmq zfq qs0 zk0 zv5 ze9 zuj ze6 qlk zeq z8x zcs qy8 qp8 z88 ziz z3v zyg qiv ql3 zsx qpm z7k zgj qim x6s zfi zi4 qwb znh qm9 zje zee x3k zmb z2e qty qj1 x6r qia qtr qo8 qr2 qxs x78 x2u z3a zbo ztn zvj qr3 qr7 ql5 qll zi0 qjd z7s x4r z6s qrk x2r zyr zrl z3l z9i zjv x4n zqs qne qt1 qy2 qwe zr3 qo2 z3o z5b zbs qif x23 qtv z0q zy0 qof qsx x2f zu4 zxu x0o x3e qhn qsz zka qu5 qjw zd5 qrb x6m qur zd9 qpr qnl qpz qrh x3j x1a qx3 qj8 qvd qss z5d qo4 x5q qus qjs zkd zz0 zlm qhl zaz zcz qxr qq0 zy8 qh0 zl9 qwc zxe z1n qkb zve zt0 zsf zha qzz zdp z2t qpl qh6 zn4 qgy z9y quw zsh z4w zf5 x6j z3j zv7 x52 ztf qrt z5c zhm zgg zvm zva qq2 zb7 zmd qs8 qow zfv qqf x5m zzo x7j qhb zih qis znq qz8 qrn qt8 qi7 zpf qsg qve zd3 zxr zu6 qit zwu x62 zq5 zxs qs7 qi3 qoe x6y zj9 qx4 zrm qu0 z6g zfr zoa z3p z9f x36 x3v qiy za9 x14 qhs zaf z1r zq6 ztw qw1 zwe qld zlk zw8 zse x1d zxm zf3 z5j zh6 qru quf mf1 mf2 mf3 mf4 mf5 mf6 mf7 mf8 mf9 x5c qyw zjn zic zw5 z8b ql9 x08 qpq zc9 qvi zhd x5v qv9 zqy x2t zu3 z8l qs9 z3k zxb qzs zep x4p qkz qih z0y qu3 zq3 qkd x4d z0g zgo z2y x7o zlt qpd zel qi5 zi1 zoq qly x6w zth zx2 z13 zfx qmf z1b z0s qji x2h zwq qnr zoi x1s qtg x5h z4b z9v x01 znk zkl zd1 qi4 ztt qi2 z0h zld qx8 zge zou zzn zpz zbz z6h zn6 zdi zo7 qny zok x6i qsw zpe zi8 ql1 z0w zcn x2e qqu ztp qtm zfj zgp z2v z1s x5s zb9 zw3 z7x x5r qk4 z9g x59 zl7 qs3 qul zek zei z1f x0r qlm qta zes qro zyy zvc zjw x4z zpa zmz zpt ztv zuy qzj zaj zjz z4t zt8 zgw qyv zjx zau x63 x0i qsd zf1 zr1 znn z6n x1y x1o zf6 qns ze1 qxi zrv qnx zma qxm x2n qh8 zii zga qs4 z98 z1w x64 qmb x2y qh4 zsi x21 qwx x47 zp7 z81 zdk z4d qle zkj zyd zzy zfc qw9 quq zqt qgz x0f zea z1u zcg zvk z2n zdb zo1 x6g qjg zvv zne qxo qik qre x00 qw7 z5x zys zgx zen zk8 qho x4w qwm qxf zxn x0t z7b zg1 qi0 z4c x2z qr9 zyo x06 z8v zbk zhl x2j z5y zuv zgz z0v zkn zah zaw qzl znj zaq zu7 za2 zhh zpv zkr qh2 qhr zzc x4c qj2 zf7 z9l zcq qsj qu1 z1c qjz x0p qkq qtt qy9 zni qrc zef zke zk3 z1a zsp zgi zjg zrd zac zc8 x1g zkf qnh qlv quu x2i zr2 zqq qk5 qke z3g qsf zhj z1k qma qhg z9t zhf zbx zhr z2f x0z qv7 zir qrv qm4 zpb qjb zt1 z7i qj9 qst x0x ztb zo0 x7n zos qua zy6 qv0 z9c qj6 x4a qys z8m zro x5i x19 zs8 z3y zba qoc qln zoe qnm z4p qin qkx x5u zyp zri zf0 zx3 zsw znc qhx zew qno x7e qix x22 qoh qio qs5 zyq qhp zde zps x1w qvm zhs zeh zer x1p zur x35 z3n zml x3b x4m zwk zb2 ztq zft zsc zlj z6r zws znx zqp zup zxw qh5 qyx x44 zdl qva qlz zh1 zzi zli za1 zf4 x5p qun qjc qmu zgt zuu ziw zpy qig zdo zdn qpb qxn zm9 zhk qwd zf8 x65 qpg zx4 zya zuh zz8 zp1 zt2 qj5 z4m x5b qud z6c qq5 qmg x61 qzi zll zvz z0z z4a z9h znr qor z1g zr4 z7l zzw qyq zr5 zgk zr9 zzm z6y x72 x4f zg6 qqw x6k zj5 zl0 qql zgc x5o qnc qoa z7m qwu qxj qxv qso zch ql8 x0q x1e qi9 zoy zvw zxk zi9 za7 qqr zwr qxg zk9 zph x74 zy9 x1c qv4 z9s z1j zgb qhh qpj z4f z8e z9o zh9 z2k qui zt7 zyb qqt z4e zp6 qo3 qzy zb1 zex zx0 ti3 ti4 ti5 ti9 x75 zno zrp z18 zn1 x7l zrj zgq z5q zti qwz qwf qjh qk2 x0w zme qxd
set_option maxHeartbeats 4000000
theorem q3p {s r} (h : q02 s = some r) : O.call 65 [v_g (T.Sel.enc s)] [] = some (v_g (T.Span.enc r),[]) := by
 revert h; unfold q02
 rintro ⟨⟩
 exact fF zl1
theorem qeg {s n r} (h : q4k s n = some r) : O.call 64 [v_g (T.Span.enc s),v_i n] [] = some (v_b r,[]) := by
 revert h; unfold q4k
 refine qa2 (fun h1 h2 => ?_) ?_
 ·rintro ⟨⟩
  exact fF qgq
 rintro (⟨h1,h2⟩ | ⟨h1,h2⟩)
 all_goals
 rintro ⟨⟩
 exact fF qgq
def qde (l : (Sl T.Sel)) : (((Sl T.Sel) × Int) ⊕ (Unit)) → Ex × St
 | .inl y => (Ex.ret,⟨[(1,v_l 2 T.Sel.enc l),(4,v_l 2 T.Sel.enc y.1),(5,v_i y.2)],[],0⟩)
 | .inr y => (Ex.normal,⟨[(1,v_l 2 T.Sel.enc l),(4,AV.undef),(5,AV.undef)],[],0⟩)
attribute [local go_sem] qde
theorem zl2 : ∀ p r,q3g p = some r → O.loop 30 0 ⟨[(0,v_i p.1),(1,v_l 2 T.Sel.enc p.2.1),(14,v_l 2 T.Sel.enc p.2.2.1),(15,v_i p.2.2.2.1),(16,v_i p.2.2.2.2)],[],0⟩ = some (qde p.2.1 r) := by
 refine q3g.partial_correctness _ ?_
 rintro q3g ih5 ⟨n,l,t14,t15,t16⟩ r; dsimp only
 apply it <;> intro h1
 ·refine bg T.Sel.enc fun x3 h2 f1 f2 f3 => ?_
  refine bs fun v5 h4 => ?_
  have f4 := q3p h4
  try simp only [en.down] at f4
  refine bs fun v7 h6 => ?_
  have f5 := qeg h6
  try simp only [en.down] at f5
  apply it <;> intro h8
  ·rintro ⟨⟩
   clear ih5; exact fL q2t
  intro h; have f6 := ih5 _ _ h; clear h
  try simp only [en.down] at f6
  clear ih5; exact fL q2t
 rintro ⟨⟩
 clear ih5; exact fL q2t
def qgu : (((Sl T.Sel)) ⊕ ((List T.Sel))) → AV × Heap
 | .inl y => (v_l 2 T.Sel.enc y,[])
 | .inr y => (v_r 0 y,[(0,Blk.row false 2 (List.map T.Sel.enc y))])
attribute [local go_sem] qgu
theorem zwg {s r} (h : q81 s = some r) : O.call 50 [v_l 2 T.Sel.enc s] [] = some (qgu r) := by
 revert h; unfold q81
 apply it <;> intro h1
 ·rintro ⟨⟩
  exact fF qfc
 have f1 := q84 2 T.Sel.enc s.l
 refine gd fun h2 => ?_
 rintro ⟨⟩
 exact fF qfc
theorem qbl {x r} (h : cmp_isNaN_int x = some r) : O.call 168 [v_i x] [] = some (v_b r,[]) := by
 revert h; unfold cmp_isNaN_int
 rintro ⟨⟩
 exact fF zwc
theorem qfq {x y r} (h : cmp_Compare_int x y = some r) : O.call 109 [v_i x,v_i y] [] = some (v_i r,[]) := by
 revert h; unfold cmp_Compare_int
 refine bs fun v2 h1 => ?_
 have f1 := qbl h1
 try simp only [en.down] at f1
 refine bs fun v4 h3 => ?_
 have f2 := qbl h3
 try simp only [en.down] at f2
 apply it <;> intro h5
 ·apply it <;> intro h6
  ·try simp only [h5,h6] at f1 f2
   rintro ⟨⟩
   exact fF q4o
  try simp only [h5,h6] at f1 f2
  rintro ⟨⟩
  exact fF q4o
 apply it <;> intro h7
 ·try simp only [h5,h7] at f1 f2
  rintro ⟨⟩
  exact fF q4o
 apply it <;> intro h8
 ·try simp only [h5,h7] at f1 f2
  rintro ⟨⟩
  exact fF q4o
 apply it <;> intro h9
 ·try simp only [h5,h7] at f1 f2
  rintro ⟨⟩
  exact fF q4o
 try simp only [h5,h7] at f1 f2
 rintro ⟨⟩
 exact fF q4o
def qff (zero : Int) (t6 : (List Int)) : ((Int) ⊕ (Unit)) → Ex × St
 | .inl y => (Ex.ret,⟨[(2,v_i y),(3,v_i zero)],[(0,Blk.row false 1 (List.map zn t6))],1⟩)
 | .inr y => (Ex.normal,⟨[(2,AV.undef),(3,v_i zero)],[(0,Blk.row false 1 (List.map zn t6))],1⟩)
attribute [local go_sem] qff
theorem qms : ∀ p r,q5q p = some r → O.loop 108 0 ⟨[(3,v_i p.1),(6,v_r 0 p.2.2.2),(7,v_i p.2.1),(8,v_i p.2.2.1)],[(0,Blk.row false 1 (List.map zn p.2.2.2))],1⟩ = some (qff p.1 p.2.2.2 r) := by
 refine q5q.partial_correctness _ ?_
 rintro q5q ih20 ⟨zero,t7,t8,t6⟩ r; dsimp only
 apply it <;> intro h1
 ·refine bw zn fun x3 h2 f1 f2 f3 => ?_
  apply it <;> intro h4
  ·rintro ⟨⟩
   clear ih20; exact fL q5b
  intro h; have f4 := ih20 _ _ h; clear h
  try simp only [en.down] at f4
  clear ih20; exact fL q5b
 rintro ⟨⟩
 clear ih20; exact fL q5b
theorem zg0 {r_ r} (h : q9q r_ = some r) : O.call 108 [v_r 0 r_] [(0,Blk.row false 1 (List.map zn r_))] = some (v_i r,[(0,Blk.row false 1 (List.map zn r_))]) := by
 revert h; unfold q9q
 refine bs fun v2 h1 => ?_
 have f1 := qms _ _ h1
 try simp only [en.down] at f1
 rcases v2 with y3 | y4
 ·dsimp only
  rintro ⟨⟩
  exact fF q5b
 dsimp only
 rintro ⟨⟩
 exact fF q5b
theorem qe0 {a b r} (h : q7s a b = some r) : O.call 107 [v_g (T.Sel.enc a),v_g (T.Sel.enc b)] [] = some (v_i r,[]) := by
 revert h; unfold q7s
 refine bs fun v2 h1 => ?_
 have f1 := q3p h1
 try simp only [en.down] at f1
 refine bs fun v4 h3 => ?_
 have f2 := q3p h3
 try simp only [en.down] at f2
 refine bs fun v6 h5 => ?_
 have f3 := qfq h5
 try simp only [en.down] at f3
 refine bs fun v8 h7 => ?_
 have f4 := qfq h7
 try simp only [en.down] at f4
 refine bs fun v10 h9 => ?_
 have f5 := zg0 h9
 try simp only [en.down,Nat.reduceAdd] at f5
 rintro ⟨⟩
 exact fF zpp
theorem zof {data a b i j r} (h : q8s data a b i j = some r) : O.loop 238 2 ⟨[(0,v_l 2 T.Sel.enc data),(1,v_i a),(2,v_i b),(3,AV.pv (PV.fn 107)),(8,v_i i),(9,v_i j)],[],0⟩ = some (Ex.normal,⟨[(0,v_l 2 T.Sel.enc data),(1,v_i a),(2,v_i b),(3,AV.pv (PV.fn 107)),(8,v_i i)],[],0⟩) := by
 revert h; unfold q8s
 apply it <;> intro h1
 ·refine bg T.Sel.enc fun x3 h2 f1 f2 f3 => ?_
  refine bg T.Sel.enc fun x5 h4 f4 f5 f6 => ?_
  refine bs fun v7 h6 => ?_
  have f7 := qe0 h6
  try simp only [en.down] at f7
  apply it <;> intro h8
  ·rintro ⟨⟩
  rintro ⟨⟩
  exact fL nu
 rintro ⟨⟩
 exact fL nu
theorem x5y : ∀ p r,q5m p = some r → O.loop 238 0 ⟨[(0,v_l 2 T.Sel.enc p.1),(1,v_i p.2.1),(2,v_i p.2.2.1),(3,AV.pv (PV.fn 107)),(8,v_i p.2.2.2)],[],0⟩ = some (Ex.normal,⟨[],[],0⟩) := by
 refine q5m.partial_correctness _ ?_
 rintro q5m ih14 ⟨data,a,b,i⟩ r; dsimp only
 apply it <;> intro h1
 ·refine bs fun v3 h2 => ?_
  have f1 := zof h2
  try simp only [en.down] at f1
  intro h; have f2 := ih14 _ _ h; clear h
  try simp only [en.down] at f2
  clear ih14; exact fL nu
 rintro ⟨⟩
 clear ih14; exact fL nu
theorem qbz {data a b r} (h : q7j data a b = some r) : O.call 238 [v_l 2 T.Sel.enc data,v_i a,v_i b,AV.pv (PV.fn 107)] [] = some (AV.tup [],[]) := by
 revert h; unfold q7j
 refine bs fun v2 h1 => ?_
 have f1 := x5y _ _ h1
 try simp only [en.down] at f1
 rintro ⟨⟩
 exact fF nu
theorem qhm : ∀ p r,q5x p = some r → O.loop 167 0 ⟨[(0,v_l 2 T.Sel.enc p.1),(1,v_i p.2.1),(2,AV.pv (PV.fn 107)),(6,v_i p.2.2.1),(7,v_i p.2.2.2.1),(8,v_i p.2.2.2.2)],[],0⟩ = some (Ex.normal,⟨[(0,v_l 2 T.Sel.enc p.1),(1,v_i p.2.1),(2,AV.pv (PV.fn 107)),(6,v_i p.2.2.1),(7,v_i r)],[],0⟩) := by
 refine q5x.partial_correctness _ ?_
 rintro q5x ih12 ⟨data,n,blockSize,a,b⟩ r; dsimp only
 apply it <;> intro h1
 ·refine bs fun v3 h2 => ?_
  have f1 := qbz h2
  try simp only [en.down] at f1
  intro h; have f2 := ih12 _ _ h; clear h
  try simp only [en.down] at f2
  clear ih12; exact fL yz
 rintro ⟨⟩
 clear ih12; exact fL yz
theorem zl5 {data n blockSize a b r} (h : q9i data n blockSize a b = some r) : O.loop 167 4 ⟨[(0,v_l 2 T.Sel.enc data),(1,v_i n),(2,AV.pv (PV.fn 107)),(6,v_i blockSize),(7,v_i a),(8,v_i b)],[],0⟩ = some (Ex.normal,⟨[(0,v_l 2 T.Sel.enc data),(1,v_i n),(2,AV.pv (PV.fn 107)),(6,v_i blockSize),(7,v_i a)],[],0⟩) := by
 revert h; unfold q9i
 apply it <;> intro h1
 ·rintro ⟨⟩
 rintro ⟨⟩
 exact fL yz
theorem zls : ∀ p r,q5o p = some r → O.loop 167 2 ⟨[(0,v_l 2 T.Sel.enc p.1),(1,v_i p.2.1),(2,AV.pv (PV.fn 107)),(6,v_i p.2.2)],[],0⟩ = some (Ex.normal,⟨[],[],0⟩) := by
 refine q5o.partial_correctness _ ?_
 rintro q5o ih21 ⟨data,n,blockSize⟩ r; dsimp only
 apply it <;> intro h1
 ·refine bs fun v3 h2 => ?_
  have f1 := zl5 h2
  try simp only [en.down] at f1
  apply it <;> intro h4
  ·rintro ⟨⟩
  intro h; have f2 := ih21 _ _ h; clear h
  try simp only [en.down] at f2
  clear ih21; exact fL yz
 rintro ⟨⟩
 clear ih21; exact fL yz
theorem qzr {data n r} (h : q9k data n = some r) : O.call 167 [v_l 2 T.Sel.enc data,v_i n,AV.pv (PV.fn 107)] [] = some (AV.tup [],[]) := by
 revert h; unfold q9k
 refine bs fun v2 h1 => ?_
 have f1 := qhm _ _ h1
 try simp only [en.down] at f1
 refine bs fun v4 h3 => ?_
 have f2 := qbz h3
 try simp only [en.down] at f2
 refine bs fun v6 h5 => ?_
 have f3 := zls _ _ h5
 try simp only [en.down] at f3
 rintro ⟨⟩
 exact fF yz
theorem zmo {x r} (h : q92 x = some r) : O.call 106 [v_l 2 T.Sel.enc x,AV.pv (PV.fn 107)] [] = some (AV.tup [],[]) := by
 revert h; unfold q92
 refine bs fun v2 h1 => ?_
 have f1 := qzr h1
 try simp only [en.down] at f1
 rintro ⟨⟩
 exact fF qgt
theorem qf8 {a b r} (h : q8g a b = some r) : O.call 110 [v_g (T.Span.enc a),v_g (T.Span.enc b)] [] = some (v_b r,[]) := by
 revert h; unfold q8g
 rintro ⟨⟩
 exact fF x07
theorem zle : ∀ p r,q1x p = some r → O.loop 66 0 ⟨[(4,v_r 0 p.2.2.2),(14,v_l 2 T.Sel.enc p.1),(15,v_i p.2.1),(16,v_i p.2.2.1)],[(0,b_r 2 T.Sel.enc p.2.2.2)],1⟩ = some (Ex.normal,⟨[(4,v_r 0 r)],[(0,b_r 2 T.Sel.enc r)],1⟩) := by
 refine q1x.partial_correctness _ ?_
 rintro q1x ih23 ⟨t14,t15,t16,out⟩ r; dsimp only
 apply it <;> intro h1
 ·refine bg T.Sel.enc fun x3 h2 f1 f2 f3 => ?_
  apply it <;> intro h4
  ·refine gd fun h5 => ?_
   have f4 := rG 2 T.Sel.enc out
   have f5 : List.map T.Sel.enc out ++ [[PV.int IntKind.i64 x3.anchor,PV.int IntKind.i64 x3.head]] = List.map T.Sel.enc (out ++ [x3]) := by simp only [List.map_append,List.map_cons,List.map_nil,q1a,q1v,q19,T.Sel.qf] <;> rfl
   intro h; have f6 := ih23 _ _ h; clear h
   try simp only [en.down] at f6
   clear ih23; exact fL uq
  refine bW T.Sel.enc 2 fun x7 h6 f7 f8 f9 f10 f11 => ?_
  refine bs fun v9 h8 => ?_
  have f12 := q3p h8
  try simp only [en.down,f10,f11] at f12
  refine bs fun v11 h10 => ?_
  have f13 := q3p h10
  try simp only [en.down,f10,f11] at f13
  refine bs fun v13 h12 => ?_
  have f14 := qf8 h12
  try simp only [en.down,f10,f11] at f14
  apply it <;> intro h14
  ·refine gd fun h15 => ?_
   have f15 : List.map T.Sel.enc out ++ [[PV.int IntKind.i64 x3.anchor,PV.int IntKind.i64 x3.head]] = List.map T.Sel.enc (out ++ [x3]) := by simp only [List.map_append,List.map_cons,List.map_nil,q1a,q1v,q19,T.Sel.qf] <;> rfl
   try simp only [f10,f11] at f12 f13 f14
   intro h; have f16 := ih23 _ _ h; clear h
   try simp only [en.down,f10,f11] at f16
   try simp only [f10,f11] at f16
   clear ih23; exact fL uq
  apply it <;> intro h16
  ·have f17 := map_set T.Sel.enc out ((IntKind.i64.wrap ((out.length : Int) - (1 : Int))).toNat) (T.Sel.mk (if v11.to > v9.to then v11.to else v9.to) v9.frm)
   try simp only [en.down] at f17
   try simp only [f10,f11] at f12 f13 f14 f17
   intro h; have f18 := ih23 _ _ h; clear h
   try simp only [en.down,f10,f11] at f18
   try simp only [f10,f11] at f18
   clear ih23; exact fL uq
  have f19 := map_set T.Sel.enc out ((IntKind.i64.wrap ((out.length : Int) - (1 : Int))).toNat) (T.Sel.mk v9.frm (if v11.to > v9.to then v11.to else v9.to))
  try simp only [en.down] at f19
  try simp only [f10,f11] at f12 f13 f14 f19
  intro h; have f20 := ih23 _ _ h; clear h
  try simp only [en.down,f10,f11] at f20
  try simp only [f10,f11] at f20
  clear ih23; exact fL uq
 rintro ⟨⟩
 clear ih23; exact fL uq
theorem zi6 : ∀ p r,q5h p = some r → r.length = p.2.2.2.2.length ∧ O.loop 238 2 ⟨[(0,v_r 0 p.2.2.2.2),(1,v_i p.1),(2,v_i p.2.1),(3,AV.pv (PV.fn 107)),(8,v_i p.2.2.1),(9,v_i p.2.2.2.1)],[(0,Blk.row false 2 (List.map T.Sel.enc p.2.2.2.2))],1⟩ = some (Ex.normal,⟨[(0,v_r 0 r),(1,v_i p.1),(2,v_i p.2.1),(3,AV.pv (PV.fn 107)),(8,v_i p.2.2.1)],[(0,Blk.row false 2 (List.map T.Sel.enc r))],1⟩) := by
 refine q5h.partial_correctness _ ?_
 rintro q5h ih30 ⟨a,b,i,j,data⟩ r; dsimp only
 apply it <;> intro h1
 ·refine bw T.Sel.enc fun x3 h2 f1 f2 f3 => ?_
  refine bw T.Sel.enc fun x5 h4 f4 f5 f6 => ?_
  refine bs fun v7 h6 => ?_
  have f7 := qe0 h6
  try simp only [en.down] at f7
  apply it <;> intro h8
  ·have f8 := map_set T.Sel.enc data j.toNat x5
   try simp only [en.down] at f8
   refine bw T.Sel.enc fun x10 h9 f9 f10 f11 => ?_
   try simp only [List.length_set] at f11
   have f12 := map_set T.Sel.enc (data.set j.toNat x5) ((IntKind.i64.wrap (j - (1 : Int))).toNat) x3
   try simp only [en.down] at f12
   intro h; obtain ⟨f13L,f13⟩ := ih30 _ _ h; clear h
   try simp only [en.down] at f13
   clear ih30; exact ⟨by first | rfl | (simp only [List.length_set,f13L]; done),fL nu⟩
  rintro ⟨⟩
  clear ih30; exact ⟨by first | rfl | (simp only [List.length_set]; done),fL nu⟩
 rintro ⟨⟩
 clear ih30; exact ⟨by first | rfl | (simp only [List.length_set]; done),fL nu⟩
theorem z07 : ∀ p r,q44 p = some r → r.length = p.2.2.2.length ∧ O.loop 238 0 ⟨[(0,v_r 0 p.2.2.2),(1,v_i p.1),(2,v_i p.2.1),(3,AV.pv (PV.fn 107)),(8,v_i p.2.2.1)],[(0,Blk.row false 2 (List.map T.Sel.enc p.2.2.2))],1⟩ = some (Ex.normal,⟨[],[(0,Blk.row false 2 (List.map T.Sel.enc r))],1⟩) := by
 refine q44.partial_correctness _ ?_
 rintro q44 ih29 ⟨a,b,i,data⟩ r; dsimp only
 apply it <;> intro h1
 ·refine bs fun v3 h2 => ?_
  obtain ⟨f1L,f1⟩ := zi6 _ _ h2
  try simp only [List.length_set] at f1L
  try simp only [en.down,f1L] at f1
  try simp only [f1L] at f1
  intro h; obtain ⟨f2L,f2⟩ := ih29 _ _ h; clear h
  try simp only [en.down,f1L] at f2
  try simp only [f1L] at f2
  clear ih29; exact ⟨by first | rfl | (simp only [List.length_set,f2L,f1L]; done),fL nu⟩
 rintro ⟨⟩
 clear ih29; exact ⟨by first | rfl | (simp only [List.length_set]; done),fL nu⟩
theorem qb9 {a b r_ r} (h : q4j a b r_ = some r) : r.length = r_.length ∧ O.call 238 [v_r 0 r_,v_i a,v_i b,AV.pv (PV.fn 107)] [(0,Blk.row false 2 (List.map T.Sel.enc r_))] = some (AV.tup [],[(0,Blk.row false 2 (List.map T.Sel.enc r))]) := by
 revert h; unfold q4j
 refine bs fun v2 h1 => ?_
 obtain ⟨f1L,f1⟩ := z07 _ _ h1
 try simp only [List.length_set] at f1L
 try simp only [en.down,f1L] at f1
 try simp only [f1L] at f1
 rintro ⟨⟩
 exact ⟨by first | rfl | (simp only [List.length_set,f1L]; done),fF nu⟩
theorem zxo : ∀ p r,q4s p = some r → r.2.length = p.2.2.2.2.length ∧ O.loop 167 0 ⟨[(0,v_r 0 p.2.2.2.2),(1,v_i p.1),(2,AV.pv (PV.fn 107)),(6,v_i p.2.1),(7,v_i p.2.2.1),(8,v_i p.2.2.2.1)],[(0,Blk.row false 2 (List.map T.Sel.enc p.2.2.2.2))],1⟩ = some (Ex.normal,⟨[(0,v_r 0 r.2),(1,v_i p.1),(2,AV.pv (PV.fn 107)),(6,v_i p.2.1),(7,v_i r.1)],[(0,Blk.row false 2 (List.map T.Sel.enc r.2))],1⟩) := by
 refine q4s.partial_correctness _ ?_
 rintro q4s ih27 ⟨n,blockSize,a,b,data⟩ r; dsimp only
 apply it <;> intro h1
 ·refine bs fun v3 h2 => ?_
  obtain ⟨f1L,f1⟩ := qb9 h2
  try simp only [List.length_set] at f1L
  try simp only [en.down,f1L] at f1
  try simp only [f1L] at f1
  intro h; obtain ⟨f2L,f2⟩ := ih27 _ _ h; clear h
  try simp only [en.down,f1L] at f2
  try simp only [f1L] at f2
  clear ih27; exact ⟨by first | rfl | (simp only [List.length_set,f2L,f1L]; done),fL yz⟩
 rintro ⟨⟩
 clear ih27; exact ⟨by first | rfl | (simp only [List.length_set]; done),fL yz⟩
theorem zij {n blockSize a b data r} (h : q8q n blockSize a b data = some r) : O.loop 167 4 ⟨[(0,v_r 0 data),(1,v_i n),(2,AV.pv (PV.fn 107)),(6,v_i blockSize),(7,v_i a),(8,v_i b)],[(0,Blk.row false 2 (List.map T.Sel.enc data))],1⟩ = some (Ex.normal,⟨[(0,v_r 0 data),(1,v_i n),(2,AV.pv (PV.fn 107)),(6,v_i blockSize),(7,v_i a)],[(0,Blk.row false 2 (List.map T.Sel.enc data))],1⟩) := by
 revert h; unfold q8q
 apply it <;> intro h1
 ·rintro ⟨⟩
 rintro ⟨⟩
 exact fL yz
theorem zxf : ∀ p r,q4p p = some r → O.loop 167 2 ⟨[(0,v_r 0 p.2.2),(1,v_i p.1),(2,AV.pv (PV.fn 107)),(6,v_i p.2.1)],[(0,Blk.row false 2 (List.map T.Sel.enc p.2.2))],1⟩ = some (Ex.normal,⟨[],[(0,Blk.row false 2 (List.map T.Sel.enc p.2.2))],1⟩) := by
 refine q4p.partial_correctness _ ?_
 rintro q4p ih31 ⟨n,blockSize,data⟩ r; dsimp only
 apply it <;> intro h1
 ·refine bs fun v3 h2 => ?_
  have f1 := zij h2
  try simp only [en.down] at f1
  apply it <;> intro h4
  ·rintro ⟨⟩
  intro h; have f2 := ih31 _ _ h; clear h
  try simp only [en.down] at f2
  clear ih31; exact fL yz
 rintro ⟨⟩
 clear ih31; exact fL yz
theorem qrq {n r_ r} (h : q7p n r_ = some r) : r.length = r_.length ∧ O.call 167 [v_r 0 r_,v_i n,AV.pv (PV.fn 107)] [(0,Blk.row false 2 (List.map T.Sel.enc r_))] = some (AV.tup [],[(0,Blk.row false 2 (List.map T.Sel.enc r))]) := by
 revert h; unfold q7p
 refine bs fun v2 h1 => ?_
 obtain ⟨f1L,f1⟩ := zxo _ _ h1
 try simp only [List.length_set] at f1L
 try simp only [en.down,f1L] at f1
 refine bs fun v4 h3 => ?_
 obtain ⟨f2L,f2⟩ := qb9 h3
 try simp only [List.length_set,f1L] at f2L
 try simp only [en.down,f1L,f2L] at f2
 refine bs fun v6 h5 => ?_
 have f3 := zxf _ _ h5
 try simp only [en.down,f1L,f2L] at f3
 try simp only [f1L,f2L] at f1 f2 f3
 rintro ⟨⟩
 exact ⟨by first | rfl | (simp only [List.length_set,f1L,f2L]; done),fF yz⟩
theorem zzp {r_ r} (h : q5g r_ = some r) : r.length = r_.length ∧ O.call 106 [v_r 0 r_,AV.pv (PV.fn 107)] [(0,Blk.row false 2 (List.map T.Sel.enc r_))] = some (AV.tup [],[(0,Blk.row false 2 (List.map T.Sel.enc r))]) := by
 revert h; unfold q5g
 refine bs fun v2 h1 => ?_
 obtain ⟨f1L,f1⟩ := qrq h1
 try simp only [List.length_set] at f1L
 try simp only [en.down,f1L] at f1
 try simp only [f1L] at f1
 rintro ⟨⟩
 exact ⟨by first | rfl | (simp only [List.length_set,f1L]; done),fF qgt⟩
theorem zty : ∀ p r,tu p = some r → O.loop 66 0 ⟨[(4,v_r 1 p.2.2.2),(14,v_r 0 p.2.2.1),(15,v_i p.1),(16,v_i p.2.1)],[(0,Blk.row false 2 (List.map T.Sel.enc p.2.2.1)),(1,b_r 2 T.Sel.enc p.2.2.2)],2⟩ = some (Ex.normal,⟨[(4,v_r 1 r)],[(0,Blk.row false 2 (List.map T.Sel.enc p.2.2.1)),(1,b_r 2 T.Sel.enc r)],2⟩) := by
 refine tu.partial_correctness _ ?_
 rintro tu ih33 ⟨t15,t16,t14,out⟩ r; dsimp only
 apply it <;> intro h1
 ·refine bw T.Sel.enc fun x3 h2 f1 f2 f3 => ?_
  apply it <;> intro h4
  ·refine gd fun h5 => ?_
   have f4 := rG 2 T.Sel.enc out
   have f5 : List.map T.Sel.enc out ++ [[PV.int IntKind.i64 x3.anchor,PV.int IntKind.i64 x3.head]] = List.map T.Sel.enc (out ++ [x3]) := by simp only [List.map_append,List.map_cons,List.map_nil,q1a,q1v,q19,T.Sel.qf] <;> rfl
   intro h; have f6 := ih33 _ _ h; clear h
   try simp only [en.down] at f6
   clear ih33; exact fL uq
  refine bW T.Sel.enc 2 fun x7 h6 f7 f8 f9 f10 f11 => ?_
  refine bs fun v9 h8 => ?_
  have f12 := q3p h8
  try simp only [en.down,f10,f11] at f12
  refine bs fun v11 h10 => ?_
  have f13 := q3p h10
  try simp only [en.down,f10,f11] at f13
  refine bs fun v13 h12 => ?_
  have f14 := qf8 h12
  try simp only [en.down,f10,f11] at f14
  apply it <;> intro h14
  ·refine gd fun h15 => ?_
   have f15 : List.map T.Sel.enc out ++ [[PV.int IntKind.i64 x3.anchor,PV.int IntKind.i64 x3.head]] = List.map T.Sel.enc (out ++ [x3]) := by simp only [List.map_append,List.map_cons,List.map_nil,q1a,q1v,q19,T.Sel.qf] <;> rfl
   try simp only [f10,f11] at f12 f13 f14
   intro h; have f16 := ih33 _ _ h; clear h
   try simp only [en.down,f10,f11] at f16
   try simp only [f10,f11] at f16
   clear ih33; exact fL uq
  apply it <;> intro h16
  ·have f17 := map_set T.Sel.enc out ((IntKind.i64.wrap ((out.length : Int) - (1 : Int))).toNat) (T.Sel.mk (if v11.to > v9.to then v11.to else v9.to) v9.frm)
   try simp only [en.down] at f17
   try simp only [f10,f11] at f12 f13 f14 f17
   intro h; have f18 := ih33 _ _ h; clear h
   try simp only [en.down,f10,f11] at f18
   try simp only [f10,f11] at f18
   clear ih33; exact fL uq
  have f19 := map_set T.Sel.enc out ((IntKind.i64.wrap ((out.length : Int) - (1 : Int))).toNat) (T.Sel.mk v9.frm (if v11.to > v9.to then v11.to else v9.to))
  try simp only [en.down] at f19
  try simp only [f10,f11] at f12 f13 f14 f19
  intro h; have f20 := ih33 _ _ h; clear h
  try simp only [en.down,f10,f11] at f20
  try simp only [f10,f11] at f20
  clear ih33; exact fL uq
 rintro ⟨⟩
 clear ih33; exact fL uq
theorem qqz {l r} (h : q6e l = some r) : O.call 66 [v_l 2 T.Sel.enc l] [] = some (v_l 2 T.Sel.enc r,[]) := by
 revert h; unfold q6e
 refine bs fun v2 h1 => ?_
 have f1 := zwg h1
 try simp only [en.down] at f1
 rcases v2 with y3 | y8
 ·dsimp only
  refine bs fun v5 h4 => ?_
  have f2 := zmo h4
  try simp only [en.down] at f2
  refine bs fun v7 h6 => ?_
  have f3 := zle _ _ h6
  try simp only [en.down] at f3
  rintro ⟨⟩
  exact fF uq
 dsimp only
 refine bs fun v10 h9 => ?_
 obtain ⟨f4L,f4⟩ := zzp h9
 try simp only [List.length_set] at f4L
 try simp only [en.down,f4L] at f4
 refine bs fun v12 h11 => ?_
 have f5 := zty _ _ h11
 try simp only [en.down,f4L] at f5
 try simp only [f4L] at f1 f4 f5
 rintro ⟨⟩
 exact fF uq
theorem qe7 {n l r} (h : q4i n l = some r) : O.call 30 [v_i n,v_l 2 T.Sel.enc l] [] = some (AV.tup [v_l 2 T.Sel.enc r.1,v_i r.2],[]) := by
 revert h; unfold q4i
 apply it <;> intro h1
 ·rintro ⟨⟩
  exact fF q2t
 apply it <;> intro h2
 ·rintro ⟨⟩
  exact fF q2t
 refine bs fun v4 h3 => ?_
 have f1 := zl2 _ _ h3
 try simp only [en.down] at f1
 rcases v4 with y5 | y6
 ·dsimp only
  rintro ⟨⟩
  exact fF q2t
 dsimp only
 refine bs fun v8 h7 => ?_
 have f2 := qqz h7
 try simp only [en.down] at f2
 rintro ⟨⟩
 exact fF q2t
def qds : ((Bool) ⊕ (Unit)) → Ex × St
 | .inl y => (Ex.ret,⟨[(4,v_b y)],[],0⟩)
 | .inr y => (Ex.normal,⟨[(4,AV.undef)],[],0⟩)
attribute [local go_sem] qds
theorem z3f : ∀ p r,q2n p = some r → O.loop 27 0 ⟨[(0,v_l 2 T.Sel.enc p.1),(1,v_l 2 T.Sel.enc p.2.1),(12,v_i p.2.2.1),(13,v_i p.2.2.2)],[],0⟩ = some (qds r) := by
 refine q2n.partial_correctness _ ?_
 rintro q2n ih35 ⟨s1,s2,t12,t13⟩ r; dsimp only
 apply it <;> intro h1
 ·refine bg T.Sel.enc fun x3 h2 f1 f2 f3 => ?_
  refine bg T.Sel.enc fun x5 h4 f4 f5 f6 => ?_
  apply it <;> intro h6
  ·rintro ⟨⟩
   clear ih35; exact fL q4v
  intro h; have f7 := ih35 _ _ h; clear h
  try simp only [en.down] at f7
  clear ih35; exact fL q4v
 rintro ⟨⟩
 clear ih35; exact fL q4v
theorem qg8 {s1 s2 r} (h : q3x s1 s2 = some r) : O.call 27 [v_l 2 T.Sel.enc s1,v_l 2 T.Sel.enc s2] [] = some (v_b r,[]) := by
 revert h; unfold q3x
 apply it <;> intro h1
 ·rintro ⟨⟩
  exact fF q4v
 refine bs fun v3 h2 => ?_
 have f1 := z3f _ _ h2
 try simp only [en.down] at f1
 rcases v3 with y4 | y5
 ·dsimp only
  rintro ⟨⟩
  exact fF q4v
 dsimp only
 rintro ⟨⟩
 exact fF q4v
theorem qnj {i k r} (h : q67 i k = some r) : O.call 111 [v_g (T.qc.enc i),v_i k] [] = some (v_i r,[]) := by
 revert h; unfold q67
 refine bg T.Stop.enc fun x2 h1 f1 f2 f3 => ?_
 refine qa2 (fun h3 h4 => ?_) ?_
 ·rintro ⟨⟩
  exact fF qen
 rintro (⟨h3,h4⟩ | ⟨h3,h4⟩)
 all_goals
 rintro ⟨⟩
 exact fF qen
def qco (k : Int) (i : T.qc) : ((Bool) ⊕ (Unit)) → Ex × St
 | .inl y => (Ex.ret,⟨[(1,v_i k),(2,AV.ptr 0 0),(4,v_b y)],[(0,b_x (T.qc.enc i))],1⟩)
 | .inr y => (Ex.normal,⟨[(1,v_i k),(2,AV.ptr 0 0),(4,AV.undef)],[(0,b_x (T.qc.enc i))],1⟩)
attribute [local go_sem] qco
theorem z3u : ∀ p r,q1b p = some r → O.loop 67 0 ⟨[(1,v_i p.1),(2,AV.ptr 0 0),(5,v_i p.2.1)],[(0,b_x (T.qc.enc p.2.2))],1⟩ = some (qco p.1 p.2.2 r) := by
 refine q1b.partial_correctness _ ?_
 rintro q1b ih41 ⟨k,u,i⟩ r; dsimp only
 apply it <;> intro h1
 ·refine bg T.Stop.enc fun x3 h2 f1 f2 f3 => ?_
  apply it <;> intro h4
  ·rintro ⟨⟩
   clear ih41; exact fL q6o
  refine bs fun v6 h5 => ?_
  have f4 := qnj h5
  try simp only [en.down] at f4
  intro h; have f5 := ih41 _ _ h; clear h
  try simp only [en.down] at f5
  clear ih41; exact fL q6o
 rintro ⟨⟩
 clear ih41; exact fL q6o
theorem ztk {i k r} (h : q6j i k = some r) : O.call 67 [v_g (T.qc.enc i),v_i k] [] = some (v_b r,[]) := by
 revert h; unfold q6j
 refine bs fun v2 h1 => ?_
 have f1 := z3u _ _ h1
 try simp only [en.down] at f1
 rcases v2 with y3 | y4
 ·dsimp only
  rintro ⟨⟩
  exact fF q6o
 dsimp only
 refine bg T.Stop.enc fun x6 h5 f2 f3 f4 => ?_
 rintro ⟨⟩
 exact fF q6o
theorem q9a {a b r} (h : q2p a b = some r) : O.call 68 [v_g (T.Span.enc a),v_g (T.Span.enc b)] [] = some (v_b r,[]) := by
 revert h; unfold q2p
 apply it <;> intro h1
 ·rintro ⟨⟩
  exact fF qfj
 rintro ⟨⟩
 exact fF qfj
def qf5 (i : T.qc) : ((Bool × xk) ⊕ (xk)) → Ex × St
 | .inl y => (Ex.ret,⟨[(4,v_b y.1)],[(0,b_x (T.qc.enc i)),(1,b_m y.2)],2⟩)
 | .inr y => (Ex.normal,⟨[(4,AV.undef)],[(0,b_x (T.qc.enc i)),(1,b_m y)],2⟩)
attribute [local go_sem] qf5
theorem qq3 : ∀ p r,q0h p = some r → O.loop 31 0 ⟨[(2,AV.ptr 0 0),(5,AV.map 1),(18,v_l 18 T.Stop.enc p.1),(19,v_i p.2.1),(20,v_i p.2.2.1)],[(0,b_x (T.qc.enc p.2.2.2.1)),(1,b_m p.2.2.2.2)],2⟩ = some (qf5 p.2.2.2.1 r) := by
 refine q0h.partial_correctness _ ?_
 rintro q0h ih39 ⟨t18,t19,t20,i,ends⟩ r; dsimp only
 apply it <;> intro h1
 ·refine bg T.Stop.enc fun x3 h2 f1 f2 f3 => ?_
  refine bs fun v5 h4 => ?_
  have f4 := ztk h4
  try simp only [en.down] at f4
  refine q09 ?_ (fun h6 h7 => ?_)
  ·rintro (⟨h6,h7⟩ | ⟨h6,h7⟩)
   all_goals
   rintro ⟨⟩
   clear ih39; exact fL q0y
  apply it <;> intro h8
  ·refine bg T.Stop.enc fun x10 h9 f5 f6 f7 => ?_
   have f8 := mG2 ends x3.up
   try simp only [en.down] at f8
   refine bs fun v12 h11 => ?_
   have f9 := q9a h11
   try simp only [en.down] at f9
   refine qgk ?_ ?_
   ·rintro (⟨h13,h14,h15⟩ | ⟨h13,h14,h15⟩)
    all_goals
    rintro ⟨⟩
    clear ih39; exact fL q0y
   rintro (⟨h13,h14,h15⟩ | ⟨h13,h14,h15⟩)
   all_goals
   have f10 := mP ends x3.up x3.span.to
   try simp only [en.down] at f10
   intro h; have f11 := ih39 _ _ h; clear h
   try simp only [en.down] at f11
   clear ih39; exact fL q0y
  have f12 := mG2 ends x3.up
  try simp only [en.down] at f12
  refine bs fun v17 h16 => ?_
  have f13 := q9a h16
  try simp only [en.down] at f13
  refine qgk ?_ ?_
  ·rintro (⟨h18,h19,h20⟩ | ⟨h18,h19,h20⟩)
   all_goals
   rintro ⟨⟩
   clear ih39; exact fL q0y
  rintro (⟨h18,h19,h20⟩ | ⟨h18,h19,h20⟩)
  all_goals
  have f14 := mP ends x3.up x3.span.to
  try simp only [en.down] at f14
  intro h; have f15 := ih39 _ _ h; clear h
  try simp only [en.down] at f15
  clear ih39; exact fL q0y
 rintro ⟨⟩
 clear ih39; exact fL q0y
theorem qbn {i n r} (h : q4d i n = some r) : O.call 31 [v_g (T.qc.enc i),v_i n] [] = some (v_b r,[]) := by
 revert h; unfold q4d
 refine bs fun v2 h1 => ?_
 have f1 := qeg h1
 try simp only [en.down] at f1
 apply it <;> intro h3
 ·rintro ⟨⟩
  exact fF q0y
 refine bs fun v5 h4 => ?_
 have f2 := qq3 _ _ h4
 try simp only [en.down] at f2
 rcases v5 with y6 | y7
 ·dsimp only
  rintro ⟨⟩
  exact fF q0y
 dsimp only
 rintro ⟨⟩
 exact fF q0y
theorem zeg {y b r} (h : q8p y b = some r) : O.call 70 [v_g (T.Span.enc y),AV.ptr 0 0] [(0,b_x (T.Span.enc b))] = some (v_b r,[(0,b_x (T.Span.enc b))]) := by
 revert h; unfold q8p
 refine bs fun v2 h1 => ?_
 have f1 := q9a h1
 try simp only [en.down] at f1
 rintro ⟨⟩
 exact fF zot
def qfn (f : T.Span) : ((Int) ⊕ (Unit)) → Ex × St
 | .inl y => (Ex.ret,⟨[(4,v_i y)],[(0,b_x (T.Span.enc f))],1⟩)
 | .inr y => (Ex.normal,⟨[(4,AV.undef)],[(0,b_x (T.Span.enc f))],1⟩)
attribute [local go_sem] qfn
theorem zy1 : ∀ p r,q61 p = some r → O.loop 112 0 ⟨[(0,v_l 2 T.Span.enc p.1),(1,AV.clo 70 [] [AV.ptr 0 0]),(7,v_i p.2.1),(8,v_i p.2.2.1)],[(0,b_x (T.Span.enc p.2.2.2))],1⟩ = some (qfn p.2.2.2 r) := by
 refine q61.partial_correctness _ ?_
 rintro q61 ih47 ⟨s,t7,t8,f⟩ r; dsimp only
 apply it <;> intro h1
 ·refine bg T.Span.enc fun x3 h2 f1 f2 f3 => ?_
  refine bs fun v5 h4 => ?_
  have f4 := zeg h4
  try simp only [en.down] at f4
  apply it <;> intro h6
  ·try simp only [h6] at f4
   rintro ⟨⟩
   clear ih47; exact fL q66
  try simp only [h6] at f4
  intro h; have f5 := ih47 _ _ h; clear h
  try simp only [en.down] at f5
  try simp only [h6] at f5
  clear ih47; exact fL q66
 rintro ⟨⟩
 clear ih47; exact fL q66
theorem zkg {s b r} (h : qak s b = some r) : O.call 112 [v_l 2 T.Span.enc s,AV.clo 70 [] [AV.ptr 0 0]] [(0,b_x (T.Span.enc b))] = some (v_i r,[(0,b_x (T.Span.enc b))]) := by
 revert h; unfold qak
 refine bs fun v2 h1 => ?_
 have f1 := zy1 _ _ h1
 try simp only [en.down] at f1
 rcases v2 with y3 | y4
 ·dsimp only
  rintro ⟨⟩
  exact fF q66
 dsimp only
 rintro ⟨⟩
 exact fF q66
theorem zcm {s b r} (h : q8n s b = some r) : O.call 69 [v_l 2 T.Span.enc s,AV.clo 70 [] [AV.ptr 0 0]] [(0,b_x (T.Span.enc b))] = some (v_b r,[(0,b_x (T.Span.enc b))]) := by
 revert h; unfold q8n
 refine bs fun v2 h1 => ?_
 have f1 := zkg h1
 try simp only [en.down] at f1
 rintro ⟨⟩
 exact fF zvd
theorem qct {x in_ r} (h : q7x x in_ = some r) : O.call 32 [v_g (T.Span.enc x),v_l 2 T.Span.enc in_] [] = some (v_b r,[]) := by
 revert h; unfold q7x
 refine bs fun v2 h1 => ?_
 have f1 := zcm h1
 try simp only [en.down] at f1
 rintro ⟨⟩
 exact fF qr1
def qe9 (n : Int) (t43 : Int) (t44 : Int) (t42 : (List T.qb)) (b1_ : Bytes) (b1_2 : (Sl T.Sel)) (s : T.qb) : ((Bool) ⊕ (Unit)) → Ex × St
 | .inl y => (Ex.ret,⟨[(2,v_b y),(3,v_i n),(8,AV.ptr 2 0),(42,v_r 0 t42),(43,v_i t43),(44,v_i t44)],[(0,Blk.row false 2 (List.map T.qb.enc t42)),(1,Blk.box [v_s b1_,v_l 2 T.Sel.enc b1_2,v_r 0 t42]),(2,b_x (T.qb.enc s))],3⟩)
 | .inr y => (Ex.normal,⟨[(2,AV.undef),(3,v_i n),(8,AV.ptr 2 0),(42,v_r 0 t42),(43,v_i t43),(44,v_i t44)],[(0,Blk.row false 2 (List.map T.qb.enc t42)),(1,Blk.box [v_s b1_,v_l 2 T.Sel.enc b1_2,v_r 0 t42]),(2,b_x (T.qb.enc s))],3⟩)
attribute [local go_sem] qe9
theorem qqy : ∀ p r,q1t p = some r → O.loop 10 2 ⟨[(3,v_i p.1),(6,v_l 2 T.Span.enc p.2.1),(7,v_i p.2.2.1),(8,AV.ptr 2 0),(9,v_i p.2.2.2.1),(42,v_r 0 p.2.2.2.2.2.2.2.2.2.1),(43,v_i p.2.2.2.2.1),(44,v_i p.2.2.2.2.2.1),(54,v_l 3 T.qc.enc p.2.2.2.2.2.2.1),(55,v_i p.2.2.2.2.2.2.2.1),(56,v_i p.2.2.2.2.2.2.2.2.1)],[(0,Blk.row false 2 (List.map T.qb.enc p.2.2.2.2.2.2.2.2.2.1)),(1,Blk.box [v_s p.2.2.2.2.2.2.2.2.2.2.1,v_l 2 T.Sel.enc p.2.2.2.2.2.2.2.2.2.2.2.1,v_r 0 p.2.2.2.2.2.2.2.2.2.1]),(2,b_x (T.qb.enc p.2.2.2.2.2.2.2.2.2.2.2.2))],3⟩ = some (qe9 p.1 p.2.2.2.2.1 p.2.2.2.2.2.1 p.2.2.2.2.2.2.2.2.2.1 p.2.2.2.2.2.2.2.2.2.2.1 p.2.2.2.2.2.2.2.2.2.2.2.1 p.2.2.2.2.2.2.2.2.2.2.2.2 r) := by
 refine q1t.partial_correctness _ ?_
 rintro q1t ih37 ⟨n,around,k,end_,t43,t44,t54,t55,t56,t42,b1_,b1_2,s⟩ r; dsimp only
 apply it <;> intro h1
 ·refine bg T.qc.enc fun x3 h2 f1 f2 f3 => ?_
  refine bs fun v5 h4 => ?_
  have f4 := qbn h4
  try simp only [en.down] at f4
  refine q09 ?_ (fun h6 h7 => ?_)
  ·rintro (⟨h6,h7⟩ | ⟨h6,h7⟩)
   all_goals
   rintro ⟨⟩
   clear ih37; exact fL xc
  apply it <;> intro h8
  ·refine bs fun v10 h9 => ?_
   have f5 := qct h9
   try simp only [en.down] at f5
   apply it <;> intro h11
   ·rintro ⟨⟩
    clear ih37; exact fL xc
   intro h; have f6 := ih37 _ _ h; clear h
   try simp only [en.down] at f6
   clear ih37; exact fL xc
  intro h; have f7 := ih37 _ _ h; clear h
  try simp only [en.down] at f7
  clear ih37; exact fL xc
 rintro ⟨⟩
 clear ih37; exact fL xc
theorem zj3 : ∀ p r,u6 p = some r → O.loop 33 2 ⟨[(0,v_i p.1),(5,v_r 0 p.2.2.2.2.2.2.2.1),(10,v_l 3 T.qc.enc p.2.1),(11,v_i p.2.2.1),(12,v_i p.2.2.2.1),(17,v_l 18 T.Stop.enc p.2.2.2.2.1),(18,v_i p.2.2.2.2.2.1),(19,v_i p.2.2.2.2.2.2.1)],[(0,b_r 2 T.Span.enc p.2.2.2.2.2.2.2.1),(1,b_x (T.qc.enc p.2.2.2.2.2.2.2.2))],2⟩ = some (Ex.normal,⟨[(0,v_i p.1),(5,v_r 0 r),(10,v_l 3 T.qc.enc p.2.1),(11,v_i p.2.2.1),(12,v_i p.2.2.2.1)],[(0,b_r 2 T.Span.enc r),(1,b_x (T.qc.enc p.2.2.2.2.2.2.2.2))],2⟩) := by
 refine u6.partial_correctness _ ?_
 rintro u6 ih51 ⟨n,t10,t11,t12,t17,t18,t19,out,b1_⟩ r; dsimp only
 apply it <;> intro h1
 ·refine bg T.Stop.enc fun x3 h2 f1 f2 f3 => ?_
  refine qa2 (fun h4 h5 => ?_) ?_
  ·refine gd fun h6 => ?_
   have f4 := rG 2 T.Span.enc out
   have f5 : List.map T.Span.enc out ++ [[PV.int IntKind.i64 x3.span.frm,PV.int IntKind.i64 x3.span.to]] = List.map T.Span.enc (out ++ [x3.span]) := by simp only [List.map_append,List.map_cons,List.map_nil,q1a,q1v,q19,T.Span.qf] <;> rfl
   intro h; have f6 := ih51 _ _ h; clear h
   try simp only [en.down] at f6
   clear ih51; exact fL q3t
  rintro (⟨h4,h5⟩ | ⟨h4,h5⟩)
  all_goals
  intro h; have f7 := ih51 _ _ h; clear h
  try simp only [en.down] at f7
  clear ih51; exact fL q3t
 rintro ⟨⟩
 clear ih51; exact fL q3t
theorem zlw : ∀ p r,q1p p = some r → O.loop 33 0 ⟨[(0,v_i p.1),(5,v_r 0 p.2.2.2.2),(10,v_l 3 T.qc.enc p.2.1),(11,v_i p.2.2.1),(12,v_i p.2.2.2.1)],[(0,b_r 2 T.Span.enc p.2.2.2.2)],1⟩ = some (Ex.normal,⟨[(5,v_r 0 r)],[(0,b_r 2 T.Span.enc r)],1⟩) := by
 refine q1p.partial_correctness _ ?_
 rintro q1p ih50 ⟨n,t10,t11,t12,out⟩ r; dsimp only
 apply it <;> intro h1
 ·refine bg T.qc.enc fun x3 h2 f1 f2 f3 => ?_
  refine bs fun v5 h4 => ?_
  have f4 := zj3 _ _ h4
  try simp only [en.down] at f4
  intro h; have f5 := ih50 _ _ h; clear h
  try simp only [en.down] at f5
  clear ih50; exact fL q3t
 rintro ⟨⟩
 clear ih50; exact fL q3t
theorem qa5 {n is r} (h : q2w n is = some r) : O.call 33 [v_i n,v_l 3 T.qc.enc is] [] = some (v_l 2 T.Span.enc r,[]) := by
 revert h; unfold q2w
 refine bs fun v2 h1 => ?_
 have f1 := zlw _ _ h1
 try simp only [en.down] at f1
 rintro ⟨⟩
 exact fF q3t
def qci (t42 : (List T.qb)) (b1_ : Bytes) (b1_2 : (Sl T.Sel)) : ((Bool) ⊕ (Unit)) → Ex × St
 | .inl y => (Ex.ret,⟨[(2,v_b y)],[(0,Blk.row false 2 (List.map T.qb.enc t42)),(1,Blk.box [v_s b1_,v_l 2 T.Sel.enc b1_2,v_r 0 t42])],2⟩)
 | .inr y => (Ex.normal,⟨[(2,AV.undef)],[(0,Blk.row false 2 (List.map T.qb.enc t42)),(1,Blk.box [v_s b1_,v_l 2 T.Sel.enc b1_2,v_r 0 t42])],2⟩)
attribute [local go_sem] qci
theorem qmn : ∀ p r,q2h p = some r → O.loop 10 0 ⟨[(3,v_i p.1),(6,v_l 2 T.Span.enc p.2.1),(42,v_r 0 p.2.2.2.2.1),(43,v_i p.2.2.1),(44,v_i p.2.2.2.1)],[(0,Blk.row false 2 (List.map T.qb.enc p.2.2.2.2.1)),(1,Blk.box [v_s p.2.2.2.2.2.1,v_l 2 T.Sel.enc p.2.2.2.2.2.2,v_r 0 p.2.2.2.2.1])],2⟩ = some (qci p.2.2.2.2.1 p.2.2.2.2.2.1 p.2.2.2.2.2.2 r) := by
 refine q2h.partial_correctness _ ?_
 rintro q2h ih36 ⟨n,around,t43,t44,t42,b1_,b1_2⟩ r; dsimp only
 apply it <;> intro h1
 ·refine bw T.qb.enc fun x3 h2 f1 f2 f3 => ?_
  apply it <;> intro h4
  ·rintro ⟨⟩
   clear ih36; exact fL xc
  refine bs fun v6 h5 => ?_
  have f4 := qqy _ _ h5
  try simp only [en.down] at f4
  rcases v6 with y7 | y8
  ·dsimp only
   rintro ⟨⟩
   clear ih36; exact fL xc
  dsimp only
  refine bs fun v10 h9 => ?_
  have f5 := qa5 h9
  try simp only [en.down] at f5
  intro h; have f6 := ih36 _ _ h; clear h
  try simp only [en.down] at f6
  clear ih36; exact fL xc
 rintro ⟨⟩
 clear ih36; exact fL xc
theorem qou {st st2 r_ r} (h : q6n st st2 r_ = some r) : O.call 10 [AV.agg [v_s st,v_l 2 T.Sel.enc st2,v_r 0 r_]] [(0,Blk.row false 2 (List.map T.qb.enc r_))] = some (v_b r,[(0,Blk.row false 2 (List.map T.qb.enc r_))]) := by
 revert h; unfold q6n
 refine bs fun v2 h1 => ?_
 have f1 := qe7 h1
 try simp only [en.down] at f1
 refine q09 ?_ (fun h3 h4 => ?_)
 ·rintro (⟨h3,h4⟩ | ⟨h3,h4⟩)
  all_goals
  rintro ⟨⟩
  exact fF xc
 refine bs fun v6 h5 => ?_
 have f2 := qg8 h5
 try simp only [en.down] at f2
 refine q09 ?_ (fun h7 h8 => ?_)
 ·rintro (⟨h7,h8⟩ | ⟨h7,h8⟩)
  all_goals
  rintro ⟨⟩
  exact fF xc
 refine bs fun v10 h9 => ?_
 have f3 := qmn _ _ h9
 try simp only [en.down] at f3
 rcases v10 with y11 | y12
 ·dsimp only
  rintro ⟨⟩
  exact fF xc
 dsimp only
 rintro ⟨⟩
 exact fF xc
theorem qnt : ∀ p r,q11 p = some r → O.loop 19 2 ⟨[(3,AV.map 0),(11,v_l 3 T.qc.enc p.1),(12,v_i p.2.1),(13,v_i p.2.2.1),(18,v_l 18 T.Stop.enc p.2.2.2.1),(19,v_i p.2.2.2.2.1),(20,v_i p.2.2.2.2.2.1)],[(0,b_m p.2.2.2.2.2.2.1),(1,b_x (T.qc.enc p.2.2.2.2.2.2.2))],2⟩ = some (Ex.normal,⟨[(3,AV.map 0),(11,v_l 3 T.qc.enc p.1),(12,v_i p.2.1),(13,v_i p.2.2.1)],[(0,b_m r),(1,b_x (T.qc.enc p.2.2.2.2.2.2.2))],2⟩) := by
 refine q11.partial_correctness _ ?_
 rintro q11 ih59 ⟨t11,t12,t13,t18,t19,t20,in_,b1_⟩ r; dsimp only
 apply it <;> intro h1
 ·refine bg T.Stop.enc fun x3 h2 f1 f2 f3 => ?_
  apply it <;> intro h4
  ·have f4 := mG in_ x3.n
   try simp only [en.down] at f4
   have f5 := mP in_ x3.n (IntKind.i64.wrap ((yu in_ x3.n) + (1 : Int)))
   try simp only [en.down] at f5
   intro h; have f6 := ih59 _ _ h; clear h
   try simp only [en.down] at f6
   clear ih59; exact fL q34
  intro h; have f7 := ih59 _ _ h; clear h
  try simp only [en.down] at f7
  clear ih59; exact fL q34
 rintro ⟨⟩
 clear ih59; exact fL q34
theorem qlb : ∀ p r,q36 p = some r → O.loop 19 0 ⟨[(3,AV.map 0),(11,v_l 3 T.qc.enc p.1),(12,v_i p.2.1),(13,v_i p.2.2.1)],[(0,b_m p.2.2.2)],1⟩ = some (Ex.normal,⟨[(3,AV.map 0)],[(0,b_m r)],1⟩) := by
 refine q36.partial_correctness _ ?_
 rintro q36 ih58 ⟨t11,t12,t13,in_⟩ r; dsimp only
 apply it <;> intro h1
 ·refine bg T.qc.enc fun x3 h2 f1 f2 f3 => ?_
  refine bs fun v5 h4 => ?_
  have f4 := qnt _ _ h4
  try simp only [en.down] at f4
  intro h; have f5 := ih58 _ _ h; clear h
  try simp only [en.down] at f5
  clear ih58; exact fL q34
 rintro ⟨⟩
 clear ih58; exact fL q34
theorem qz3 {m r} (h : q79 m = some r) : O.call 39 [AV.map 0] [(0,b_m m)] = some (AV.clo 77 [] [AV.ptr 1 0],[(0,b_m m),(1,Blk.box [AV.map 0])]) := by
 revert h; unfold q79
 rintro ⟨⟩
 exact fF zqf
theorem qgi {is r} (h : q4e is = some r) : O.call 19 [v_l 3 T.qc.enc is] [] = some (v_r 0 r,[(0,b_r 1 zn r)]) := by
 revert h; unfold q4e
 refine bs fun v2 h1 => ?_
 have f1 := qlb _ _ h1
 try simp only [en.down] at f1
 have f2 := mG v2 (0 : Int)
 try simp only [en.down] at f2
 have f3 := mD v2 (0 : Int)
 try simp only [en.down] at f3
 refine bs fun v4 h3 => ?_
 have f4 := qz3 h3
 try simp only [en.down] at f4
 refine bs fun v6 h5 => ?_
 have f5 := zsd h5
 try simp only [en.down] at f5
 apply it <;> intro h7
 ·refine gd fun h8 => ?_
  have f6 := rG 1 zn v6
  have f7 : List.map zn v6 ++ [[PV.int IntKind.i64 (0 : Int)]] = List.map zn (v6 ++ [(0 : Int)]) := by simp only [List.map_append,List.map_cons,List.map_nil,q1a,q1v,q19,zn] <;> rfl
  rintro ⟨⟩
  exact fF q34
 rintro ⟨⟩
 exact fF q34
def qd4 (text : Bytes) (t13 : Int) (t14 : Int) (i : T.qc) (t12 : (List Int)) : ((Bool) ⊕ (Unit)) → Ex × St
 | .inl y => (Ex.ret,⟨[(0,v_s text),(3,AV.ptr 0 0),(4,v_b y),(12,v_r 2 t12),(13,v_i t13),(14,v_i t14)],[(0,b_x (T.qc.enc i)),(1,Blk.dead),(2,b_r 1 zn t12),(3,Blk.dead)],4⟩)
 | .inr y => (Ex.normal,⟨[(0,v_s text),(3,AV.ptr 0 0),(4,AV.undef),(12,v_r 2 t12),(13,v_i t13),(14,v_i t14)],[(0,b_x (T.qc.enc i)),(1,Blk.dead),(2,b_r 1 zn t12),(3,Blk.dead)],4⟩)
attribute [local go_sem] qd4
theorem qyi : ∀ p r,q23 p = some r → O.loop 13 2 ⟨[(0,v_s p.1),(3,AV.ptr 0 0),(7,v_l 2 T.Span.enc p.2.1),(12,v_r 2 p.2.2.2.2.2.2.2.2),(13,v_i p.2.2.1),(14,v_i p.2.2.2.1),(22,v_l 2 T.Span.enc p.2.2.2.2.1),(23,v_i p.2.2.2.2.2.1),(24,v_i p.2.2.2.2.2.2.1)],[(0,b_x (T.qc.enc p.2.2.2.2.2.2.2.1)),(1,Blk.dead),(2,b_r 1 zn p.2.2.2.2.2.2.2.2),(3,Blk.dead)],4⟩ = some (qd4 p.1 p.2.2.1 p.2.2.2.1 p.2.2.2.2.2.2.2.1 p.2.2.2.2.2.2.2.2 r) := by
 refine q23.partial_correctness _ ?_
 rintro q23 ih63 ⟨text,l,t13,t14,t22,t23,t24,i,t12⟩ r; dsimp only
 apply it <;> intro h1
 ·refine bg T.Span.enc fun x3 h2 f1 f2 f3 => ?_
  refine b2s fun r5 h4 f4 f5 f6 f7 f8 => ?_
  refine bg T.Span.enc fun x7 h6 f9 f10 f11 => ?_
  refine b2s fun r9 h8 f12 f13 f14 f15 f16 => ?_
  apply it <;> intro h10
  ·rintro ⟨⟩
   clear ih63; exact fL q1q
  intro h; have f17 := ih63 _ _ h; clear h
  try simp only [en.down] at f17
  clear ih63; exact fL q1q
 rintro ⟨⟩
 clear ih63; exact fL q1q
def qcm (i : T.qc) (t12 : (List Int)) : ((Bool) ⊕ (Unit)) → Ex × St
 | .inl y => (Ex.ret,⟨[(4,v_b y)],[(0,b_x (T.qc.enc i)),(1,Blk.dead),(2,b_r 1 zn t12)],3⟩)
 | .inr y => (Ex.normal,⟨[(4,AV.undef)],[(0,b_x (T.qc.enc i)),(1,Blk.dead),(2,b_r 1 zn t12)],3⟩)
attribute [local go_sem] qcm
theorem qqv : ∀ p r,q2o p = some r → O.loop 13 0 ⟨[(0,v_s p.1),(3,AV.ptr 0 0),(12,v_r 2 p.2.2.2.2),(13,v_i p.2.1),(14,v_i p.2.2.1)],[(0,b_x (T.qc.enc p.2.2.2.1)),(1,Blk.dead),(2,b_r 1 zn p.2.2.2.2)],3⟩ = some (qcm p.2.2.2.1 p.2.2.2.2 r) := by
 refine q2o.partial_correctness _ ?_
 rintro q2o ih62 ⟨text,t13,t14,i,t12⟩ r; dsimp only
 apply it <;> intro h1
 ·refine bW zn 1 fun x3 h2 f1 f2 f3 f4 f5 => ?_
  refine bs fun v5 h4 => ?_
  have f6 := qa5 h4
  try simp only [en.down,f4,f5] at f6
  refine bs fun v7 h6 => ?_
  have f7 := qyi _ _ h6
  try simp only [en.down,f4,f5] at f7
  rcases v7 with y8 | y9
  ·dsimp only
   try simp only [f4,f5] at f6 f7
   rintro ⟨⟩
   clear ih62; exact fL q1q
  dsimp only
  try simp only [f4,f5] at f6 f7
  intro h; have f8 := ih62 _ _ h; clear h
  try simp only [en.down,f4,f5] at f8
  try simp only [f4,f5] at f8
  clear ih62; exact fL q1q
 rintro ⟨⟩
 clear ih62; exact fL q1q
theorem qex {text i r} (h : q41 text i = some r) : O.call 13 [v_s text,v_g (T.qc.enc i)] [] = some (v_b r,[]) := by
 revert h; unfold q41
 refine bs fun v2 h1 => ?_
 have f1 := qgi h1
 try simp only [en.down] at f1
 refine bs fun v4 h3 => ?_
 have f2 := qqv _ _ h3
 try simp only [en.down] at f2
 rcases v4 with y5 | y6
 ·dsimp only
  rintro ⟨⟩
  exact fF q1q
 dsimp only
 rintro ⟨⟩
 exact fF q1q
theorem zxx {a i b b_2 r_ r} (h : q6w a i b b_2 r_ = some r) : O.call 12 [v_g (T.qb.enc a),v_g (T.qc.enc i),AV.ptr 0 0] [(0,Blk.box [v_s b,v_l 2 T.Sel.enc b_2,v_r 1 r_]),(1,Blk.row false 2 (List.map T.qb.enc r_))] = some (v_b r,[(0,Blk.box [v_s b,v_l 2 T.Sel.enc b_2,v_r 1 r_]),(1,Blk.row false 2 (List.map T.qb.enc r_))]) := by
 revert h; unfold q6w
 refine bs fun v2 h1 => ?_
 have f1 := qex h1
 try simp only [en.down] at f1
 rintro ⟨⟩
 exact fF qel
def qgv (t11 : Int) (t12 : Int) (t10 : (List T.qb)) (so : Bytes) (so2 : (Sl T.Sel)) (b2_ : Bytes) (b2_2 : (Sl T.Sel)) (s : T.qb) : ((Bool) ⊕ (Unit)) → Ex × St
 | .inl y => (Ex.ret,⟨[(1,AV.clo 12 [] [AV.ptr 1 0]),(4,v_b y),(10,v_r 0 t10),(11,v_i t11),(12,v_i t12)],[(0,Blk.row false 2 (List.map T.qb.enc t10)),(1,Blk.box [v_s so,v_l 2 T.Sel.enc so2,v_r 0 t10]),(2,Blk.box [v_s b2_,v_l 2 T.Sel.enc b2_2,v_r 0 t10]),(3,b_x (T.qb.enc s))],4⟩)
 | .inr y => (Ex.normal,⟨[(1,AV.clo 12 [] [AV.ptr 1 0]),(4,AV.undef),(10,v_r 0 t10),(11,v_i t11),(12,v_i t12)],[(0,Blk.row false 2 (List.map T.qb.enc t10)),(1,Blk.box [v_s so,v_l 2 T.Sel.enc so2,v_r 0 t10]),(2,Blk.box [v_s b2_,v_l 2 T.Sel.enc b2_2,v_r 0 t10]),(3,b_x (T.qb.enc s))],4⟩)
attribute [local go_sem] qgv
theorem x71 : ∀ p r,q3r p = some r → O.loop 11 2 ⟨[(1,AV.clo 12 [] [AV.ptr 1 0]),(6,AV.ptr 3 0),(10,v_r 0 p.2.2.2.2.2.1),(11,v_i p.1),(12,v_i p.2.1),(17,v_l 3 T.qc.enc p.2.2.1),(18,v_i p.2.2.2.1),(19,v_i p.2.2.2.2.1)],[(0,Blk.row false 2 (List.map T.qb.enc p.2.2.2.2.2.1)),(1,Blk.box [v_s p.2.2.2.2.2.2.1,v_l 2 T.Sel.enc p.2.2.2.2.2.2.2.1,v_r 0 p.2.2.2.2.2.1]),(2,Blk.box [v_s p.2.2.2.2.2.2.2.2.1,v_l 2 T.Sel.enc p.2.2.2.2.2.2.2.2.2.1,v_r 0 p.2.2.2.2.2.1]),(3,b_x (T.qb.enc p.2.2.2.2.2.2.2.2.2.2))],4⟩ = some (qgv p.1 p.2.1 p.2.2.2.2.2.1 p.2.2.2.2.2.2.1 p.2.2.2.2.2.2.2.1 p.2.2.2.2.2.2.2.2.1 p.2.2.2.2.2.2.2.2.2.1 p.2.2.2.2.2.2.2.2.2.2 r) := by
 refine q3r.partial_correctness _ ?_
 rintro q3r ih54 ⟨t11,t12,t17,t18,t19,t10,so,so2,b2_,b2_2,s⟩ r; dsimp only
 apply it <;> intro h1
 ·refine bg T.qc.enc fun x3 h2 f1 f2 f3 => ?_
  refine bs fun v5 h4 => ?_
  have f4 := zxx h4
  try simp only [en.down] at f4
  apply it <;> intro h6
  ·rintro ⟨⟩
   clear ih54; exact fL zl
  intro h; have f5 := ih54 _ _ h; clear h
  try simp only [en.down] at f5
  clear ih54; exact fL zl
 rintro ⟨⟩
 clear ih54; exact fL zl
def qf3 (t10 : (List T.qb)) (so : Bytes) (so2 : (Sl T.Sel)) (b2_ : Bytes) (b2_2 : (Sl T.Sel)) : ((Bool) ⊕ (Unit)) → Ex × St
 | .inl y => (Ex.ret,⟨[(4,v_b y)],[(0,Blk.row false 2 (List.map T.qb.enc t10)),(1,Blk.box [v_s so,v_l 2 T.Sel.enc so2,v_r 0 t10]),(2,Blk.box [v_s b2_,v_l 2 T.Sel.enc b2_2,v_r 0 t10])],3⟩)
 | .inr y => (Ex.normal,⟨[(4,AV.undef)],[(0,Blk.row false 2 (List.map T.qb.enc t10)),(1,Blk.box [v_s so,v_l 2 T.Sel.enc so2,v_r 0 t10]),(2,Blk.box [v_s b2_,v_l 2 T.Sel.enc b2_2,v_r 0 t10])],3⟩)
attribute [local go_sem] qf3
theorem zvg : ∀ p r,q33 p = some r → O.loop 11 0 ⟨[(1,AV.clo 12 [] [AV.ptr 1 0]),(10,v_r 0 p.2.2.1),(11,v_i p.1),(12,v_i p.2.1)],[(0,Blk.row false 2 (List.map T.qb.enc p.2.2.1)),(1,Blk.box [v_s p.2.2.2.1,v_l 2 T.Sel.enc p.2.2.2.2.1,v_r 0 p.2.2.1]),(2,Blk.box [v_s p.2.2.2.2.2.1,v_l 2 T.Sel.enc p.2.2.2.2.2.2,v_r 0 p.2.2.1])],3⟩ = some (qf3 p.2.2.1 p.2.2.2.1 p.2.2.2.2.1 p.2.2.2.2.2.1 p.2.2.2.2.2.2 r) := by
 refine q33.partial_correctness _ ?_
 rintro q33 ih53 ⟨t11,t12,t10,so,so2,b2_,b2_2⟩ r; dsimp only
 apply it <;> intro h1
 ·refine bw T.qb.enc fun x3 h2 f1 f2 f3 => ?_
  refine bs fun v5 h4 => ?_
  have f4 := x71 _ _ h4
  try simp only [en.down] at f4
  rcases v5 with y6 | y7
  ·dsimp only
   rintro ⟨⟩
   clear ih53; exact fL zl
  dsimp only
  intro h; have f5 := ih53 _ _ h; clear h
  try simp only [en.down] at f5
  clear ih53; exact fL zl
 rintro ⟨⟩
 clear ih53; exact fL zl
theorem zx9 {st st2 r_ b b_2 r} (h : q55 st st2 r_ b b_2 = some r) : O.call 11 [AV.agg [v_s st,v_l 2 T.Sel.enc st2,v_r 0 r_],AV.clo 12 [] [AV.ptr 1 0]] [(0,Blk.row false 2 (List.map T.qb.enc r_)),(1,Blk.box [v_s b,v_l 2 T.Sel.enc b_2,v_r 0 r_])] = some (v_b r,[(0,Blk.row false 2 (List.map T.qb.enc r_)),(1,Blk.box [v_s b,v_l 2 T.Sel.enc b_2,v_r 0 r_])]) := by
 revert h; unfold q55
 refine bs fun v2 h1 => ?_
 have f1 := zvg _ _ h1
 try simp only [en.down] at f1
 rcases v2 with y3 | y4
 ·dsimp only
  rintro ⟨⟩
  exact fF zl
 dsimp only
 rintro ⟨⟩
 exact fF zl
theorem zbu : ∀ p r,gy p = some r → O.loop 34 0 ⟨[(1,v_i p.1),(2,v_l 1 q3v p.2.1),(3,AV.ptr 0 0),(7,v_i p.2.2.1),(8,v_i p.2.2.2.1),(9,v_i p.2.2.2.2.1),(10,v_i p.2.2.2.2.2.1)],[(0,b_x (T.qc.enc p.2.2.2.2.2.2))],1⟩ = some (Ex.normal,⟨[(7,v_i r.1),(8,v_i r.2.1),(9,v_i r.2.2)],[(0,b_x (T.qc.enc p.2.2.2.2.2.2))],1⟩) := by
 refine gy.partial_correctness _ ?_
 rintro gy ih71 ⟨n,held,of,first,any_,k,i⟩ r; dsimp only
 apply it <;> intro h1
 ·refine bg T.Stop.enc fun x3 h2 f1 f2 f3 => ?_
  refine q09 ?_ (fun h4 h5 => ?_)
  ·rintro (⟨h4,h5⟩ | ⟨h4,h5⟩)
   all_goals
   intro h; have f4 := ih71 _ _ h; clear h
   try simp only [en.down] at f4
   try simp only [h5] at f4
   clear ih71; exact fL ni
  apply it <;> intro h6
  ·apply it <;> intro h7
   ·refine bg q3v fun x9 h8 f5 f6 f7 => ?_
    apply it <;> intro h10
    ·intro h; have f8 := ih71 _ _ h; clear h
     try simp only [en.down] at f8
     try simp only [h5,h6,h10] at f8
     clear ih71; exact fL ni
    intro h; have f9 := ih71 _ _ h; clear h
    try simp only [en.down] at f9
    try simp only [h5,h6,h10] at f9
    clear ih71; exact fL ni
   intro h; have f10 := ih71 _ _ h; clear h
   try simp only [en.down] at f10
   try simp only [h5,h6] at f10
   clear ih71; exact fL ni
  apply it <;> intro h11
  ·refine bg q3v fun x13 h12 f11 f12 f13 => ?_
   apply it <;> intro h14
   ·intro h; have f14 := ih71 _ _ h; clear h
    try simp only [en.down] at f14
    try simp only [h5,h6,h14] at f14
    clear ih71; exact fL ni
   intro h; have f15 := ih71 _ _ h; clear h
   try simp only [en.down] at f15
   try simp only [h5,h6,h14] at f15
   clear ih71; exact fL ni
  intro h; have f16 := ih71 _ _ h; clear h
  try simp only [en.down] at f16
  try simp only [h5,h6] at f16
  clear ih71; exact fL ni
 rintro ⟨⟩
 clear ih71; exact fL ni
theorem z3s {i n held r} (h : q98 i n held = some r) : O.call 34 [v_g (T.qc.enc i),v_i n,v_l 1 q3v held] [] = some (v_i r,[]) := by
 revert h; unfold q98
 refine bs fun v2 h1 => ?_
 have f1 := zbu _ _ h1
 try simp only [en.down] at f1
 apply it <;> intro h3
 ·rintro ⟨⟩
  exact fF ni
 apply it <;> intro h4
 ·rintro ⟨⟩
  exact fF ni
 rintro ⟨⟩
 exact fF ni
theorem zai : ∀ p r,q0g p = some r → O.loop 15 0 ⟨[(0,v_s p.1),(3,AV.ptr 0 0),(13,v_l 18 T.Stop.enc p.2.1),(14,v_i p.2.2.1),(15,v_i p.2.2.2.1)],[(0,b_x (T.qc.enc p.2.2.2.2))],1⟩ = some (Ex.normal,⟨[(4,AV.undef)],[(0,b_x (T.qc.enc p.2.2.2.2))],1⟩) := by
 refine q0g.partial_correctness _ ?_
 rintro q0g ih69 ⟨text,t13,t14,t15,i⟩ r; dsimp only
 apply it <;> intro h1
 ·refine bg T.Stop.enc fun x3 h2 f1 f2 f3 => ?_
  apply it <;> intro h4
  ·intro h; have f4 := ih69 _ _ h; clear h
   try simp only [en.down] at f4
   clear ih69; exact fL q6q
  refine bs fun v6 h5 => ?_
  have f5 := z3s h5
  try simp only [en.down] at f5
  apply it <;> intro h7
  ·intro h; have f6 := ih69 _ _ h; clear h
   try simp only [en.down] at f6
   clear ih69; exact fL q6q
  refine bg T.Stop.enc fun x9 h8 f7 f8 f9 => ?_
  refine b2s fun r11 h10 f10 f11 f12 f13 f14 => ?_
  rintro ⟨⟩
 rintro ⟨⟩
 clear ih69; exact fL q6q
theorem qft {text i r} (h : q4c text i = some r) : O.call 15 [v_s text,v_g (T.qc.enc i)] [] = some (v_b r,[]) := by
 revert h; unfold q4c
 refine bs fun v2 h1 => ?_
 have f1 := zai _ _ h1
 try simp only [en.down] at f1
 rintro ⟨⟩
 exact fF q6q
theorem zci {a i b b_2 r_ r} (h : q8i a i b b_2 r_ = some r) : O.call 14 [v_g (T.qb.enc a),v_g (T.qc.enc i),AV.ptr 0 0] [(0,Blk.box [v_s b,v_l 2 T.Sel.enc b_2,v_r 1 r_]),(1,Blk.row false 2 (List.map T.qb.enc r_))] = some (v_b r,[(0,Blk.box [v_s b,v_l 2 T.Sel.enc b_2,v_r 1 r_]),(1,Blk.row false 2 (List.map T.qb.enc r_))]) := by
 revert h; unfold q8i
 refine bs fun v2 h1 => ?_
 have f1 := qft h1
 try simp only [en.down] at f1
 rintro ⟨⟩
 exact fF qfx
end Go.Proofs.YtcelddmcoklooaaGreatDoor
