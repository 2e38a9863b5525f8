/-
  What the machine's calls come to: the plain functions.
-/
import Derived.Test.YtdhgdeelagmbpaaGreatVaf
import Derived.Test.YtdhgdeelagmbpaaGreatVah
import Derived.Test.YtdhgdeelagmbpaaGreatVai
set_option linter.unusedSimpArgs false
set_option linter.unusedVariables false
set_option maxRecDepth 100000
namespace Go.Proofs.YtdhgdeelagmbpaaGreat
open Go Go.Gm
attribute [go_sem] needs aop qcy q2a List.toList_toArray qdx qbd q1j List.take List.drop List.length_cons List.length_nil List.length_map q3j AV.q5p List.append qeh List.getElem?_cons_zero List.getElem?_cons_succ AV.refs AV.ren AV.rows if_true if_false List.nil_append List.append_nil List.cons_append q3f unz q3p q3h q4m qlz List.getElem?_nil touched List.isEmpty_nil Option.some.injEq aUn q6g PV.cells List.replicate List.set_cons_zero List.set_cons_succ q3d qe2 ym eq_self AV.thaw Blk.thaw q26 q81 aEq uk fitAll xx qca q7e qb9 Blk.ren Blk.refs List.flatMap_nil List.flatMap_cons q8o List.map_cons List.map_nil List.drop_zero Option.isSome_none Option.isNone_none Option.isSome_some Option.isNone_some q3y.eq_def qyr refsOf zf7 zo7 zl7 zi1 z6e zo1 qtp qvd zfy zjf zlp zly zf1 qqk z4b zp2 qxe z6a z0n qxy z3s zk4 zoe qvf freezes.eq_1 freezes.eq_2 ev.eq_1 ev.eq_2 ev.eq_3 ev.eq_4 Env.get.eq_1 Env.get.eq_2 jq.eq_1 jq.eq_2 ze.eq_1 ze.eq_2 q69.eq_1 wo.eq_1 wo.eq_2 q4f.eq_1 q4f.eq_2 q0u.eq_1 q0u.eq_2 qd9.eq_1 ldP.eq_1 ldP.eq_2 ldA.eq_1 ldA.eq_2 TI.isAgg.eq_1 q5w.eq_1 Heap.get.eq_1 Heap.get.eq_2 Heap.put.eq_1 Heap.put.eq_2 zal qya qqq qtt z8l zef zmx zb8 qz3 qsm zqi zez z6r qy0 z02 zn6 z7n zld zoa qpz q03.eq_1 AV.refs.refsL.eq_1 AV.refs.refsL.eq_2 AV.ren.renL.eq_1 AV.ren.renL.eq_2 ky.eq_1 ky.eq_2 wu.eq_1 wu.eq_2 znp z1t zo2 narrow.eq_1 q82.eq_1 restrict.eq_1 restrict.eq_2 Heap.upto.eq_1 Heap.upto.eq_2 Heap.below.eq_1 Heap.below.eq_2 Env.below.eq_1 Env.below.eq_2 q5d.eq_1 q5d.eq_2 decide_true and_self AV.rows.rowsL.eq_1 AV.rows.rowsL.eq_2 Nat.zero_lt_one Nat.lt_add_one Nat.zero_le Nat.le_refl Nat.zero_add Nat.add_zero and_true true_and Bool.and_true Bool.true_and decide_false Bool.false_eq_true q0c.eq_1 q0c.eq_2 z8f qq2 q0l.eq_1 q0l.eq_2 q98.eq_1 q98.eq_2 finish.eq_1 List.range_zero pos.eq_1 pos.eq_2 reach.eq_1 reach.eq_2 reach.eq_3 enter.eq_1 jy.eq_1 jy.eq_2 jl.eq_1 jl.eq_2 q0e.eq_1 q0e.eq_2 setEnv.eq_1 setEnv.eq_2 zhy zlk ze4 zat qv3 qqx zol Bool.not_false Bool.not_true Bool.or_self Bool.or_false Bool.false_or Bool.or_true Bool.true_or qvr qv2 zpb Bool.and_self Bool.and_false Bool.false_and q1a.eq_1 q1a.eq_2 Nat.mul_one Nat.one_mul true_or or_true false_or or_false or_self and_false false_and Gm.freeze.eq_1 AV.thaw.thawL.eq_1 AV.thaw.thawL.eq_2 zy.eq_1 zy.eq_2 qa2.eq_1 q1p.eq_1 q1p.eq_2 qfl.eq_1 closedIn.eq_1 closedIn.eq_2 pick.eq_1 pick.eq_2 q3e.eq_1 q3e.eq_2 q2q.eq_1 q2q.eq_2 yu.eq_1 backTo.eq_1 yf.eq_1 yf.eq_2 q0a.eq_1 q7a.eq_1 zds zps qz1 za2 qsi qrs qpn z4k z2z qzl z9c zos qsc zdd z1g qvi znk ziu canon.eq_1 q77.eq_1 q77.eq_2 q7u.eq_1 q7u.eq_2 q33.eq_1 q33.eq_2 q84.eq_1 qlu z2y zb qm6 qia qm2 qjg qk5 ql4 qni qkb take_len z1h qpx z6s z4m qel.eq_1 qel.eq_2 kE.eq_1 zn3 qzh zac zlf zdp qxv zdu z6p zc2 qth z16 qrr z9y qs2 qln zj4 z3u zkc qsx qu5 zma zfg zbx zf9 zjb zj6 zhb quc qqb z0v za z8 take_set List.take_length v_i v_b v_s v_g v_l v_r b_x b_r b_m qj qf qg q5g slE qlg T.Span.qx T.Row.qx T.Rx.qx T.Fmt.qx T.Form.qx T.Stop.qx T.zf.qx T.qb.qx T.q4g.qx T.qi.qx T.qc.qx T.q56.qx T.q61.qx T.qm.qx T.qw.qx T.qo.qx T.qy.qjn T.qy.qn2 T.qy.qp6 T.qy.qhv T.qy.qx zq2 kp5 pr5 zqq kp7 pr7 qqn kp8 pr8 quk kp9 pr9 qyd zki ziv z2h zfq z3i zp1 z2r zd7 qze zce zbm qte zjk qz9 znd qsq zmp qvs qps zlb qzs z5z qqt zmh qrf z03 qxn z3c zmk qx0 z7b zj7 zne z9k zp0 qum z9g zbi zev qtc zkv qtg zq7 zls qxk z14 zae z1o zhn z0d z10 zl3 z7x zcv zl4 zar zqb zgb quv zqj zcp z18 zc8 z8k z4j z7u zit zh9 zht z9m qt1 zom zed qq3 qvb zok zga zj8 z7f qwp qxb zpw zmi z5i qr9 zcc qrd zcm zi3 qxa qyz z08 zn1 qui z2t zj2 z4s z9b zbv zhw zm9 z0p z6t zmv z4t qyq qzd zis z9f zc4 zd3 zdh qw6 qxp zmg zh2 qqm qpm qve z1c zli zgj qri qpj z5t qvl qvk zcg qqr z8o qvx zjm zh3 z1a zno zq4 qsv zm8 qxh z6c z4d zl1 qul qse zhv qud znl qz2 z0u zaz zaw z6o qta zq3 qxc qvg zgd qzn zd9 zmy zeu zbh zq6 zcn qzr qwc qx1 qqj z2k zpg zcu zkb qwt zjh z3b zde zij zew qvc z7e qsh zan zp7 zq8 zbe zf2 qt7 zfv qy3 z6l zb0 zie qun qxd z19 qu4 zhg qry zme zmc z9i zaq qt0 zjn z9u zpc zqv qv5 qv1 zjt qyi z4u zgp qt4 zcf qrq qza qy5 z3n zni zg1 z9t zl9 zhl ziz qzz z2d zdf zjl zjv zgs qr0 zph qso z9q qt6 zlu qzb qsb zoc zbg zkx z0q zoz qup qqf z6j qyn zi7 zkp zgg z9z qzq z2s zp5 zm6 zf8 z6x qwj qrh z7h zio zcs zho zlt qzu z7c zdi qxq zel qtq zec zdc zp4 zlj zoy z7v z0w qwh quq qts zl2 zke z0g znj zdo zla qrt zhm zqr zkj za9 zdl zhz zjd qyc z9x qyy qxw quh z2l zk3 qpk z9j z07 zh1 qv4 zqy qwf qww qrp zm5 qux zmu z6y ze9 z1m zen qzg z3f z4f z5v z5g zp8 qw4 z6k zia zax zbq qwo zf5 z0f qw3 qzj zbr z1f qwz ziq z0l qsz zl8 zms zoq zqf znn zee qvy zfx zf4 z1p zpd qty za3 zo5 z95 z5f zll qyo zg2 zpi zep qpt z7o qyj qzv zqx z15 qs6 ze1 zoj zow z2m zk9 z2q zn9 qsr qv7 z8a zh0 z9p zpx z5l z2a qxz qu3 qyh zdj qxj z8d qpv zmb qq0 qwx zhx z0r zjc zon qx5 zmt qwi zam zjr z6z quw zba zmm zpv zkg z8s qsu z4r zi0 z4g zbk zlo z7w qrb qzt qss zn4 zdv zej zgm qsj qw9 ze2 zqa z4z zjw qr5 z8q qqh z3o z1y zpk zny zgf zkm z4l z3y zoi z6v zpo z0a zp9 zab zfz zk1 znv qu6 zov zbw z2e zdn zi2 zpu qx2 z7i qyu z5e zj9 qwu zmj fz1 fz2 fz3 fz4 fz5 fz6 fz7 fz8 fz9 zaa z9v qxi zl0 zlg zao zck zdr zhi qtl qx8 qzm qu7 zko z88 qyt qqa qr8 qwq qql z7l qyx zjg zkh qqd qwg z3k z13 qpi zd2 zpl z3p z0c qsy zmn zlv zkl qxr zjo z5c zdw zhj qt3 z0s zml zd1 z7k qqe z9r zq9 zhu qq5 qv9 z1u z3t znf zgx zfr z7s zcy z8r qs8 z8h qwa z4y z8b zoh qru z8e qz6 qrg zbl qro z8x ziy qu0 z1d qvu quz zh6 z5a zik z0j zgr z5n zku z7q qw0 qpu zcq z05 zka qvt qws zob qu2 zi4 zf6 zn7 que z8g zqo z1z qvv qti z2j zg4 zek zmq zk2 zpy zfp zd4 qx9 ze6 zci qvp zhh zle qyw znh zf3 z5x qwb qtw zot z7t qu8 z4x zgh z2g zea zpe zky zet qye zix zeb zbp zqn z4v qt8 qt9 zk7 qto z8v zjs zgn zpj zlm zfs qr4 zj1 qy7 zgz qqz zmf z2c zc7 z3j zhd zi6 qq1 quu zkw z2n z1e zkq qqu z4a zbc znm zi9 qr1 qz8 qtu z7g qqv zqs zh5 zqc zb5 z8c qqi zg6 z1l zgi qy9 qrj zda qtr zox qug zc5 qzf zfu zdz qtk qx3 zj5 zq1 zqe mf ti3 ti4 ti5 ti9 zd5 zib zkt zco zj0 zl6 qz4 zbt z6u zpz qwd qpl zhe z2v qq7 z3h zby z9o zmz z2o qs7 z1w zod zk8 qqo qs0 zns qw8 zo6 qt5 ze5 qs9
set_option maxHeartbeats 4000000
theorem q6c {c r} (h : q1s c = some r) : O.call 93 [AV.pv (PV.int IntKind.u8 (c.toNat : Int))] [] = some (v_b r,[]) := by
 revert h; unfold q1s
 apply it <;> intro h1
 ·rintro ⟨⟩
  exact fF qkk
 rintro ⟨⟩
 exact fF qkk
theorem qvj : ∀ p r,q6x p = some r → O.loop 71 0 ⟨[(0,v_s p.1),(1,v_i p.2.1),(7,v_i p.2.2.1),(8,v_i p.2.2.2)],[],0⟩ = some (Ex.normal,⟨[(0,v_s p.1),(1,v_i p.2.1),(7,v_i r.1),(8,v_i r.2)],[],0⟩) := by
 refine q6x.partial_correctness _ ?_
 rintro q6x ih8 ⟨s,at_,n,end_⟩ r; dsimp only
 refine zn (fun h1 h2 => ?_) ?_
 ·refine bc fun b4 h3 f1 f2 => ?_
  refine bs fun v6 h5 => ?_
  have f3 := q6c h5
  try simp only [en.down] at f3
  apply it <;> intro h7
  ·try simp only [h7] at f3
   intro h; have f4 := ih8 _ _ h; clear h
   try simp only [en.down] at f4
   try simp only [h7] at f4
   clear ih8; exact fL q7f
  try simp only [h7] at f3
  rintro ⟨⟩
  clear ih8; exact fL q7f
 rintro (⟨h1,h2⟩ | ⟨h1,h2⟩)
 all_goals
 rintro ⟨⟩
 clear ih8; exact fL q7f
theorem qft {s at_ r} (h : q6n s at_ = some r) : O.call 71 [v_s s,v_i at_] [] = some (AV.tup [v_i r.1,v_i r.2.1,v_b r.2.2],[]) := by
 revert h; unfold q6n
 refine bs fun v2 h1 => ?_
 have f1 := qvj _ _ h1
 try simp only [en.down] at f1
 apply it <;> intro h3
 ·rintro ⟨⟩
  exact fF q7f
 apply it <;> intro h4
 ·refine bc fun b6 h5 f2 f3 => ?_
  refine bs fun v8 h7 => ?_
  have f4 := q6c h7
  try simp only [en.down] at f4
  apply it <;> intro h9
  ·try simp only [h9] at f1 f4
   rintro ⟨⟩
   exact fF q7f
  try simp only [h9] at f1 f4
  rintro ⟨⟩
  exact fF q7f
 rintro ⟨⟩
 exact fF q7f
theorem qcw {c r} (h : q5r c = some r) : O.call 94 [AV.pv (PV.int IntKind.u8 (c.toNat : Int))] [] = some (v_b r,[]) := by
 revert h; unfold q5r
 refine zn (fun h1 h2 => ?_) ?_
 ·rintro ⟨⟩
  exact fF qh6
 rintro (⟨h1,h2⟩ | ⟨h1,h2⟩)
 all_goals
 apply it <;> intro h4
 ·rintro ⟨⟩
  exact fF qh6
 rintro ⟨⟩
 exact fF qh6
theorem qxx : ∀ p r,q34 p = some r → O.loop 72 0 ⟨[(0,AV.ptr 0 0),(1,v_i p.1),(7,v_i p.2.1)],[(0,Blk.box [v_s p.2.2.1,v_r 1 p.2.2.2.1,v_r 2 p.2.2.2.2]),(1,Blk.row false 18 (List.map T.qb.enc p.2.2.2.1)),(2,Blk.row false 1 (List.map qf p.2.2.2.2))],3⟩ = some (Ex.normal,⟨[(0,AV.ptr 0 0),(1,v_i p.1),(7,v_i r)],[(0,Blk.box [v_s p.2.2.1,v_r 1 p.2.2.2.1,v_r 2 p.2.2.2.2]),(1,Blk.row false 18 (List.map T.qb.enc p.2.2.2.1)),(2,Blk.row false 1 (List.map qf p.2.2.2.2))],3⟩) := by
 refine q34.partial_correctness _ ?_
 rintro q34 ih11 ⟨at_,end_,r_,r1_,r2_⟩ r; dsimp only
 apply it <;> intro h1
 ·refine bc fun b3 h2 f1 f2 => ?_
  refine bs fun v5 h4 => ?_
  have f3 := qcw h4
  try simp only [en.down] at f3
  apply it <;> intro h6
  ·try simp only [h6] at f3
   intro h; have f4 := ih11 _ _ h; clear h
   try simp only [en.down] at f4
   try simp only [h6] at f4
   clear ih11; exact fL q6v
  apply it <;> intro h7
  ·try simp only [h6] at f3
   intro h; have f5 := ih11 _ _ h; clear h
   try simp only [en.down] at f5
   try simp only [h6] at f5
   clear ih11; exact fL q6v
  apply it <;> intro h8
  ·refine bs fun v10 h9 => ?_
   have f6 := q6c h9
   try simp only [en.down] at f6
   apply it <;> intro h11
   ·try simp only [h6,h11] at f3 f6
    intro h; have f7 := ih11 _ _ h; clear h
    try simp only [en.down] at f7
    try simp only [h6,h11] at f7
    clear ih11; exact fL q6v
   try simp only [h6,h11] at f3 f6
   rintro ⟨⟩
   clear ih11; exact fL q6v
  try simp only [h6] at f3
  rintro ⟨⟩
  clear ih11; exact fL q6v
 rintro ⟨⟩
 clear ih11; exact fL q6v
def qny : ((Bool) ⊕ (Unit)) → Ex × St
 | .inl y => (Ex.ret,⟨[(2,v_b y)],[],0⟩)
 | .inr y => (Ex.normal,⟨[(2,AV.undef)],[],0⟩)
attribute [local go_sem] qny
theorem z0b : ∀ p r,q0x p = some r → O.loop 77 0 ⟨[(0,v_s p.1),(3,v_i p.2)],[],0⟩ = some (qny r) := by
 refine q0x.partial_correctness _ ?_
 rintro q0x ih14 ⟨s,i⟩ r; dsimp only
 apply it <;> intro h1
 ·refine bc fun b3 h2 f1 f2 => ?_
  refine bs fun v5 h4 => ?_
  have f3 := qcw h4
  try simp only [en.down] at f3
  apply it <;> intro h6
  ·apply it <;> intro h7
   ·apply it <;> intro h8
    ·rintro ⟨⟩
     clear ih14; exact fL q39
    refine bs fun v10 h9 => ?_
    have f4 := q6c h9
    try simp only [en.down] at f4
    apply it <;> intro h11
    ·rintro ⟨⟩
     clear ih14; exact fL q39
    intro h; have f5 := ih14 _ _ h; clear h
    try simp only [en.down] at f5
    clear ih14; exact fL q39
   intro h; have f6 := ih14 _ _ h; clear h
   try simp only [en.down] at f6
   clear ih14; exact fL q39
  intro h; have f7 := ih14 _ _ h; clear h
  try simp only [en.down] at f7
  clear ih14; exact fL q39
 rintro ⟨⟩
 clear ih14; exact fL q39
theorem q6y {s r} (h : bf s = some r) : O.call 77 [v_s s] [] = some (v_b r,[]) := by
 revert h; unfold bf
 refine xy ?_ (fun h1 h2 => ?_)
 ·rintro (⟨h1,h2⟩ | ⟨h1,h2⟩)
  all_goals
  rintro ⟨⟩
  exact fF q39
 refine bs fun v4 h3 => ?_
 have f1 := z0b _ _ h3
 try simp only [en.down] at f1
 rcases v4 with y5 | y6
 ·dsimp only
  rintro ⟨⟩
  exact fF q39
 dsimp only
 rintro ⟨⟩
 exact fF q39
theorem zhp {at_ b r_ r_2 r} (h : q9n at_ b r_ r_2 = some r) : O.call 72 [AV.ptr 0 0,v_i at_] [(0,Blk.box [v_s b,v_r 1 r_,v_r 2 r_2]),(1,Blk.row false 18 (List.map T.qb.enc r_)),(2,Blk.row false 1 (List.map qf r_2))] = some (AV.tup [v_s r.1,v_i r.2.1,v_b r.2.2],[(0,Blk.box [v_s b,v_r 1 r_,v_r 2 r_2]),(1,Blk.row false 18 (List.map T.qb.enc r_)),(2,Blk.row false 1 (List.map qf r_2))]) := by
 revert h; unfold q9n
 refine bs fun v2 h1 => ?_
 have f1 := qxx _ _ h1
 try simp only [en.down] at f1
 refine b2s fun r4 h3 f2 f3 f4 f5 f6 => ?_
 refine bs fun v6 h5 => ?_
 have f7 := q6y h5
 try simp only [en.down] at f7
 rintro ⟨⟩
 exact fF q6v
theorem qm1 {at_ b r_ r_2 r} (h : q9k at_ b r_ r_2 = some r) : O.call 52 [AV.ptr 0 0,v_i at_] [(0,Blk.box [v_s b,v_r 1 r_,v_r 2 r_2]),(1,Blk.row false 18 (List.map T.qb.enc r_)),(2,Blk.row false 1 (List.map qf r_2))] = some (AV.tup [v_g (T.qb.enc r.1),v_i r.2.1,v_b r.2.2],[(0,Blk.box [v_s b,v_r 1 r_,v_r 2 r_2]),(1,Blk.row false 18 (List.map T.qb.enc r_)),(2,Blk.row false 1 (List.map qf r_2))]) := by
 revert h; unfold q9k
 refine bs fun v2 h1 => ?_
 have f1 := qft h1
 try simp only [en.down] at f1
 apply it <;> intro h3
 ·try simp only [h3] at f1
  rintro ⟨⟩
  exact fF qhh
 refine bs fun v5 h4 => ?_
 have f2 := zhp h4
 try simp only [en.down] at f2
 apply it <;> intro h6
 ·try simp only [h3,h6] at f1 f2
  rintro ⟨⟩
  exact fF qhh
 try simp only [h3,h6] at f1 f2
 rintro ⟨⟩
 exact fF qhh
theorem qh7 {s at_ opt r} (h : q74 s at_ opt = some r) : O.call 55 [v_s s,v_i at_,v_b opt] [] = some (v_b r,[]) := by
 revert h; unfold q74
 refine bc fun b2 h1 f1 f2 => ?_
 refine xy ?_ (fun h3 h4 => ?_)
 ·rintro (⟨h3,h4⟩ | ⟨h3,h4⟩)
  all_goals
  rintro ⟨⟩
  exact fF q9o
 refine bc fun b6 h5 f3 f4 => ?_
 refine qcn ?_ (fun h7 h8 h9 => ?_)
 ·rintro (⟨h7,h8,h9⟩ | ⟨h7,h8,h9⟩ | ⟨h7,h8,h9⟩)
  all_goals
  rintro ⟨⟩
  exact fF q9o
 apply it <;> intro h10
 ·apply it <;> intro h11
  ·rintro ⟨⟩
   exact fF q9o
  rintro ⟨⟩
  exact fF q9o
 rintro ⟨⟩
 exact fF q9o
theorem zc3 : ∀ p r,uo p = some r → O.loop 38 0 ⟨[(0,AV.ptr 0 0),(1,v_i p.1),(2,v_b p.2.1),(8,v_r 3 p.2.2.2.2.2.1),(9,v_r 4 p.2.2.2.2.2.2)],[(0,Blk.box [v_s p.2.2.1,v_r 1 p.2.2.2.1,v_r 2 p.2.2.2.2.1]),(1,Blk.row false 18 (List.map T.qb.enc p.2.2.2.1)),(2,Blk.row false 1 (List.map qf p.2.2.2.2.1)),(3,b_r 18 T.qb.enc p.2.2.2.2.2.1),(4,b_r 1 qj p.2.2.2.2.2.2)],5⟩ = some (Ex.normal,⟨[(0,AV.ptr 0 0),(1,v_i r.1),(2,v_b p.2.1),(8,v_r 3 r.2.1),(9,v_r 4 r.2.2)],[(0,Blk.box [v_s p.2.2.1,v_r 1 p.2.2.2.1,v_r 2 p.2.2.2.2.1]),(1,Blk.row false 18 (List.map T.qb.enc p.2.2.2.1)),(2,Blk.row false 1 (List.map qf p.2.2.2.2.1)),(3,b_r 18 T.qb.enc r.2.1),(4,b_r 1 qj r.2.2)],5⟩) := by
 refine uo.partial_correctness _ ?_
 rintro uo ih16 ⟨at_,braced,r_,r1_,r2_,l,text⟩ r; dsimp only
 apply it <;> intro h1
 ·apply it <;> intro h2
  ·refine bc fun b4 h3 f1 f2 => ?_
   apply it <;> intro h5
   ·refine bw qf fun x7 h6 f3 f4 f5 => ?_
    apply it <;> intro h8
    ·have f6 := jd 1 qj text
     have f7 := bytesOf_map text
     refine bw T.qb.enc fun x10 h9 f8 f9 f10 => ?_
     refine gd fun h11 => ?_
     have f11 := fun te β nx c0 c1 (h1 : 18 = te.size) (h2 : ql (l.length + 2) te.bytes = true) => qhn te β 18 nx T.qb.enc l c0 [c1] h1 h2
     have f12 : List.map T.qb.enc l ++ [[PV.int IntKind.i64 (0 : Int),PV.str text,PV.int IntKind.i64 (0 : Int),PV.bool false,PV.bool false,PV.int IntKind.i64 (0 : Int),PV.str ([] : Bytes),PV.bool false,PV.sl true 0 [],PV.int IntKind.i64 (0 : Int),PV.int IntKind.i64 (0 : Int),PV.bool false,PV.sl true 0 [],PV.sl true 0 [],PV.bool false,PV.bool false,PV.sl true 0 [],PV.sl true 0 []],[PV.int IntKind.i64 x10.kind,PV.str x10.text,PV.int IntKind.i64 x10.n,PV.bool x10.has,PV.bool x10.turned,PV.int IntKind.i64 x10.form.rx.kind,PV.str x10.form.rx.char,PV.bool x10.form.rx.not,PV.sl x10.form.rx.rows.nil (szc 2 x10.form.rx.rows.l) (List.map T.Row.enc x10.form.rx.rows.l),PV.int IntKind.i64 x10.form.rx.min,PV.int IntKind.i64 x10.form.rx.max,PV.bool x10.form.rx.lazy,PV.sl x10.form.rx.kids.nil (szc 8 x10.form.rx.kids.l) (List.map T.Rx.enc x10.form.rx.kids.l),PV.sl x10.form.fmts.nil (szc 5 x10.form.fmts.l) (List.map T.Fmt.enc x10.form.fmts.l),PV.bool x10.form.fold,PV.bool x10.form.all,PV.sl x10.opts.nil (szc 1 x10.opts.l) (List.map qg x10.opts.l),PV.sl x10.kids.nil (szc 18 x10.kids.l) (List.map T.qb.enc x10.kids.l)]] = List.map T.qb.enc (l ++ [(T.qb.mk (0 : Int) text (0 : Int) false false (T.Form.mk (T.Rx.mk (0 : Int) ([] : Bytes) false (⟨true,[]⟩ : (Sl T.Row)) (0 : Int) (0 : Int) false (⟨true,[]⟩ : (Sl T.Rx))) (⟨true,[]⟩ : (Sl T.Fmt)) false false) (⟨true,[]⟩ : (Sl Bytes)) (⟨true,[]⟩ : (Sl T.qb))),x10]) := by simp only [List.map_append,List.map_cons,List.map_nil,za,z8,zb,T.qb.qx] <;> rfl
     intro h; have f13 := ih16 _ _ h; clear h
     try simp only [en.down] at f13
     try simp only [h2] at f13
     clear ih16; exact fL q2j
    refine bs fun v13 h12 => ?_
    have f14 := qh7 h12
    try simp only [en.down] at f14
    apply it <;> intro h14
    ·refine bc fun b16 h15 f15 f16 => ?_
     refine gd fun h17 => ?_
     have f17 := rG 1 qj text
     have f18 : List.map qj text ++ [[PV.int IntKind.u8 (b16.toNat : Int)]] = List.map qj (text ++ [b16]) := by simp only [List.map_append,List.map_cons,List.map_nil,za,z8,zb,qj] <;> rfl
     try simp only [h2,h14] at f14
     intro h; have f19 := ih16 _ _ h; clear h
     try simp only [en.down] at f19
     try simp only [h2,h14] at f19
     clear ih16; exact fL q2j
    refine gd fun h18 => ?_
    have f20 := rG 1 qj text
    have f21 : List.map qj text ++ [[PV.int IntKind.u8 (b4.toNat : Int)]] = List.map qj (text ++ [b4]) := by simp only [List.map_append,List.map_cons,List.map_nil,za,z8,zb,qj] <;> rfl
    try simp only [h2,h14] at f14
    intro h; have f22 := ih16 _ _ h; clear h
    try simp only [en.down] at f22
    try simp only [h2,h14] at f22
    clear ih16; exact fL q2j
   rintro ⟨⟩
   clear ih16; exact fL q2j
  refine bw qf fun x20 h19 f23 f24 f25 => ?_
  apply it <;> intro h21
  ·have f26 := jd 1 qj text
   have f27 := bytesOf_map text
   refine bw T.qb.enc fun x23 h22 f28 f29 f30 => ?_
   refine gd fun h24 => ?_
   have f31 := fun te β nx c0 c1 (h1 : 18 = te.size) (h2 : ql (l.length + 2) te.bytes = true) => qhn te β 18 nx T.qb.enc l c0 [c1] h1 h2
   have f32 : List.map T.qb.enc l ++ [[PV.int IntKind.i64 (0 : Int),PV.str text,PV.int IntKind.i64 (0 : Int),PV.bool false,PV.bool false,PV.int IntKind.i64 (0 : Int),PV.str ([] : Bytes),PV.bool false,PV.sl true 0 [],PV.int IntKind.i64 (0 : Int),PV.int IntKind.i64 (0 : Int),PV.bool false,PV.sl true 0 [],PV.sl true 0 [],PV.bool false,PV.bool false,PV.sl true 0 [],PV.sl true 0 []],[PV.int IntKind.i64 x23.kind,PV.str x23.text,PV.int IntKind.i64 x23.n,PV.bool x23.has,PV.bool x23.turned,PV.int IntKind.i64 x23.form.rx.kind,PV.str x23.form.rx.char,PV.bool x23.form.rx.not,PV.sl x23.form.rx.rows.nil (szc 2 x23.form.rx.rows.l) (List.map T.Row.enc x23.form.rx.rows.l),PV.int IntKind.i64 x23.form.rx.min,PV.int IntKind.i64 x23.form.rx.max,PV.bool x23.form.rx.lazy,PV.sl x23.form.rx.kids.nil (szc 8 x23.form.rx.kids.l) (List.map T.Rx.enc x23.form.rx.kids.l),PV.sl x23.form.fmts.nil (szc 5 x23.form.fmts.l) (List.map T.Fmt.enc x23.form.fmts.l),PV.bool x23.form.fold,PV.bool x23.form.all,PV.sl x23.opts.nil (szc 1 x23.opts.l) (List.map qg x23.opts.l),PV.sl x23.kids.nil (szc 18 x23.kids.l) (List.map T.qb.enc x23.kids.l)]] = List.map T.qb.enc (l ++ [(T.qb.mk (0 : Int) text (0 : Int) false false (T.Form.mk (T.Rx.mk (0 : Int) ([] : Bytes) false (⟨true,[]⟩ : (Sl T.Row)) (0 : Int) (0 : Int) false (⟨true,[]⟩ : (Sl T.Rx))) (⟨true,[]⟩ : (Sl T.Fmt)) false false) (⟨true,[]⟩ : (Sl Bytes)) (⟨true,[]⟩ : (Sl T.qb))),x23]) := by simp only [List.map_append,List.map_cons,List.map_nil,za,z8,zb,T.qb.qx] <;> rfl
   intro h; have f33 := ih16 _ _ h; clear h
   try simp only [en.down] at f33
   try simp only [h2] at f33
   clear ih16; exact fL q2j
  refine bs fun v26 h25 => ?_
  have f34 := qh7 h25
  try simp only [en.down] at f34
  apply it <;> intro h27
  ·refine bc fun b29 h28 f35 f36 => ?_
   refine gd fun h30 => ?_
   have f37 := rG 1 qj text
   have f38 : List.map qj text ++ [[PV.int IntKind.u8 (b29.toNat : Int)]] = List.map qj (text ++ [b29]) := by simp only [List.map_append,List.map_cons,List.map_nil,za,z8,zb,qj] <;> rfl
   try simp only [h2,h27] at f34
   intro h; have f39 := ih16 _ _ h; clear h
   try simp only [en.down] at f39
   try simp only [h2,h27] at f39
   clear ih16; exact fL q2j
  refine bc fun b32 h31 f40 f41 => ?_
  refine gd fun h33 => ?_
  have f42 := rG 1 qj text
  have f43 : List.map qj text ++ [[PV.int IntKind.u8 (b32.toNat : Int)]] = List.map qj (text ++ [b32]) := by simp only [List.map_append,List.map_cons,List.map_nil,za,z8,zb,qj] <;> rfl
  try simp only [h2,h27] at f34
  intro h; have f44 := ih16 _ _ h; clear h
  try simp only [en.down] at f44
  try simp only [h2,h27] at f44
  clear ih16; exact fL q2j
 rintro ⟨⟩
 clear ih16; exact fL q2j
theorem qv8 : ∀ p r,q0h p = some r → O.loop 56 0 ⟨[(0,v_l 18 T.qb.enc p.1),(3,v_r 0 p.2.2),(4,v_i p.2.1)],[(0,b_r 18 T.qb.enc p.2.2)],1⟩ = some (Ex.normal,⟨[(3,v_r 0 r)],[(0,b_r 18 T.qb.enc r)],1⟩) := by
 refine q0h.partial_correctness _ ?_
 rintro q0h ih19 ⟨l,i,out⟩ r; dsimp only
 apply it <;> intro h1
 ·refine bg T.qb.enc fun x3 h2 f1 f2 f3 => ?_
  apply it <;> intro h4
  ·apply it <;> intro h5
   ·intro h; have f4 := ih19 _ _ h; clear h
    try simp only [en.down] at f4
    clear ih19; exact fL q67
   apply it <;> intro h6
   ·refine bW T.qb.enc 18 fun x8 h7 f5 f6 f7 f8 f9 => ?_
    apply it <;> intro h9
    ·refine gd fun h10 => ?_
     have f10 := eq_true h10
     try simp only [en.down] at f10
     have f11 := map_set T.qb.enc out ((IntKind.i64.wrap ((out.length : Int) - (1 : Int))).toNat) (T.qb.mk x8.kind (x8.text ++ x3.text) x8.n x8.has x8.turned x8.form x8.opts x8.kids)
     try simp only [en.down] at f11
     try simp only [f8,f9] at f11
     intro h; have f12 := ih19 _ _ h; clear h
     try simp only [en.down,f8,f9] at f12
     try simp only [f8,f9] at f12
     clear ih19; exact fL q67
    refine gd fun h11 => ?_
    have f13 : List.map T.qb.enc out ++ [[PV.int IntKind.i64 x3.kind,PV.str x3.text,PV.int IntKind.i64 x3.n,PV.bool x3.has,PV.bool x3.turned,PV.int IntKind.i64 x3.form.rx.kind,PV.str x3.form.rx.char,PV.bool x3.form.rx.not,PV.sl x3.form.rx.rows.nil (szc 2 x3.form.rx.rows.l) (List.map T.Row.enc x3.form.rx.rows.l),PV.int IntKind.i64 x3.form.rx.min,PV.int IntKind.i64 x3.form.rx.max,PV.bool x3.form.rx.lazy,PV.sl x3.form.rx.kids.nil (szc 8 x3.form.rx.kids.l) (List.map T.Rx.enc x3.form.rx.kids.l),PV.sl x3.form.fmts.nil (szc 5 x3.form.fmts.l) (List.map T.Fmt.enc x3.form.fmts.l),PV.bool x3.form.fold,PV.bool x3.form.all,PV.sl x3.opts.nil (szc 1 x3.opts.l) (List.map qg x3.opts.l),PV.sl x3.kids.nil (szc 18 x3.kids.l) (List.map T.qb.enc x3.kids.l)]] = List.map T.qb.enc (out ++ [x3]) := by simp only [List.map_append,List.map_cons,List.map_nil,za,z8,zb,T.qb.qx] <;> rfl
    intro h; have f14 := ih19 _ _ h; clear h
    try simp only [en.down,f8,f9] at f14
    try simp only [f8,f9] at f14
    clear ih19; exact fL q67
   refine gd fun h12 => ?_
   have f15 := rG 18 T.qb.enc out
   have f16 : List.map T.qb.enc out ++ [[PV.int IntKind.i64 x3.kind,PV.str x3.text,PV.int IntKind.i64 x3.n,PV.bool x3.has,PV.bool x3.turned,PV.int IntKind.i64 x3.form.rx.kind,PV.str x3.form.rx.char,PV.bool x3.form.rx.not,PV.sl x3.form.rx.rows.nil (szc 2 x3.form.rx.rows.l) (List.map T.Row.enc x3.form.rx.rows.l),PV.int IntKind.i64 x3.form.rx.min,PV.int IntKind.i64 x3.form.rx.max,PV.bool x3.form.rx.lazy,PV.sl x3.form.rx.kids.nil (szc 8 x3.form.rx.kids.l) (List.map T.Rx.enc x3.form.rx.kids.l),PV.sl x3.form.fmts.nil (szc 5 x3.form.fmts.l) (List.map T.Fmt.enc x3.form.fmts.l),PV.bool x3.form.fold,PV.bool x3.form.all,PV.sl x3.opts.nil (szc 1 x3.opts.l) (List.map qg x3.opts.l),PV.sl x3.kids.nil (szc 18 x3.kids.l) (List.map T.qb.enc x3.kids.l)]] = List.map T.qb.enc (out ++ [x3]) := by simp only [List.map_append,List.map_cons,List.map_nil,za,z8,zb,T.qb.qx] <;> rfl
   intro h; have f17 := ih19 _ _ h; clear h
   try simp only [en.down] at f17
   clear ih19; exact fL q67
  refine gd fun h13 => ?_
  have f18 := rG 18 T.qb.enc out
  have f19 : List.map T.qb.enc out ++ [[PV.int IntKind.i64 x3.kind,PV.str x3.text,PV.int IntKind.i64 x3.n,PV.bool x3.has,PV.bool x3.turned,PV.int IntKind.i64 x3.form.rx.kind,PV.str x3.form.rx.char,PV.bool x3.form.rx.not,PV.sl x3.form.rx.rows.nil (szc 2 x3.form.rx.rows.l) (List.map T.Row.enc x3.form.rx.rows.l),PV.int IntKind.i64 x3.form.rx.min,PV.int IntKind.i64 x3.form.rx.max,PV.bool x3.form.rx.lazy,PV.sl x3.form.rx.kids.nil (szc 8 x3.form.rx.kids.l) (List.map T.Rx.enc x3.form.rx.kids.l),PV.sl x3.form.fmts.nil (szc 5 x3.form.fmts.l) (List.map T.Fmt.enc x3.form.fmts.l),PV.bool x3.form.fold,PV.bool x3.form.all,PV.sl x3.opts.nil (szc 1 x3.opts.l) (List.map qg x3.opts.l),PV.sl x3.kids.nil (szc 18 x3.kids.l) (List.map T.qb.enc x3.kids.l)]] = List.map T.qb.enc (out ++ [x3]) := by simp only [List.map_append,List.map_cons,List.map_nil,za,z8,zb,T.qb.qx] <;> rfl
  intro h; have f20 := ih19 _ _ h; clear h
  try simp only [en.down] at f20
  clear ih19; exact fL q67
 rintro ⟨⟩
 clear ih19; exact fL q67
theorem qv0 {l r} (h : qch l = some r) : O.call 56 [v_l 18 T.qb.enc l] [] = some (v_l 18 T.qb.enc r,[]) := by
 revert h; unfold qch
 refine bs fun v2 h1 => ?_
 have f1 := qv8 _ _ h1
 try simp only [en.down] at f1
 rintro ⟨⟩
 exact fF q67
theorem qol {at_ braced b r_ r_2 r} (h : q96 at_ braced b r_ r_2 = some r) : O.call 38 [AV.ptr 0 0,v_i at_,v_b braced] [(0,Blk.box [v_s b,v_r 1 r_,v_r 2 r_2]),(1,Blk.row false 18 (List.map T.qb.enc r_)),(2,Blk.row false 1 (List.map qf r_2))] = some (AV.tup [v_l 18 T.qb.enc r.1,v_i r.2],[(0,Blk.box [v_s b,v_r 1 r_,v_r 2 r_2]),(1,Blk.row false 18 (List.map T.qb.enc r_)),(2,Blk.row false 1 (List.map qf r_2))]) := by
 revert h; unfold q96
 refine bs fun v2 h1 => ?_
 have f1 := zc3 _ _ h1
 try simp only [en.down] at f1
 refine zn (fun h3 h4 => ?_) ?_
 ·try simp only [h4] at f1
  rintro ⟨⟩
  exact fF q2j
 rintro (⟨h3,h4⟩ | ⟨h3,h4⟩)
 all_goals
 have f2 := jd 1 qj v2.2.2
 have f3 := bytesOf_map v2.2.2
 refine gd fun h8 => ?_
 have f4 := rG 18 T.qb.enc v2.2.1
 have f5 : List.map T.qb.enc v2.2.1 ++ [[PV.int IntKind.i64 (0 : Int),PV.str v2.2.2,PV.int IntKind.i64 (0 : Int),PV.bool false,PV.bool false,PV.int IntKind.i64 (0 : Int),PV.str ([] : Bytes),PV.bool false,PV.sl true 0 [],PV.int IntKind.i64 (0 : Int),PV.int IntKind.i64 (0 : Int),PV.bool false,PV.sl true 0 [],PV.sl true 0 [],PV.bool false,PV.bool false,PV.sl true 0 [],PV.sl true 0 []]] = List.map T.qb.enc (v2.2.1 ++ [(T.qb.mk (0 : Int) v2.2.2 (0 : Int) false false (T.Form.mk (T.Rx.mk (0 : Int) ([] : Bytes) false (⟨true,[]⟩ : (Sl T.Row)) (0 : Int) (0 : Int) false (⟨true,[]⟩ : (Sl T.Rx))) (⟨true,[]⟩ : (Sl T.Fmt)) false false) (⟨true,[]⟩ : (Sl Bytes)) (⟨true,[]⟩ : (Sl T.qb)))]) := by simp only [List.map_append,List.map_cons,List.map_nil,za,z8,zb,T.qb.qx] <;> rfl
 refine bs fun v10 h9 => ?_
 have f6 := qv0 h9
 try simp only [en.down] at f6
 try simp only [h4] at f1 f6
 rintro ⟨⟩
 exact fF q2j
theorem qq9 : ∀ p r,q44 p = some r → O.loop 53 0 ⟨[(0,v_s p.1),(4,AV.ptr 0 0),(7,v_r 1 p.2.2.2),(8,v_i p.2.1)],[(0,b_x (T.Form.enc p.2.2.1)),(1,b_r 1 qj p.2.2.2)],2⟩ = some (Ex.normal,⟨[(0,v_s p.1),(4,AV.ptr 0 0),(7,v_r 1 r.2),(8,v_i r.1)],[(0,b_x (T.Form.enc p.2.2.1)),(1,b_r 1 qj r.2)],2⟩) := by
 refine q44.partial_correctness _ ?_
 rintro q44 ih21 ⟨s,k,t4,b⟩ r; dsimp only
 apply it <;> intro h1
 ·refine bc fun b3 h2 f1 f2 => ?_
  apply it <;> intro h4
  ·refine zn (fun h5 h6 => ?_) ?_
   ·refine bc fun b8 h7 f3 f4 => ?_
    apply it <;> intro h9
    ·refine gd fun h10 => ?_
     have f5 := rG 1 qj b
     have f6 : List.map qj b ++ [[PV.int IntKind.u8 (92 : Int)]] = List.map qj (b ++ [92]) := by simp only [List.map_append,List.map_cons,List.map_nil,za,z8,zb,qj] <;> rfl
     refine gd fun h11 => ?_
     have f7 : List.map qj (b ++ [92]) ++ [[PV.int IntKind.u8 (b8.toNat : Int)]] = List.map qj ((b ++ [92]) ++ [b8]) := by simp only [List.map_append,List.map_cons,List.map_nil,za,z8,zb,qj] <;> rfl
     intro h; have f8 := ih21 _ _ h; clear h
     try simp only [en.down] at f8
     clear ih21; exact fL yo
    refine gd fun h12 => ?_
    have f9 := rG 1 qj b
    have f10 : List.map qj b ++ [[PV.int IntKind.u8 (b8.toNat : Int)]] = List.map qj (b ++ [b8]) := by simp only [List.map_append,List.map_cons,List.map_nil,za,z8,zb,qj] <;> rfl
    intro h; have f11 := ih21 _ _ h; clear h
    try simp only [en.down] at f11
    clear ih21; exact fL yo
   rintro (⟨h5,h6⟩ | ⟨h5,h6⟩)
   all_goals
   refine gd fun h14 => ?_
   have f12 := rG 1 qj b
   have f13 : List.map qj b ++ [[PV.int IntKind.u8 (b3.toNat : Int)]] = List.map qj (b ++ [b3]) := by simp only [List.map_append,List.map_cons,List.map_nil,za,z8,zb,qj] <;> rfl
   intro h; have f14 := ih21 _ _ h; clear h
   try simp only [en.down] at f14
   clear ih21; exact fL yo
  rintro ⟨⟩
  clear ih21; exact fL yo
 rintro ⟨⟩
 clear ih21; exact fL yo
theorem qge {c r} (h : q38 c = some r) : O.call 111 [AV.pv (PV.int IntKind.u8 (c.toNat : Int))] [] = some (v_b r,[]) := by
 revert h; unfold q38
 apply it <;> intro h1
 ·rintro ⟨⟩
  exact fF qnu
 rintro ⟨⟩
 exact fF qnu
theorem qu1 : ∀ p r,yc p = some r → O.loop 95 0 ⟨[(0,v_s p.1),(3,v_r 0 p.2.2.2),(4,v_i p.2.1),(5,v_i p.2.2.1)],[(0,b_r 1 qg p.2.2.2)],1⟩ = some (Ex.normal,⟨[(3,v_r 0 r)],[(0,b_r 1 qg r)],1⟩) := by
 refine yc.partial_correctness _ ?_
 rintro yc ih24 ⟨s,frm,i,l⟩ r; dsimp only
 apply it <;> intro h1
 ·apply it <;> intro h2
  ·refine b2s fun r4 h3 f1 f2 f3 f4 f5 => ?_
   refine gd fun h5 => ?_
   have f6 := rG 1 qg l
   have f7 : List.map qg l ++ [[PV.str r4]] = List.map qg (l ++ [r4]) := by simp only [List.map_append,List.map_cons,List.map_nil,za,z8,zb,qg] <;> rfl
   intro h; have f8 := ih24 _ _ h; clear h
   try simp only [en.down] at f8
   clear ih24; exact fL qaq
  refine bc fun b7 h6 f9 f10 => ?_
  refine bs fun v9 h8 => ?_
  have f11 := qge h8
  try simp only [en.down] at f11
  apply it <;> intro h10
  ·refine b2s fun r12 h11 f12 f13 f14 f15 f16 => ?_
   refine gd fun h13 => ?_
   have f17 := rG 1 qg l
   have f18 : List.map qg l ++ [[PV.str r12]] = List.map qg (l ++ [r12]) := by simp only [List.map_append,List.map_cons,List.map_nil,za,z8,zb,qg] <;> rfl
   try simp only [h10] at f11
   intro h; have f19 := ih24 _ _ h; clear h
   try simp only [en.down] at f19
   try simp only [h10] at f19
   clear ih24; exact fL qaq
  try simp only [h10] at f11
  intro h; have f20 := ih24 _ _ h; clear h
  try simp only [en.down] at f20
  try simp only [h10] at f20
  clear ih24; exact fL qaq
 rintro ⟨⟩
 clear ih24; exact fL qaq
theorem qfe {s r} (h : q31 s = some r) : O.call 95 [v_s s] [] = some (v_l 1 qg r,[]) := by
 revert h; unfold q31
 refine bs fun v2 h1 => ?_
 have f1 := qu1 _ _ h1
 try simp only [en.down] at f1
 rintro ⟨⟩
 exact fF qaq
theorem q3w {b r} (h : q05 b = some r) : O.call 112 [AV.ptr 0 0] [(0,b_x (T.qm.enc b))] = some (v_s r,[(0,b_x (T.qm.enc b))]) := by
 revert h; unfold q05
 apply it <;> intro h1
 ·rintro ⟨⟩
  exact fF qjc
 refine bg qg fun x3 h2 f1 f2 f3 => ?_
 rintro ⟨⟩
 exact fF qjc
theorem xz {c b r} (h : zu c b = some r) : O.call 115 [AV.ptr 0 0,v_s c] [(0,b_x (T.qm.enc b))] = some (v_b r.1,[(0,b_x (T.qm.enc r.2))]) := by
 revert h; unfold zu
 apply it <;> intro h1
 ·rintro ⟨⟩
  exact fF qgx
 refine bg qg fun x3 h2 f1 f2 f3 => ?_
 apply it <;> intro h4
 ·rintro ⟨⟩
  exact fF qgx
 rintro ⟨⟩
 exact fF qgx
theorem qnx {c r} (h : q9i c = some r) : O.call 151 [AV.pv (PV.int IntKind.u8 (c.toNat : Int))] [] = some (AV.tup [v_l 2 T.Row.enc r.1,v_b r.2],[]) := by
 revert h; unfold q9i
 apply it <;> intro h1
 ·rintro ⟨⟩
  exact fF qej
 apply it <;> intro h2
 ·rintro ⟨⟩
  exact fF qej
 apply it <;> intro h3
 ·rintro ⟨⟩
  exact fF qej
 rintro ⟨⟩
 exact fF qej
theorem qdv {c r} (h : q27 c = some r) : O.call 152 [v_s c] [] = some (AV.tup [v_s r.1,v_b r.2],[]) := by
 revert h; unfold q27
 apply it <;> intro h1
 ·rintro ⟨⟩
  exact fF q2t
 apply it <;> intro h2
 ·rintro ⟨⟩
  exact fF q2t
 apply it <;> intro h3
 ·rintro ⟨⟩
  exact fF q2t
 apply it <;> intro h4
 ·rintro ⟨⟩
  exact fF q2t
 apply it <;> intro h5
 ·rintro ⟨⟩
  exact fF q2t
 apply it <;> intro h6
 ·rintro ⟨⟩
  exact fF q2t
 apply it <;> intro h7
 ·refine bc fun b9 h8 f1 f2 => ?_
  refine bs fun v11 h10 => ?_
  have f3 := qcw h10
  try simp only [en.down] at f3
  apply it <;> intro h12
  ·try simp only [h12] at f3
   rintro ⟨⟩
   exact fF q2t
  refine bs fun v14 h13 => ?_
  have f4 := q6c h13
  try simp only [en.down] at f4
  apply it <;> intro h15
  ·try simp only [h12,h15] at f3 f4
   rintro ⟨⟩
   exact fF q2t
  try simp only [h12,h15] at f3 f4
  rintro ⟨⟩
  exact fF q2t
 rintro ⟨⟩
 exact fF q2t
theorem qoe {b r} (h : q8f b = some r) : O.call 148 [AV.ptr 0 0] [(0,b_x (T.qm.enc b))] = some (AV.tup [v_l 2 T.Row.enc r.1,v_s r.2.1,v_b r.2.2.1],[(0,b_x (T.qm.enc r.2.2.2))]) := by
 revert h; unfold q8f
 refine bs fun v2 h1 => ?_
 have f1 := q3w h1
 try simp only [en.down] at f1
 refine xy ?_ (fun h3 h4 => ?_)
 ·rintro (⟨h3,h4⟩ | ⟨h3,h4⟩)
  all_goals
  rintro ⟨⟩
  exact fF qb6
 apply it <;> intro h5
 ·rintro ⟨⟩
  exact fF qb6
 refine bs fun v7 h6 => ?_
 have f2 := q3w h6
 try simp only [en.down] at f2
 apply it <;> intro h8
 ·refine bc fun b10 h9 f3 f4 => ?_
  refine bs fun v12 h11 => ?_
  have f5 := qnx h11
  try simp only [en.down] at f5
  apply it <;> intro h13
  ·try simp only [h13] at f1 f2 f5
   rintro ⟨⟩
   exact fF qb6
  refine bs fun v15 h14 => ?_
  have f6 := qdv h14
  try simp only [en.down] at f6
  try simp only [h13] at f1 f2 f5 f6
  rintro ⟨⟩
  exact fF qb6
 refine bs fun v17 h16 => ?_
 have f7 := qdv h16
 try simp only [en.down] at f7
 rintro ⟨⟩
 exact fF qb6
def qon (t2 : T.Rx) (x : T.Rx) : ((Int × T.qm × T.Rx × (List T.Row)) ⊕ (T.qm × (List T.Row))) → Ex × St
 | .inl y => (Ex.ret,⟨[(2,AV.ptr 1 0),(3,v_i y.1),(4,AV.ptr 2 0),(5,v_r 3 y.2.2.2)],[(0,b_x (T.qm.enc y.2.1)),(1,b_x (T.Rx.enc y.2.2.1)),(2,b_x (T.Rx.enc x)),(3,b_r 2 T.Row.enc y.2.2.2)],4⟩)
 | .inr y => (Ex.normal,⟨[(2,AV.ptr 1 0),(3,AV.undef),(4,AV.ptr 2 0),(5,v_r 3 y.2)],[(0,b_x (T.qm.enc y.1)),(1,b_x (T.Rx.enc t2)),(2,b_x (T.Rx.enc x)),(3,b_r 2 T.Row.enc y.2)],4⟩)
attribute [local go_sem] qon
theorem z4q : ∀ p r,q02 p = some r → O.loop 136 0 ⟨[(0,AV.ptr 0 0),(2,AV.ptr 1 0),(4,AV.ptr 2 0),(5,v_r 3 p.2.2.2)],[(0,b_x (T.qm.enc p.1)),(1,b_x (T.Rx.enc p.2.1)),(2,b_x (T.Rx.enc p.2.2.1)),(3,b_r 2 T.Row.enc p.2.2.2)],4⟩ = some (qon p.2.1 p.2.2.1 r) := by
 refine q02.partial_correctness _ ?_
 rintro q02 ih34 ⟨r_,t2,x,rows⟩ r; dsimp only
 refine bs fun v2 h1 => ?_
 have f1 := xz h1
 try simp only [en.down] at f1
 apply it <;> intro h3
 ·refine bs fun v5 h4 => ?_
  have f2 := qoe h4
  try simp only [en.down] at f2
  apply it <;> intro h6
  ·rintro ⟨⟩
   clear ih34; exact fL q1y
  apply it <;> intro h7
  ·have f3 := jd 2 T.Row.enc v5.1.l
   apply it <;> intro h8
   ·have f4 := rA T.Row.enc h8
    intro h; have f5 := ih34 _ _ h; clear h
    try simp only [en.down] at f5
    clear ih34; exact fL q1y
   refine gd fun h9 => ?_
   have f6 := rB T.Row.enc h8
   have f7 : (rows ++ v5.1.l).isEmpty = false := qo6 h8
   have f8 : szc 2 (rows ++ v5.1.l) = 2 := q8q h8 _
   have f9 : List.map T.Row.enc rows ++ List.map T.Row.enc v5.1.l = List.map T.Row.enc (rows ++ v5.1.l) := q65 _ _ _
   try simp only [f7,f8] at f1 f2
   intro h; have f10 := ih34 _ _ h; clear h
   try simp only [en.down,f7,f8] at f10
   try simp only [f7,f8] at f10
   clear ih34; exact fL q1y
  refine bs fun v11 h10 => ?_
  have f11 := q3w h10
  try simp only [en.down] at f11
  refine zn (fun h12 h13 => ?_) ?_
  ·refine bg qg fun x15 h14 f12 f13 f14 => ?_
   apply it <;> intro h16
   ·refine bs fun v18 h17 => ?_
    have f15 := qoe h17
    try simp only [en.down] at f15
    refine qcn ?_ (fun h19 h20 h21 => ?_)
    ·rintro (⟨h19,h20,h21⟩ | ⟨h19,h20,h21⟩ | ⟨h19,h20,h21⟩)
     all_goals
     rintro ⟨⟩
     clear ih34; exact fL q1y
    refine gd fun h22 => ?_
    have f16 := rG 2 T.Row.enc rows
    have f17 : List.map T.Row.enc rows ++ [[PV.str v5.2.1,PV.str v18.2.1]] = List.map T.Row.enc (rows ++ [(T.Row.mk v5.2.1 v18.2.1)]) := by simp only [List.map_append,List.map_cons,List.map_nil,za,z8,zb,T.Row.qx] <;> rfl
    intro h; have f18 := ih34 _ _ h; clear h
    try simp only [en.down] at f18
    clear ih34; exact fL q1y
   refine gd fun h23 => ?_
   have f19 := rG 2 T.Row.enc rows
   have f20 : List.map T.Row.enc rows ++ [[PV.str v5.2.1,PV.str v5.2.1]] = List.map T.Row.enc (rows ++ [(T.Row.mk v5.2.1 v5.2.1)]) := by simp only [List.map_append,List.map_cons,List.map_nil,za,z8,zb,T.Row.qx] <;> rfl
   intro h; have f21 := ih34 _ _ h; clear h
   try simp only [en.down] at f21
   clear ih34; exact fL q1y
  rintro (⟨h12,h13⟩ | ⟨h12,h13⟩)
  all_goals
  refine gd fun h25 => ?_
  have f22 := rG 2 T.Row.enc rows
  have f23 : List.map T.Row.enc rows ++ [[PV.str v5.2.1,PV.str v5.2.1]] = List.map T.Row.enc (rows ++ [(T.Row.mk v5.2.1 v5.2.1)]) := by simp only [List.map_append,List.map_cons,List.map_nil,za,z8,zb,T.Row.qx] <;> rfl
  intro h; have f24 := ih34 _ _ h; clear h
  try simp only [en.down] at f24
  clear ih34; exact fL q1y
 rintro ⟨⟩
 clear ih34; exact fL q1y
theorem q8i {c r} (h : mg c = some r) : O.call 138 [v_s c] [] = some (v_b r,[]) := by
 revert h; unfold mg
 apply it <;> intro h1
 ·refine bc fun b3 h2 f1 f2 => ?_
  refine bs fun v5 h4 => ?_
  have f3 := qge h4
  try simp only [en.down] at f3
  apply it <;> intro h6
  ·refine bs fun v8 h7 => ?_
   have f4 := qfe h7
   try simp only [en.down] at f4
   try simp only [h6] at f3 f4
   rintro ⟨⟩
   exact fF qh1
  try simp only [h6] at f3
  rintro ⟨⟩
  exact fF qh1
 rintro ⟨⟩
 exact fF qh1
theorem zha : ∀ p r,q4p p = some r → O.loop 149 2 ⟨[(0,v_l 2 T.Row.enc p.1),(3,v_l 2 T.Row.enc p.2.1),(4,v_i p.2.2.1),(5,AV.ptr 0 0),(6,v_i p.2.2.2.1)],[(0,b_x (T.Row.enc p.2.2.2.2))],1⟩ = some (Ex.normal,⟨[(0,v_l 2 T.Row.enc p.1),(3,v_l 2 T.Row.enc p.2.1),(4,v_i p.2.2.1),(5,AV.ptr 0 0),(6,v_i r)],[(0,b_x (T.Row.enc p.2.2.2.2))],1⟩) := by
 refine q4p.partial_correctness _ ?_
 rintro q4p ih41 ⟨rows,s,i,k,r_⟩ r; dsimp only
 apply it <;> intro h1
 ·refine bg T.Row.enc fun x3 h2 f1 f2 f3 => ?_
  apply it <;> intro h4
  ·intro h; have f4 := ih41 _ _ h; clear h
   try simp only [en.down] at f4
   clear ih41; exact fL mr
  apply it <;> intro h5
  ·apply it <;> intro h6
   ·intro h; have f5 := ih41 _ _ h; clear h
    try simp only [en.down] at f5
    clear ih41; exact fL mr
   rintro ⟨⟩
   clear ih41; exact fL mr
  rintro ⟨⟩
  clear ih41; exact fL mr
 rintro ⟨⟩
 clear ih41; exact fL mr
theorem qpw : ∀ p r,q1w p = some r → O.loop 149 0 ⟨[(0,v_l 2 T.Row.enc p.1),(3,v_l 2 T.Row.enc p.2.1),(4,v_i p.2.2)],[],0⟩ = some (Ex.normal,⟨[(3,v_l 2 T.Row.enc r)],[],0⟩) := by
 refine q1w.partial_correctness _ ?_
 rintro q1w ih39 ⟨rows,s,i⟩ r; dsimp only
 apply it <;> intro h1
 ·refine bg T.Row.enc fun x3 h2 f1 f2 f3 => ?_
  refine bs fun v5 h4 => ?_
  have f4 := q8i h4
  try simp only [en.down] at f4
  apply it <;> intro h6
  ·intro h; have f5 := ih39 _ _ h; clear h
   try simp only [en.down] at f5
   clear ih39; exact fL mr
  refine bs fun v8 h7 => ?_
  have f6 := q8i h7
  try simp only [en.down] at f6
  refine xy ?_ (fun h9 h10 => ?_)
  ·rintro (⟨h9,h10⟩ | ⟨h9,h10⟩)
   all_goals
   intro h; have f7 := ih39 _ _ h; clear h
   try simp only [en.down] at f7
   clear ih39; exact fL mr
  refine bs fun v12 h11 => ?_
  have f8 := zha _ _ h11
  try simp only [en.down] at f8
  have f9 := jd 2 T.Row.enc s.l
  refine bT T.Row.enc fun r14 h13 f10 f11 f12 f13 => ?_
  have f14 := jd 2 T.Row.enc r14
  refine gd fun h15 => ?_
  refine gd fun h16 => ?_
  refine bF T.Row.enc fun r18 h17 f15 f16 f17 f18 => ?_
  have f19 := jd 2 T.Row.enc r18
  have f20 : List.map T.Row.enc r14 ++ [[PV.str x3.frm,PV.str x3.to]] = List.map T.Row.enc (r14 ++ [x3]) := by simp only [List.map_append,List.map_cons,List.map_nil,za,z8,zb,T.Row.qx] <;> rfl
  refine gd fun h19 => ?_
  have f21 : List.map T.Row.enc (r14 ++ [x3]) ++ List.map T.Row.enc r18 = List.map T.Row.enc ((r14 ++ [x3]) ++ r18) := q65 _ _ _
  intro h; have f22 := ih39 _ _ h; clear h
  try simp only [en.down] at f22
  clear ih39; exact fL mr
 rintro ⟨⟩
 clear ih39; exact fL mr
theorem z9a : ∀ p r,q2l p = some r → O.loop 149 4 ⟨[(3,v_l 2 T.Row.enc p.1),(7,v_r 0 p.2.2),(8,v_i p.2.1)],[(0,b_r 2 T.Row.enc p.2.2)],1⟩ = some (Ex.normal,⟨[(7,v_r 0 r)],[(0,b_r 2 T.Row.enc r)],1⟩) := by
 refine q2l.partial_correctness _ ?_
 rintro q2l ih42 ⟨s,i,out⟩ r; dsimp only
 apply it <;> intro h1
 ·apply it <;> intro h2
  ·refine bg T.Row.enc fun x4 h3 f1 f2 f3 => ?_
   refine bW T.Row.enc 2 fun x6 h5 f4 f5 f6 f7 f8 => ?_
   apply it <;> intro h7
   ·have f9 := map_set T.Row.enc out ((IntKind.i64.wrap ((out.length : Int) - (1 : Int))).toNat) (T.Row.mk x6.frm (if j6 x6.to x4.to = true then x4.to else x6.to))
    try simp only [en.down] at f9
    try simp only [f7,f8] at f9
    intro h; have f10 := ih42 _ _ h; clear h
    try simp only [en.down,f7,f8] at f10
    try simp only [f7,f8] at f10
    clear ih42; exact fL mr
   refine gd fun h8 => ?_
   have f11 : List.map T.Row.enc out ++ [[PV.str x4.frm,PV.str x4.to]] = List.map T.Row.enc (out ++ [x4]) := by simp only [List.map_append,List.map_cons,List.map_nil,za,z8,zb,T.Row.qx] <;> rfl
   intro h; have f12 := ih42 _ _ h; clear h
   try simp only [en.down,f7,f8] at f12
   try simp only [f7,f8] at f12
   clear ih42; exact fL mr
  refine bg T.Row.enc fun x10 h9 f13 f14 f15 => ?_
  refine gd fun h11 => ?_
  have f16 := rG 2 T.Row.enc out
  have f17 : List.map T.Row.enc out ++ [[PV.str x10.frm,PV.str x10.to]] = List.map T.Row.enc (out ++ [x10]) := by simp only [List.map_append,List.map_cons,List.map_nil,za,z8,zb,T.Row.qx] <;> rfl
  intro h; have f18 := ih42 _ _ h; clear h
  try simp only [en.down] at f18
  clear ih42; exact fL mr
 rintro ⟨⟩
 clear ih42; exact fL mr
theorem zff {rows r} (h : qbj rows = some r) : O.call 149 [v_l 2 T.Row.enc rows] [] = some (v_l 2 T.Row.enc r,[]) := by
 revert h; unfold qbj
 refine bs fun v2 h1 => ?_
 have f1 := qpw _ _ h1
 try simp only [en.down] at f1
 refine bs fun v4 h3 => ?_
 have f2 := z9a _ _ h3
 try simp only [en.down] at f2
 rintro ⟨⟩
 exact fF mr
theorem qvm {b r} (h : qcg b = some r) : O.call 136 [AV.ptr 0 0] [(0,b_x (T.qm.enc b))] = some (AV.tup [v_g (T.Rx.enc r.1),v_i r.2.1],[(0,b_x (T.qm.enc r.2.2))]) := by
 revert h; unfold qcg
 refine bs fun v2 h1 => ?_
 have f1 := xz h1
 try simp only [en.down] at f1
 refine bs fun v4 h3 => ?_
 have f2 := z4q _ _ h3
 try simp only [en.down] at f2
 rcases v4 with y5 | y6
 ·dsimp only
  rintro ⟨⟩
  exact fF q1y
 dsimp only
 refine bs fun v8 h7 => ?_
 have f3 := zff h7
 try simp only [en.down] at f3
 rintro ⟨⟩
 exact fF q1y
theorem qva : ∀ p r,q17 p = some r → O.loop 150 0 ⟨[(3,v_r 0 p.2),(4,v_i p.1)],[(0,Blk.row false 1 (List.map qj p.2))],1⟩ = some (Ex.normal,⟨[(3,v_r 0 r)],[(0,Blk.row false 1 (List.map qj r))],1⟩) := by
 refine q17.partial_correctness _ ?_
 rintro q17 ih45 ⟨i,b⟩ r; dsimp only
 apply it <;> intro h1
 ·refine bw qj fun x3 h2 f1 f2 f3 => ?_
  apply it <;> intro h4
  ·apply it <;> intro h5
   ·have f4 := map_set qj b i.toNat (u8 (IntKind.u8.wrap ((x3.toNat : Int) + (32 : Int))))
    try simp only [en.down] at f4
    intro h; have f5 := ih45 _ _ h; clear h
    try simp only [en.down] at f5
    clear ih45; exact fL qay
   intro h; have f6 := ih45 _ _ h; clear h
   try simp only [en.down] at f6
   clear ih45; exact fL qay
  intro h; have f7 := ih45 _ _ h; clear h
  try simp only [en.down] at f7
  clear ih45; exact fL qay
 rintro ⟨⟩
 clear ih45; exact fL qay
theorem qcp {s r} (h : q1x s = some r) : O.call 150 [v_s s] [] = some (v_s r,[]) := by
 revert h; unfold q1x
 refine bs fun v2 h1 => ?_
 have f1 := qva _ _ h1
 try simp only [en.down] at f1
 have f2 := jd 1 qj v2
 have f3 := bytesOf_map v2
 rintro ⟨⟩
 exact fF qay
theorem ze3 {b r} (h : qbp b = some r) : O.call 137 [AV.ptr 0 0] [(0,b_x (T.qm.enc b))] = some (AV.tup [v_g (T.Rx.enc r.1),v_i r.2.1],[(0,b_x (T.qm.enc r.2.2))]) := by
 revert h; unfold qbp
 refine bs fun v2 h1 => ?_
 have f1 := q3w h1
 try simp only [en.down] at f1
 refine bs fun v4 h3 => ?_
 have f2 := qcp h3
 try simp only [en.down] at f2
 apply it <;> intro h5
 ·refine bc fun b7 h6 f3 f4 => ?_
  refine bs fun v9 h8 => ?_
  have f5 := qnx h8
  try simp only [en.down] at f5
  apply it <;> intro h10
  ·try simp only [h10] at f1 f2 f5
   rintro ⟨⟩
   exact fF qa9
  refine bs fun v12 h11 => ?_
  have f6 := qdv h11
  try simp only [en.down] at f6
  apply it <;> intro h13
  ·try simp only [h10] at f1 f2 f5 f6
   rintro ⟨⟩
   exact fF qa9
  try simp only [h10] at f1 f2 f5 f6
  rintro ⟨⟩
  exact fF qa9
 refine bs fun v15 h14 => ?_
 have f7 := qdv h14
 try simp only [en.down] at f7
 apply it <;> intro h16
 ·rintro ⟨⟩
  exact fF qa9
 rintro ⟨⟩
 exact fF qa9
theorem z5m : ∀ p r,q7h p = some r → O.loop 139 0 ⟨[(0,AV.ptr 0 0),(4,v_i p.1),(5,v_i p.2.1)],[(0,b_x (T.qm.enc p.2.2))],1⟩ = some (Ex.normal,⟨[(4,v_i r.1),(5,v_i r.2.1)],[(0,b_x (T.qm.enc r.2.2))],1⟩) := by
 refine q7h.partial_correctness _ ?_
 rintro q7h ih48 ⟨n,many,r_⟩ r; dsimp only
 apply it <;> intro h1
 ·refine bs fun v3 h2 => ?_
  have f1 := q3w h2
  try simp only [en.down] at f1
  apply it <;> intro h4
  ·refine bc fun b6 h5 f2 f3 => ?_
   refine bs fun v8 h7 => ?_
   have f4 := q6c h7
   try simp only [en.down] at f4
   apply it <;> intro h9
   ·try simp only [h9] at f1 f4
    intro h; have f5 := ih48 _ _ h; clear h
    try simp only [en.down] at f5
    try simp only [h9] at f5
    clear ih48; exact fL q8s
   try simp only [h9] at f1 f4
   rintro ⟨⟩
   clear ih48; exact fL q8s
  rintro ⟨⟩
  clear ih48; exact fL q8s
 rintro ⟨⟩
 clear ih48; exact fL q8s
theorem qov {b r} (h : q95 b = some r) : O.call 139 [AV.ptr 0 0] [(0,b_x (T.qm.enc b))] = some (AV.tup [v_i r.1,v_b r.2.1],[(0,b_x (T.qm.enc r.2.2))]) := by
 revert h; unfold q95
 refine bs fun v2 h1 => ?_
 have f1 := z5m _ _ h1
 try simp only [en.down] at f1
 apply it <;> intro h3
 ·rintro ⟨⟩
  exact fF q8s
 rintro ⟨⟩
 exact fF q8s
theorem qm8 {x b r} (h : q64 x b = some r) : O.call 128 [AV.ptr 0 0,v_g (T.Rx.enc x)] [(0,b_x (T.qm.enc b))] = some (AV.tup [v_g (T.Rx.enc r.1),v_i r.2.1],[(0,b_x (T.qm.enc r.2.2))]) := by
 revert h; unfold q64
 refine bs fun v2 h1 => ?_
 have f1 := xz h1
 try simp only [en.down] at f1
 apply it <;> intro h3
 ·refine bs fun v5 h4 => ?_
  have f2 := xz h4
  try simp only [en.down] at f2
  try simp only [h3] at f1 f2
  rintro ⟨⟩
  exact fF q0t
 refine bs fun v7 h6 => ?_
 have f3 := xz h6
 try simp only [en.down] at f3
 apply it <;> intro h8
 ·refine bs fun v10 h9 => ?_
  have f4 := xz h9
  try simp only [en.down] at f4
  try simp only [h3,h8] at f1 f3 f4
  rintro ⟨⟩
  exact fF q0t
 refine bs fun v12 h11 => ?_
 have f5 := xz h11
 try simp only [en.down] at f5
 apply it <;> intro h13
 ·refine bs fun v15 h14 => ?_
  have f6 := xz h14
  try simp only [en.down] at f6
  try simp only [h3,h8,h13] at f1 f3 f5 f6
  rintro ⟨⟩
  exact fF q0t
 refine bs fun v17 h16 => ?_
 have f7 := xz h16
 try simp only [en.down] at f7
 apply it <;> intro h18
 ·refine bs fun v20 h19 => ?_
  have f8 := qov h19
  try simp only [en.down] at f8
  apply it <;> intro h21
  ·try simp only [h3,h8,h13,h18] at f1 f3 f5 f7 f8
   rintro ⟨⟩
   exact fF q0t
  refine bs fun v23 h22 => ?_
  have f9 := xz h22
  try simp only [en.down] at f9
  apply it <;> intro h24
  ·refine bs fun v26 h25 => ?_
   have f10 := q3w h25
   try simp only [en.down] at f10
   apply it <;> intro h27
   ·refine bs fun v29 h28 => ?_
    have f11 := qov h28
    try simp only [en.down] at f11
    apply it <;> intro h30
    ·try simp only [h3,h8,h13,h18,h24] at f1 f3 f5 f7 f8 f9 f10 f11
     rintro ⟨⟩
     exact fF q0t
    refine bs fun v32 h31 => ?_
    have f12 := xz h31
    try simp only [en.down] at f12
    refine qcf ?_ ?_
    ·rintro (⟨h33,h34,h35⟩ | ⟨h33,h34,h35⟩)
     all_goals
     try simp only [h3,h8,h13,h18,h24] at f1 f3 f5 f7 f8 f9 f10 f11 f12
     rintro ⟨⟩
     exact fF q0t
    rintro (⟨h33,h34,h35⟩ | ⟨h33,h34,h35⟩)
    all_goals
    refine bs fun v39 h38 => ?_
    have f13 := xz h38
    try simp only [en.down] at f13
    try simp only [h3,h8,h13,h18,h24] at f1 f3 f5 f7 f8 f9 f10 f11 f12 f13
    rintro ⟨⟩
    exact fF q0t
   refine bs fun v41 h40 => ?_
   have f14 := xz h40
   try simp only [en.down] at f14
   apply it <;> intro h42
   ·try simp only [h3,h8,h13,h18,h24] at f1 f3 f5 f7 f8 f9 f10 f14
    rintro ⟨⟩
    exact fF q0t
   have f15 : (((-1) : Int) != ((-1) : Int)) = false := by decide
   refine bs fun v44 h43 => ?_
   have f16 := xz h43
   try simp only [en.down] at f16
   try simp only [h3,h8,h13,h18,h24] at f1 f3 f5 f7 f8 f9 f10 f14 f16
   rintro ⟨⟩
   exact fF q0t
  refine bs fun v46 h45 => ?_
  have f17 := xz h45
  try simp only [en.down] at f17
  refine qcf ?_ ?_
  ·rintro (⟨h47,h48,h49⟩ | ⟨h47,h48,h49⟩)
   all_goals
   try simp only [h3,h8,h13,h18,h24] at f1 f3 f5 f7 f8 f9 f17
   rintro ⟨⟩
   exact fF q0t
  rintro (⟨h47,h48,h49⟩ | ⟨h47,h48,h49⟩)
  all_goals
  refine bs fun v53 h52 => ?_
  have f18 := xz h52
  try simp only [en.down] at f18
  try simp only [h3,h8,h13,h18,h24] at f1 f3 f5 f7 f8 f9 f17 f18
  rintro ⟨⟩
  exact fF q0t
 try simp only [h3,h8,h13,h18] at f1 f3 f5 f7
 rintro ⟨⟩
 exact fF q0t
theorem zi5 : ∀ p r,q2p p = some r → O.loop 129 0 ⟨[(0,v_i p.1),(1,v_l 8 T.Rx.enc p.2.1),(5,v_r 0 p.2.2.2),(6,v_i p.2.2.1)],[(0,b_r 8 T.Rx.enc p.2.2.2)],1⟩ = some (Ex.normal,⟨[(5,v_r 0 r)],[(0,b_r 8 T.Rx.enc r)],1⟩) := by
 refine q2p.partial_correctness _ ?_
 rintro q2p ih51 ⟨kind,xs,i,l⟩ r; dsimp only
 apply it <;> intro h1
 ·refine bg T.Rx.enc fun x3 h2 f1 f2 f3 => ?_
  apply it <;> intro h4
  ·have f4 := jd 8 T.Rx.enc x3.kids.l
   apply it <;> intro h5
   ·have f5 := rA T.Rx.enc h5
    intro h; have f6 := ih51 _ _ h; clear h
    try simp only [en.down] at f6
    clear ih51; exact fL qai
   refine gd fun h6 => ?_
   have f7 := rB T.Rx.enc h5
   have f8 : (l ++ x3.kids.l).isEmpty = false := qo6 h5
   have f9 : szc 8 (l ++ x3.kids.l) = 8 := q8q h5 _
   have f10 : List.map T.Rx.enc l ++ List.map T.Rx.enc x3.kids.l = List.map T.Rx.enc (l ++ x3.kids.l) := q65 _ _ _
   intro h; have f11 := ih51 _ _ h; clear h
   try simp only [en.down,f8,f9] at f11
   try simp only [f8,f9] at f11
   clear ih51; exact fL qai
  refine gd fun h7 => ?_
  have f12 := rG 8 T.Rx.enc l
  have f13 : List.map T.Rx.enc l ++ [[PV.int IntKind.i64 x3.kind,PV.str x3.char,PV.bool x3.not,PV.sl x3.rows.nil (szc 2 x3.rows.l) (List.map T.Row.enc x3.rows.l),PV.int IntKind.i64 x3.min,PV.int IntKind.i64 x3.max,PV.bool x3.lazy,PV.sl x3.kids.nil (szc 8 x3.kids.l) (List.map T.Rx.enc x3.kids.l)]] = List.map T.Rx.enc (l ++ [x3]) := by simp only [List.map_append,List.map_cons,List.map_nil,za,z8,zb,T.Rx.qx] <;> rfl
  intro h; have f14 := ih51 _ _ h; clear h
  try simp only [en.down] at f14
  clear ih51; exact fL qai
 rintro ⟨⟩
 clear ih51; exact fL qai
theorem qij {kind xs r} (h : q8c kind xs = some r) : O.call 129 [v_i kind,v_l 8 T.Rx.enc xs] [] = some (v_l 8 T.Rx.enc r,[]) := by
 revert h; unfold q8c
 refine bs fun v2 h1 => ?_
 have f1 := zi5 _ _ h1
 try simp only [en.down] at f1
 rintro ⟨⟩
 exact fF qai
theorem z0x {xs r} (h : qau xs = some r) : O.call 114 [v_l 8 T.Rx.enc xs] [] = some (v_g (T.Rx.enc r),[]) := by
 revert h; unfold qau
 refine bs fun v2 h1 => ?_
 have f1 := qij h1
 try simp only [en.down] at f1
 apply it <;> intro h3
 ·refine bg T.Rx.enc fun x5 h4 f2 f3 f4 => ?_
  rintro ⟨⟩
  exact fF qly
 rintro ⟨⟩
 exact fF qly
theorem zhk {xs r} (h : qbh xs = some r) : O.call 116 [v_l 8 T.Rx.enc xs] [] = some (v_g (T.Rx.enc r),[]) := by
 revert h; unfold qbh
 refine bs fun v2 h1 => ?_
 have f1 := qij h1
 try simp only [en.down] at f1
 apply it <;> intro h3
 ·rintro ⟨⟩
  exact fF qgm
 apply it <;> intro h4
 ·refine bg T.Rx.enc fun x6 h5 f2 f3 f4 => ?_
  rintro ⟨⟩
  exact fF qgm
 rintro ⟨⟩
 exact fF qgm
end Go.Proofs.YtdhgdeelagmbpaaGreat
