/-
  What the machine's calls come to: the plain functions.
-/
import Derived.Test.YtdhgdeelagmbpaaGreatWaf
import Derived.Test.YtdhgdeelagmbpaaGreatWah
import Derived.Test.YtdhgdeelagmbpaaGreatWai
set_option linter.unusedSimpArgs false
set_option linter.unusedVariables false
set_option maxRecDepth 100000
namespace Go.Proofs.YtdhgdeelagmbpaaGreat
open Go Go.Gm
attribute [go_sem] needs aop qcn q2d List.toList_toArray qdi q9p q17 List.take List.drop List.length_cons List.length_nil List.length_map q3a AV.q5y List.append qd9 List.getElem?_cons_zero List.getElem?_cons_succ AV.refs AV.ren AV.rows if_true if_false List.nil_append List.append_nil List.cons_append q3o unz q37 q41 q5q qjq List.getElem?_nil touched List.isEmpty_nil Option.some.injEq aUn q6h PV.cells List.replicate List.set_cons_zero List.set_cons_succ q3t qdw ym eq_self AV.thaw Blk.thaw q2a q9g aEq ug fitAll xq qby q6w qbn Blk.ren Blk.refs List.flatMap_nil List.flatMap_cons q9b List.map_cons List.map_nil List.drop_zero Option.isSome_none Option.isNone_none Option.isSome_some Option.isNone_some q31.eq_def qto refsOf qyu zna qta qrx qr9 qy2 zmb zaz qzw zep qr8 zi1 zmg qpr zgy z5s z1x zhp zsn zi9 zlm zr5 zd4 zf7 freezes.eq_1 freezes.eq_2 ev.eq_1 ev.eq_2 ev.eq_3 ev.eq_4 Env.get.eq_1 Env.get.eq_2 jq.eq_1 jq.eq_2 zf.eq_1 zf.eq_2 q6u.eq_1 wo.eq_1 wo.eq_2 q5d.eq_1 q5d.eq_2 q0s.eq_1 q0s.eq_2 qej.eq_1 ldP.eq_1 ldP.eq_2 ldA.eq_1 ldA.eq_2 TI.isAgg.eq_1 q4t.eq_1 Heap.get.eq_1 Heap.get.eq_2 Heap.put.eq_1 Heap.put.eq_2 zk4 z8m zet qy4 z6y zef zpu z3m zm8 qx3 zex z1q qys qs9 qs0 z90 zk5 qso zeg zlz pq.eq_1 AV.refs.refsL.eq_1 AV.refs.refsL.eq_2 AV.ren.renL.eq_1 AV.ren.renL.eq_2 ky.eq_1 ky.eq_2 wm.eq_1 wm.eq_2 zld zb3 qu1 narrow.eq_1 q8o.eq_1 restrict.eq_1 restrict.eq_2 Heap.upto.eq_1 Heap.upto.eq_2 Heap.below.eq_1 Heap.below.eq_2 Env.below.eq_1 Env.below.eq_2 q59.eq_1 q59.eq_2 decide_true and_self AV.rows.rowsL.eq_1 AV.rows.rowsL.eq_2 Nat.zero_lt_one Nat.lt_add_one Nat.zero_le Nat.le_refl Nat.zero_add Nat.add_zero and_true true_and Bool.and_true Bool.true_and decide_false Bool.false_eq_true tu.eq_1 tu.eq_2 z9b zes q0k.eq_1 q0k.eq_2 q9e.eq_1 q9e.eq_2 finish.eq_1 List.range_zero pos.eq_1 pos.eq_2 reach.eq_1 reach.eq_2 reach.eq_3 enter.eq_1 ko.eq_1 ko.eq_2 ji.eq_1 ji.eq_2 q06.eq_1 q06.eq_2 setEnv.eq_1 setEnv.eq_2 zm0 zmk qsb zps zhm zpa qqp Bool.not_false Bool.not_true Bool.or_self Bool.or_false Bool.false_or Bool.or_true Bool.true_or qrn zid zh1 Bool.and_self Bool.and_false Bool.false_and q1r.eq_1 q1r.eq_2 Nat.mul_one Nat.one_mul true_or or_true false_or or_false or_self and_false false_and Gm.freeze.eq_1 AV.thaw.thawL.eq_1 AV.thaw.thawL.eq_2 zz.eq_1 zz.eq_2 qc9.eq_1 q12.eq_1 q12.eq_2 qht.eq_1 closedIn.eq_1 closedIn.eq_2 pick.eq_1 pick.eq_2 q38.eq_1 q38.eq_2 q1w.eq_1 q1w.eq_2 yn.eq_1 backTo.eq_1 vw.eq_1 vw.eq_2 q0c.eq_1 q6r.eq_1 zan zjv qxv zqr zqv qyh z5z ziz qzo qzg zoo zcy z88 qwn qqm qzf z7f quv canon.eq_1 q65.eq_1 q65.eq_2 q8q.eq_1 q8q.eq_2 q3q.eq_1 q3q.eq_2 q89.eq_1 zrt zqd ze qmi qkj qkd qza qle qjf qjn qkg take_len z9v qth zkw z09 qdo.eq_1 qdo.eq_2 kE.eq_1 qzb zhi z9p zd8 zgq z15 qs2 zqz qt9 zlx zeu zkm qqw z2k qi1 zq4 qzd z4q z3a zad z2l z8h qxl z0v z9g z4w zbf zj5 zic zkc zb za take_set List.take_length v_i v_b v_s v_g v_l v_r b_x b_r b_m qj qg qh qp5 slE qn1 T.Span.qz T.Row.qz T.Rx.qz T.Fmt.qz T.Form.qz T.Stop.qz T.z8.qz T.qb.qz T.q4j.qz T.qi.qz T.qd.qz T.q47.qz T.q5l.qz T.qm.qz T.qp.qz T.qo.qz T.qw.qlj T.qw.qnj T.qw.qii T.qw.qfp T.qw.qz qq6 kp3 z4i z7k zck qt1 zei zrq zf8 zji z9r zg9 qst zmj zkd qsi qtf zsz zjf ze8 zc9 qua zfm z0q zj1 qqh qtt znu qyx z4z qs7 qqn zbb zd0 z6x qpt qs8 qzj zrj zab zd9 qvy z1i qu9 z9o zrb zq3 ze4 zje z4f qpz zr4 qtp zla qvr qtz zbv qye zjy zfy zo5 z03 zn4 zo7 zhc qqt z7t qw5 zcs zh2 qpu zs9 zf4 qve zmt zi5 zt7 kp7 pr7 zeq kp8 pr8 zlu kp9 pr9 z4b qud z2t z4c zgz z01 zaj qxr zgb zsm zdi zbm z5b qqk qwy zrz qvp qrp zcu zn5 zr7 zq5 zm5 zdg zmh qw7 z00 z6v z2i qyz zcc zj4 zo8 zlc zpb zec qyt zka z4y qrk z0m zqb zdh zd2 quy z6q zi4 quj zp2 qtd z3y qro z0x zdw qrj zhx qsq zg2 zsq zjz zea zl9 z0t zki zif qup quq zbs zov zqg z5c zbj zon qv4 za1 qxz z7o zg0 z2x zbl qxu zds z7v zf5 z95 qr7 qtl qya zjn zat qsp z7d zb9 zrf zgk zlr qxg qsy z8r zaa z3d z4j zdu zez znr z0j qsr zss zoj qpv zh3 zl5 zib zba z6e zri zok z1h qqc z18 z1m qs5 qq1 zs6 z2h zph z1u zjd z0s zf9 z4r z9q z1b zqk qxn zli qvk zs5 qwq zjr zir qvm z6r zoa qt8 z6m z6g zqo qrb zke zgt z1v zdv zoy zt3 qq3 zln z9i znl ze6 qwf zot zn0 zfw zmy zml z0k qwt zmc z2z zew z0w qzi zjq z2o z5n znx zkb qrz zpr zhq zj7 zp1 qsx zbx zqt zsi qti qu6 zdt zpn zrx qxs qws qzz qqz z3t z8a zl1 z92 qze qv6 zd5 z6o zis qyj z2y z4v qqd qzp qxc qwm zqx z2w zau qx7 zj9 qtv z7j zl0 zmr z7m zt0 qvc qx4 z0i zp3 z1e qwz qx5 qu3 z8j znp zfi zdc qrr zhn qvz qy7 zp9 zej zbn z1a zbz zse qz9 qul zc7 zcd zjj qub z7l z0g z6c qpw zrn qwa zdz qpn qzu zq1 zqu qqq quf z9m z5i zb4 zbe zer zsx qra z1f zle zmw zol zeh z4o zme zbu zro zoi qsn qwo zrc qu2 zmu quh zn7 zin zcj zp7 qxd qwh zey ze5 z8x qsz zmz zhj zsy ze1 qrf qq7 qrq zik z9e zih qte qvt z3w zi8 qxx z07 zja qw9 z1r z4t zpv qxp zbp zsf z2f zkn zq2 qyi zr8 zae za7 qr5 z0y zl2 zdj qqv zm1 zsu qrh zn2 z81 qu0 zb2 zai qu4 zn1 z4s qq5 z0h zfb zkf qv7 z0l qw8 zak zr1 qw0 z1k ze3 z6j z2v zgf zct qqi z5w zal z8g zcv zlv zlo zs4 zos qwk qwc qzc z3n qwg z4l qqu zgw zne zpz zii znz qxt zbt quk z9x zc2 zny zg3 qtc qtg zhz z0d qr4 z2j qtj zrw z5t zhy zgh qty qt6 zbi zls zee zsd zcm zi6 qvn zm7 zfl zoc zqm z3z qt2 zpw zpm qyk qsf zda zaf z9a qxi qrm zbc z7n zhf zl4 zs3 zf0 zr0 z5u zaq zpj z5r zim z4n zj0 qq4 qpl z2m qvw qz0 zrs zgn zpx qtx zdn zfc zkt qun qzk zom z4g z9s zq9 qwx zs2 z4p qwe zc0 zr9 zm6 zkx zjw zj6 zoq zgv z13 qyp zmq z8i zfk zdl fz1 fz2 fz3 fz4 fz5 fz6 fz7 fz8 fz9 qqe qrs zpt z5d zpo qvh zfe zkj z3e zky zmp zgu qsw zsv qyq z0u z1d z1g z5e zft zsj qu7 qyw zgd z7b qwp zll z8z zlw zt4 zsw z2n zhs qr3 z08 qpx qtq qsa z8s qtk z5f qsv zff z1t qru qrg qvj zhv qsg zbh zmm zqj zao z0z z7s zho qrv qt3 z2c qx6 qw1 zfa zm9 z1y zcx zjl zh9 z5g qsh zde z9n zbr zno zjs ziw zso zoh zfx zdq qz4 zm2 quu qvu zdf z6a zjk z9z qva qv2 zfp qv0 zgl znq qwv z6n z8b qqo qus z8c zog z0o zor z6b zo0 z04 z1j zko zrp zi3 qzx zn8 qvs zkg qqg zk0 z6z zk6 zrl qzt zhw zry qsj zo6 zcw z2d qss z3i qx9 qr2 zqs znc zha qs1 quz z8t z8q zgi qrt zht z8w zr6 zhr z2r qpy qzn qut qv1 qy9 zah z8v zc3 qu8 zhu qxe zlf qvq z7u qw2 za9 zob z6d znn zl6 z1o zql znj z5a zd6 z8p z9k zlj zq8 zkv za4 zio zsk z5v z97 zsr z9f z7i zby zqq zgc zcq zpe z0a que zfd zpf z3o qy3 qsk zf2 zlg zt1 zsc qzm z2s qt4 z02 z3q ti3 ti4 ti5 ti9 zs7 zax qy6 zf3 qzq z2e zt5 qsc zca qz7 qs3 qy0 z0p zay z5k ze9 zpy qxf z7w zch zrd z99 zof qui zn3 z1c za3 qzs zgp qyy qqf qse zd1
set_option maxHeartbeats 4000000
theorem q77 {c r} (h : q1j c = some r) : O.call 93 [AV.pv (PV.int IntKind.u8 (c.toNat : Int))] [] = some (v_b r,[]) := by
 revert h; unfold q1j
 apply it <;> intro h1
 ·rintro ⟨⟩
  exact fF qiv
 rintro ⟨⟩
 exact fF qiv
theorem zem : ∀ p r,q6g p = some r → O.loop 71 0 ⟨[(0,v_s p.1),(1,v_i p.2.1),(7,v_i p.2.2.1),(8,v_i p.2.2.2)],[],0⟩ = some (Ex.normal,⟨[(0,v_s p.1),(1,v_i p.2.1),(7,v_i r.1),(8,v_i r.2)],[],0⟩) := by
 refine q6g.partial_correctness _ ?_
 rintro q6g ih7 ⟨s,at_,n,end_⟩ r; dsimp only
 refine zl (fun h1 h2 => ?_) ?_
 ·refine bc fun b4 h3 f1 f2 => ?_
  refine bs fun v6 h5 => ?_
  have f3 := q77 h5
  try simp only [en.down] at f3
  apply it <;> intro h7
  ·try simp only [h7] at f3
   intro h; have f4 := ih7 _ _ h; clear h
   try simp only [en.down] at f4
   try simp only [h7] at f4
   clear ih7; exact fL q7d
  try simp only [h7] at f3
  rintro ⟨⟩
  clear ih7; exact fL q7d
 rintro (⟨h1,h2⟩ | ⟨h1,h2⟩)
 all_goals
 rintro ⟨⟩
 clear ih7; exact fL q7d
theorem qhd {s at_ r} (h : q6o s at_ = some r) : O.call 71 [v_s s,v_i at_] [] = some (AV.tup [v_i r.1,v_i r.2.1,v_b r.2.2],[]) := by
 revert h; unfold q6o
 refine bs fun v2 h1 => ?_
 have f1 := zem _ _ h1
 try simp only [en.down] at f1
 apply it <;> intro h3
 ·rintro ⟨⟩
  exact fF q7d
 apply it <;> intro h4
 ·refine bc fun b6 h5 f2 f3 => ?_
  refine bs fun v8 h7 => ?_
  have f4 := q77 h7
  try simp only [en.down] at f4
  apply it <;> intro h9
  ·try simp only [h9] at f1 f4
   rintro ⟨⟩
   exact fF q7d
  try simp only [h9] at f1 f4
  rintro ⟨⟩
  exact fF q7d
 rintro ⟨⟩
 exact fF q7d
theorem qda {c r} (h : q5c c = some r) : O.call 94 [AV.pv (PV.int IntKind.u8 (c.toNat : Int))] [] = some (v_b r,[]) := by
 revert h; unfold q5c
 refine zl (fun h1 h2 => ?_) ?_
 ·rintro ⟨⟩
  exact fF qfq
 rintro (⟨h1,h2⟩ | ⟨h1,h2⟩)
 all_goals
 apply it <;> intro h4
 ·rintro ⟨⟩
  exact fF qfq
 rintro ⟨⟩
 exact fF qfq
theorem zdo : ∀ p r,q35 p = some r → O.loop 72 0 ⟨[(0,AV.ptr 0 0),(1,v_i p.1),(7,v_i p.2.1)],[(0,Blk.box [v_s p.2.2.1,v_r 1 p.2.2.2.1,v_r 2 p.2.2.2.2]),(1,Blk.row false 18 (List.map T.qb.enc p.2.2.2.1)),(2,Blk.row false 1 (List.map qg p.2.2.2.2))],3⟩ = some (Ex.normal,⟨[(0,AV.ptr 0 0),(1,v_i p.1),(7,v_i r)],[(0,Blk.box [v_s p.2.2.1,v_r 1 p.2.2.2.1,v_r 2 p.2.2.2.2]),(1,Blk.row false 18 (List.map T.qb.enc p.2.2.2.1)),(2,Blk.row false 1 (List.map qg p.2.2.2.2))],3⟩) := by
 refine q35.partial_correctness _ ?_
 rintro q35 ih10 ⟨at_,end_,r_,r1_,r2_⟩ r; dsimp only
 apply it <;> intro h1
 ·refine bc fun b3 h2 f1 f2 => ?_
  refine bs fun v5 h4 => ?_
  have f3 := qda h4
  try simp only [en.down] at f3
  apply it <;> intro h6
  ·try simp only [h6] at f3
   intro h; have f4 := ih10 _ _ h; clear h
   try simp only [en.down] at f4
   try simp only [h6] at f4
   clear ih10; exact fL q63
  apply it <;> intro h7
  ·try simp only [h6] at f3
   intro h; have f5 := ih10 _ _ h; clear h
   try simp only [en.down] at f5
   try simp only [h6] at f5
   clear ih10; exact fL q63
  apply it <;> intro h8
  ·refine bs fun v10 h9 => ?_
   have f6 := q77 h9
   try simp only [en.down] at f6
   apply it <;> intro h11
   ·try simp only [h6,h11] at f3 f6
    intro h; have f7 := ih10 _ _ h; clear h
    try simp only [en.down] at f7
    try simp only [h6,h11] at f7
    clear ih10; exact fL q63
   try simp only [h6,h11] at f3 f6
   rintro ⟨⟩
   clear ih10; exact fL q63
  try simp only [h6] at f3
  rintro ⟨⟩
  clear ih10; exact fL q63
 rintro ⟨⟩
 clear ih10; exact fL q63
def qid : ((Bool) ⊕ (Unit)) → Ex × St
 | .inl y => (Ex.ret,⟨[(2,v_b y)],[],0⟩)
 | .inr y => (Ex.normal,⟨[(2,AV.undef)],[],0⟩)
attribute [local go_sem] qid
theorem zb1 : ∀ p r,q0i p = some r → O.loop 77 0 ⟨[(0,v_s p.1),(3,v_i p.2)],[],0⟩ = some (qid r) := by
 refine q0i.partial_correctness _ ?_
 rintro q0i ih13 ⟨s,i⟩ r; dsimp only
 apply it <;> intro h1
 ·refine bc fun b3 h2 f1 f2 => ?_
  refine bs fun v5 h4 => ?_
  have f3 := qda h4
  try simp only [en.down] at f3
  apply it <;> intro h6
  ·apply it <;> intro h7
   ·apply it <;> intro h8
    ·rintro ⟨⟩
     clear ih13; exact fL q3v
    refine bs fun v10 h9 => ?_
    have f4 := q77 h9
    try simp only [en.down] at f4
    apply it <;> intro h11
    ·rintro ⟨⟩
     clear ih13; exact fL q3v
    intro h; have f5 := ih13 _ _ h; clear h
    try simp only [en.down] at f5
    clear ih13; exact fL q3v
   intro h; have f6 := ih13 _ _ h; clear h
   try simp only [en.down] at f6
   clear ih13; exact fL q3v
  intro h; have f7 := ih13 _ _ h; clear h
  try simp only [en.down] at f7
  clear ih13; exact fL q3v
 rintro ⟨⟩
 clear ih13; exact fL q3v
theorem q6y {s r} (h : gy s = some r) : O.call 77 [v_s s] [] = some (v_b r,[]) := by
 revert h; unfold gy
 refine xe ?_ (fun h1 h2 => ?_)
 ·rintro (⟨h1,h2⟩ | ⟨h1,h2⟩)
  all_goals
  rintro ⟨⟩
  exact fF q3v
 refine bs fun v4 h3 => ?_
 have f1 := zb1 _ _ h3
 try simp only [en.down] at f1
 rcases v4 with y5 | y6
 ·dsimp only
  rintro ⟨⟩
  exact fF q3v
 dsimp only
 rintro ⟨⟩
 exact fF q3v
theorem zl3 {at_ b r_ r_2 r} (h : qbc at_ b r_ r_2 = some r) : O.call 72 [AV.ptr 0 0,v_i at_] [(0,Blk.box [v_s b,v_r 1 r_,v_r 2 r_2]),(1,Blk.row false 18 (List.map T.qb.enc r_)),(2,Blk.row false 1 (List.map qg r_2))] = some (AV.tup [v_s r.1,v_i r.2.1,v_b r.2.2],[(0,Blk.box [v_s b,v_r 1 r_,v_r 2 r_2]),(1,Blk.row false 18 (List.map T.qb.enc r_)),(2,Blk.row false 1 (List.map qg r_2))]) := by
 revert h; unfold qbc
 refine bs fun v2 h1 => ?_
 have f1 := zdo _ _ h1
 try simp only [en.down] at f1
 refine b2s fun r4 h3 f2 f3 f4 f5 f6 => ?_
 refine bs fun v6 h5 => ?_
 have f7 := q6y h5
 try simp only [en.down] at f7
 rintro ⟨⟩
 exact fF q63
theorem qli {at_ b r_ r_2 r} (h : q8v at_ b r_ r_2 = some r) : O.call 52 [AV.ptr 0 0,v_i at_] [(0,Blk.box [v_s b,v_r 1 r_,v_r 2 r_2]),(1,Blk.row false 18 (List.map T.qb.enc r_)),(2,Blk.row false 1 (List.map qg r_2))] = some (AV.tup [v_g (T.qb.enc r.1),v_i r.2.1,v_b r.2.2],[(0,Blk.box [v_s b,v_r 1 r_,v_r 2 r_2]),(1,Blk.row false 18 (List.map T.qb.enc r_)),(2,Blk.row false 1 (List.map qg r_2))]) := by
 revert h; unfold q8v
 refine bs fun v2 h1 => ?_
 have f1 := qhd h1
 try simp only [en.down] at f1
 apply it <;> intro h3
 ·try simp only [h3] at f1
  rintro ⟨⟩
  exact fF qfy
 refine bs fun v5 h4 => ?_
 have f2 := zl3 h4
 try simp only [en.down] at f2
 apply it <;> intro h6
 ·try simp only [h3,h6] at f1 f2
  rintro ⟨⟩
  exact fF qfy
 try simp only [h3,h6] at f1 f2
 rintro ⟨⟩
 exact fF qfy
theorem qf1 {s at_ opt r} (h : q75 s at_ opt = some r) : O.call 55 [v_s s,v_i at_,v_b opt] [] = some (v_b r,[]) := by
 revert h; unfold q75
 refine bc fun b2 h1 f1 f2 => ?_
 refine xe ?_ (fun h3 h4 => ?_)
 ·rintro (⟨h3,h4⟩ | ⟨h3,h4⟩)
  all_goals
  rintro ⟨⟩
  exact fF qan
 refine bc fun b6 h5 f3 f4 => ?_
 refine qb8 ?_ (fun h7 h8 h9 => ?_)
 ·rintro (⟨h7,h8,h9⟩ | ⟨h7,h8,h9⟩ | ⟨h7,h8,h9⟩)
  all_goals
  rintro ⟨⟩
  exact fF qan
 apply it <;> intro h10
 ·apply it <;> intro h11
  ·rintro ⟨⟩
   exact fF qan
  rintro ⟨⟩
  exact fF qan
 rintro ⟨⟩
 exact fF qan
theorem qz8 : ∀ p r,uq p = some r → O.loop 38 0 ⟨[(0,AV.ptr 0 0),(1,v_i p.1),(2,v_b p.2.1),(8,v_r 3 p.2.2.2.2.2.1),(9,v_r 4 p.2.2.2.2.2.2)],[(0,Blk.box [v_s p.2.2.1,v_r 1 p.2.2.2.1,v_r 2 p.2.2.2.2.1]),(1,Blk.row false 18 (List.map T.qb.enc p.2.2.2.1)),(2,Blk.row false 1 (List.map qg p.2.2.2.2.1)),(3,b_r 18 T.qb.enc p.2.2.2.2.2.1),(4,b_r 1 qj p.2.2.2.2.2.2)],5⟩ = some (Ex.normal,⟨[(0,AV.ptr 0 0),(1,v_i r.1),(2,v_b p.2.1),(8,v_r 3 r.2.1),(9,v_r 4 r.2.2)],[(0,Blk.box [v_s p.2.2.1,v_r 1 p.2.2.2.1,v_r 2 p.2.2.2.2.1]),(1,Blk.row false 18 (List.map T.qb.enc p.2.2.2.1)),(2,Blk.row false 1 (List.map qg p.2.2.2.2.1)),(3,b_r 18 T.qb.enc r.2.1),(4,b_r 1 qj r.2.2)],5⟩) := by
 refine uq.partial_correctness _ ?_
 rintro uq ih15 ⟨at_,braced,r_,r1_,r2_,l,text⟩ r; dsimp only
 apply it <;> intro h1
 ·apply it <;> intro h2
  ·refine bc fun b4 h3 f1 f2 => ?_
   apply it <;> intro h5
   ·refine bw qg fun x7 h6 f3 f4 f5 => ?_
    apply it <;> intro h8
    ·have f6 := jd 1 qj text
     have f7 := bytesOf_map text
     refine bw T.qb.enc fun x10 h9 f8 f9 f10 => ?_
     refine gd fun h11 => ?_
     have f11 := fun te β nx c0 c1 (h1 : 18 = te.size) (h2 : ql (l.length + 2) te.bytes = true) => qgv te β 18 nx T.qb.enc l c0 [c1] h1 h2
     have f12 : List.map T.qb.enc l ++ [[PV.int IntKind.i64 (0 : Int),PV.str text,PV.int IntKind.i64 (0 : Int),PV.bool false,PV.bool false,PV.int IntKind.i64 (0 : Int),PV.str ([] : Bytes),PV.bool false,PV.sl true 0 [],PV.int IntKind.i64 (0 : Int),PV.int IntKind.i64 (0 : Int),PV.bool false,PV.sl true 0 [],PV.sl true 0 [],PV.bool false,PV.bool false,PV.sl true 0 [],PV.sl true 0 []],[PV.int IntKind.i64 x10.kind,PV.str x10.text,PV.int IntKind.i64 x10.n,PV.bool x10.has,PV.bool x10.turned,PV.int IntKind.i64 x10.form.rx.kind,PV.str x10.form.rx.char,PV.bool x10.form.rx.not,PV.sl x10.form.rx.rows.nil (szc 2 x10.form.rx.rows.l) (List.map T.Row.enc x10.form.rx.rows.l),PV.int IntKind.i64 x10.form.rx.min,PV.int IntKind.i64 x10.form.rx.max,PV.bool x10.form.rx.lazy,PV.sl x10.form.rx.kids.nil (szc 8 x10.form.rx.kids.l) (List.map T.Rx.enc x10.form.rx.kids.l),PV.sl x10.form.fmts.nil (szc 5 x10.form.fmts.l) (List.map T.Fmt.enc x10.form.fmts.l),PV.bool x10.form.fold,PV.bool x10.form.all,PV.sl x10.opts.nil (szc 1 x10.opts.l) (List.map qh x10.opts.l),PV.sl x10.kids.nil (szc 18 x10.kids.l) (List.map T.qb.enc x10.kids.l)]] = List.map T.qb.enc (l ++ [(T.qb.mk (0 : Int) text (0 : Int) false false (T.Form.mk (T.Rx.mk (0 : Int) ([] : Bytes) false (⟨true,[]⟩ : (Sl T.Row)) (0 : Int) (0 : Int) false (⟨true,[]⟩ : (Sl T.Rx))) (⟨true,[]⟩ : (Sl T.Fmt)) false false) (⟨true,[]⟩ : (Sl Bytes)) (⟨true,[]⟩ : (Sl T.qb))),x10]) := by simp only [List.map_append,List.map_cons,List.map_nil,zb,za,ze,T.qb.qz] <;> rfl
     intro h; have f13 := ih15 _ _ h; clear h
     try simp only [en.down] at f13
     try simp only [h2] at f13
     clear ih15; exact fL q29
    refine bs fun v13 h12 => ?_
    have f14 := qf1 h12
    try simp only [en.down] at f14
    apply it <;> intro h14
    ·refine bc fun b16 h15 f15 f16 => ?_
     refine gd fun h17 => ?_
     have f17 := rG 1 qj text
     have f18 : List.map qj text ++ [[PV.int IntKind.u8 (b16.toNat : Int)]] = List.map qj (text ++ [b16]) := by simp only [List.map_append,List.map_cons,List.map_nil,zb,za,ze,qj] <;> rfl
     try simp only [h2,h14] at f14
     intro h; have f19 := ih15 _ _ h; clear h
     try simp only [en.down] at f19
     try simp only [h2,h14] at f19
     clear ih15; exact fL q29
    refine gd fun h18 => ?_
    have f20 := rG 1 qj text
    have f21 : List.map qj text ++ [[PV.int IntKind.u8 (b4.toNat : Int)]] = List.map qj (text ++ [b4]) := by simp only [List.map_append,List.map_cons,List.map_nil,zb,za,ze,qj] <;> rfl
    try simp only [h2,h14] at f14
    intro h; have f22 := ih15 _ _ h; clear h
    try simp only [en.down] at f22
    try simp only [h2,h14] at f22
    clear ih15; exact fL q29
   rintro ⟨⟩
   clear ih15; exact fL q29
  refine bw qg fun x20 h19 f23 f24 f25 => ?_
  apply it <;> intro h21
  ·have f26 := jd 1 qj text
   have f27 := bytesOf_map text
   refine bw T.qb.enc fun x23 h22 f28 f29 f30 => ?_
   refine gd fun h24 => ?_
   have f31 := fun te β nx c0 c1 (h1 : 18 = te.size) (h2 : ql (l.length + 2) te.bytes = true) => qgv te β 18 nx T.qb.enc l c0 [c1] h1 h2
   have f32 : List.map T.qb.enc l ++ [[PV.int IntKind.i64 (0 : Int),PV.str text,PV.int IntKind.i64 (0 : Int),PV.bool false,PV.bool false,PV.int IntKind.i64 (0 : Int),PV.str ([] : Bytes),PV.bool false,PV.sl true 0 [],PV.int IntKind.i64 (0 : Int),PV.int IntKind.i64 (0 : Int),PV.bool false,PV.sl true 0 [],PV.sl true 0 [],PV.bool false,PV.bool false,PV.sl true 0 [],PV.sl true 0 []],[PV.int IntKind.i64 x23.kind,PV.str x23.text,PV.int IntKind.i64 x23.n,PV.bool x23.has,PV.bool x23.turned,PV.int IntKind.i64 x23.form.rx.kind,PV.str x23.form.rx.char,PV.bool x23.form.rx.not,PV.sl x23.form.rx.rows.nil (szc 2 x23.form.rx.rows.l) (List.map T.Row.enc x23.form.rx.rows.l),PV.int IntKind.i64 x23.form.rx.min,PV.int IntKind.i64 x23.form.rx.max,PV.bool x23.form.rx.lazy,PV.sl x23.form.rx.kids.nil (szc 8 x23.form.rx.kids.l) (List.map T.Rx.enc x23.form.rx.kids.l),PV.sl x23.form.fmts.nil (szc 5 x23.form.fmts.l) (List.map T.Fmt.enc x23.form.fmts.l),PV.bool x23.form.fold,PV.bool x23.form.all,PV.sl x23.opts.nil (szc 1 x23.opts.l) (List.map qh x23.opts.l),PV.sl x23.kids.nil (szc 18 x23.kids.l) (List.map T.qb.enc x23.kids.l)]] = List.map T.qb.enc (l ++ [(T.qb.mk (0 : Int) text (0 : Int) false false (T.Form.mk (T.Rx.mk (0 : Int) ([] : Bytes) false (⟨true,[]⟩ : (Sl T.Row)) (0 : Int) (0 : Int) false (⟨true,[]⟩ : (Sl T.Rx))) (⟨true,[]⟩ : (Sl T.Fmt)) false false) (⟨true,[]⟩ : (Sl Bytes)) (⟨true,[]⟩ : (Sl T.qb))),x23]) := by simp only [List.map_append,List.map_cons,List.map_nil,zb,za,ze,T.qb.qz] <;> rfl
   intro h; have f33 := ih15 _ _ h; clear h
   try simp only [en.down] at f33
   try simp only [h2] at f33
   clear ih15; exact fL q29
  refine bs fun v26 h25 => ?_
  have f34 := qf1 h25
  try simp only [en.down] at f34
  apply it <;> intro h27
  ·refine bc fun b29 h28 f35 f36 => ?_
   refine gd fun h30 => ?_
   have f37 := rG 1 qj text
   have f38 : List.map qj text ++ [[PV.int IntKind.u8 (b29.toNat : Int)]] = List.map qj (text ++ [b29]) := by simp only [List.map_append,List.map_cons,List.map_nil,zb,za,ze,qj] <;> rfl
   try simp only [h2,h27] at f34
   intro h; have f39 := ih15 _ _ h; clear h
   try simp only [en.down] at f39
   try simp only [h2,h27] at f39
   clear ih15; exact fL q29
  refine bc fun b32 h31 f40 f41 => ?_
  refine gd fun h33 => ?_
  have f42 := rG 1 qj text
  have f43 : List.map qj text ++ [[PV.int IntKind.u8 (b32.toNat : Int)]] = List.map qj (text ++ [b32]) := by simp only [List.map_append,List.map_cons,List.map_nil,zb,za,ze,qj] <;> rfl
  try simp only [h2,h27] at f34
  intro h; have f44 := ih15 _ _ h; clear h
  try simp only [en.down] at f44
  try simp only [h2,h27] at f44
  clear ih15; exact fL q29
 rintro ⟨⟩
 clear ih15; exact fL q29
theorem qv9 : ∀ p r,q0a p = some r → O.loop 56 0 ⟨[(0,v_l 18 T.qb.enc p.1),(3,v_r 0 p.2.2),(4,v_i p.2.1)],[(0,b_r 18 T.qb.enc p.2.2)],1⟩ = some (Ex.normal,⟨[(3,v_r 0 r)],[(0,b_r 18 T.qb.enc r)],1⟩) := by
 refine q0a.partial_correctness _ ?_
 rintro q0a ih18 ⟨l,i,out⟩ r; dsimp only
 apply it <;> intro h1
 ·refine bg T.qb.enc fun x3 h2 f1 f2 f3 => ?_
  apply it <;> intro h4
  ·apply it <;> intro h5
   ·intro h; have f4 := ih18 _ _ h; clear h
    try simp only [en.down] at f4
    clear ih18; exact fL q69
   apply it <;> intro h6
   ·refine bW T.qb.enc 18 fun x8 h7 f5 f6 f7 f8 f9 => ?_
    apply it <;> intro h9
    ·refine gd fun h10 => ?_
     have f10 := eq_true h10
     try simp only [en.down] at f10
     have f11 := map_set T.qb.enc out ((IntKind.i64.wrap ((out.length : Int) - (1 : Int))).toNat) (T.qb.mk x8.kind (x8.text ++ x3.text) x8.n x8.has x8.turned x8.form x8.opts x8.kids)
     try simp only [en.down] at f11
     try simp only [f8,f9] at f11
     intro h; have f12 := ih18 _ _ h; clear h
     try simp only [en.down,f8,f9] at f12
     try simp only [f8,f9] at f12
     clear ih18; exact fL q69
    refine gd fun h11 => ?_
    have f13 : List.map T.qb.enc out ++ [[PV.int IntKind.i64 x3.kind,PV.str x3.text,PV.int IntKind.i64 x3.n,PV.bool x3.has,PV.bool x3.turned,PV.int IntKind.i64 x3.form.rx.kind,PV.str x3.form.rx.char,PV.bool x3.form.rx.not,PV.sl x3.form.rx.rows.nil (szc 2 x3.form.rx.rows.l) (List.map T.Row.enc x3.form.rx.rows.l),PV.int IntKind.i64 x3.form.rx.min,PV.int IntKind.i64 x3.form.rx.max,PV.bool x3.form.rx.lazy,PV.sl x3.form.rx.kids.nil (szc 8 x3.form.rx.kids.l) (List.map T.Rx.enc x3.form.rx.kids.l),PV.sl x3.form.fmts.nil (szc 5 x3.form.fmts.l) (List.map T.Fmt.enc x3.form.fmts.l),PV.bool x3.form.fold,PV.bool x3.form.all,PV.sl x3.opts.nil (szc 1 x3.opts.l) (List.map qh x3.opts.l),PV.sl x3.kids.nil (szc 18 x3.kids.l) (List.map T.qb.enc x3.kids.l)]] = List.map T.qb.enc (out ++ [x3]) := by simp only [List.map_append,List.map_cons,List.map_nil,zb,za,ze,T.qb.qz] <;> rfl
    intro h; have f14 := ih18 _ _ h; clear h
    try simp only [en.down,f8,f9] at f14
    try simp only [f8,f9] at f14
    clear ih18; exact fL q69
   refine gd fun h12 => ?_
   have f15 := rG 18 T.qb.enc out
   have f16 : List.map T.qb.enc out ++ [[PV.int IntKind.i64 x3.kind,PV.str x3.text,PV.int IntKind.i64 x3.n,PV.bool x3.has,PV.bool x3.turned,PV.int IntKind.i64 x3.form.rx.kind,PV.str x3.form.rx.char,PV.bool x3.form.rx.not,PV.sl x3.form.rx.rows.nil (szc 2 x3.form.rx.rows.l) (List.map T.Row.enc x3.form.rx.rows.l),PV.int IntKind.i64 x3.form.rx.min,PV.int IntKind.i64 x3.form.rx.max,PV.bool x3.form.rx.lazy,PV.sl x3.form.rx.kids.nil (szc 8 x3.form.rx.kids.l) (List.map T.Rx.enc x3.form.rx.kids.l),PV.sl x3.form.fmts.nil (szc 5 x3.form.fmts.l) (List.map T.Fmt.enc x3.form.fmts.l),PV.bool x3.form.fold,PV.bool x3.form.all,PV.sl x3.opts.nil (szc 1 x3.opts.l) (List.map qh x3.opts.l),PV.sl x3.kids.nil (szc 18 x3.kids.l) (List.map T.qb.enc x3.kids.l)]] = List.map T.qb.enc (out ++ [x3]) := by simp only [List.map_append,List.map_cons,List.map_nil,zb,za,ze,T.qb.qz] <;> rfl
   intro h; have f17 := ih18 _ _ h; clear h
   try simp only [en.down] at f17
   clear ih18; exact fL q69
  refine gd fun h13 => ?_
  have f18 := rG 18 T.qb.enc out
  have f19 : List.map T.qb.enc out ++ [[PV.int IntKind.i64 x3.kind,PV.str x3.text,PV.int IntKind.i64 x3.n,PV.bool x3.has,PV.bool x3.turned,PV.int IntKind.i64 x3.form.rx.kind,PV.str x3.form.rx.char,PV.bool x3.form.rx.not,PV.sl x3.form.rx.rows.nil (szc 2 x3.form.rx.rows.l) (List.map T.Row.enc x3.form.rx.rows.l),PV.int IntKind.i64 x3.form.rx.min,PV.int IntKind.i64 x3.form.rx.max,PV.bool x3.form.rx.lazy,PV.sl x3.form.rx.kids.nil (szc 8 x3.form.rx.kids.l) (List.map T.Rx.enc x3.form.rx.kids.l),PV.sl x3.form.fmts.nil (szc 5 x3.form.fmts.l) (List.map T.Fmt.enc x3.form.fmts.l),PV.bool x3.form.fold,PV.bool x3.form.all,PV.sl x3.opts.nil (szc 1 x3.opts.l) (List.map qh x3.opts.l),PV.sl x3.kids.nil (szc 18 x3.kids.l) (List.map T.qb.enc x3.kids.l)]] = List.map T.qb.enc (out ++ [x3]) := by simp only [List.map_append,List.map_cons,List.map_nil,zb,za,ze,T.qb.qz] <;> rfl
  intro h; have f20 := ih18 _ _ h; clear h
  try simp only [en.down] at f20
  clear ih18; exact fL q69
 rintro ⟨⟩
 clear ih18; exact fL q69
theorem z3b {l r} (h : qag l = some r) : O.call 56 [v_l 18 T.qb.enc l] [] = some (v_l 18 T.qb.enc r,[]) := by
 revert h; unfold qag
 refine bs fun v2 h1 => ?_
 have f1 := qv9 _ _ h1
 try simp only [en.down] at f1
 rintro ⟨⟩
 exact fF q69
theorem qms {at_ braced b r_ r_2 r} (h : q84 at_ braced b r_ r_2 = some r) : O.call 38 [AV.ptr 0 0,v_i at_,v_b braced] [(0,Blk.box [v_s b,v_r 1 r_,v_r 2 r_2]),(1,Blk.row false 18 (List.map T.qb.enc r_)),(2,Blk.row false 1 (List.map qg r_2))] = some (AV.tup [v_l 18 T.qb.enc r.1,v_i r.2],[(0,Blk.box [v_s b,v_r 1 r_,v_r 2 r_2]),(1,Blk.row false 18 (List.map T.qb.enc r_)),(2,Blk.row false 1 (List.map qg r_2))]) := by
 revert h; unfold q84
 refine bs fun v2 h1 => ?_
 have f1 := qz8 _ _ h1
 try simp only [en.down] at f1
 refine zl (fun h3 h4 => ?_) ?_
 ·try simp only [h4] at f1
  rintro ⟨⟩
  exact fF q29
 rintro (⟨h3,h4⟩ | ⟨h3,h4⟩)
 all_goals
 have f2 := jd 1 qj v2.2.2
 have f3 := bytesOf_map v2.2.2
 refine gd fun h8 => ?_
 have f4 := rG 18 T.qb.enc v2.2.1
 have f5 : List.map T.qb.enc v2.2.1 ++ [[PV.int IntKind.i64 (0 : Int),PV.str v2.2.2,PV.int IntKind.i64 (0 : Int),PV.bool false,PV.bool false,PV.int IntKind.i64 (0 : Int),PV.str ([] : Bytes),PV.bool false,PV.sl true 0 [],PV.int IntKind.i64 (0 : Int),PV.int IntKind.i64 (0 : Int),PV.bool false,PV.sl true 0 [],PV.sl true 0 [],PV.bool false,PV.bool false,PV.sl true 0 [],PV.sl true 0 []]] = List.map T.qb.enc (v2.2.1 ++ [(T.qb.mk (0 : Int) v2.2.2 (0 : Int) false false (T.Form.mk (T.Rx.mk (0 : Int) ([] : Bytes) false (⟨true,[]⟩ : (Sl T.Row)) (0 : Int) (0 : Int) false (⟨true,[]⟩ : (Sl T.Rx))) (⟨true,[]⟩ : (Sl T.Fmt)) false false) (⟨true,[]⟩ : (Sl Bytes)) (⟨true,[]⟩ : (Sl T.qb)))]) := by simp only [List.map_append,List.map_cons,List.map_nil,zb,za,ze,T.qb.qz] <;> rfl
 refine bs fun v10 h9 => ?_
 have f6 := z3b h9
 try simp only [en.down] at f6
 try simp only [h4] at f1 f6
 rintro ⟨⟩
 exact fF q29
theorem qyb : ∀ p r,q3k p = some r → O.loop 53 0 ⟨[(0,v_s p.1),(4,AV.ptr 0 0),(7,v_r 1 p.2.2.2),(8,v_i p.2.1)],[(0,b_x (T.Form.enc p.2.2.1)),(1,b_r 1 qj p.2.2.2)],2⟩ = some (Ex.normal,⟨[(0,v_s p.1),(4,AV.ptr 0 0),(7,v_r 1 r.2),(8,v_i r.1)],[(0,b_x (T.Form.enc p.2.2.1)),(1,b_r 1 qj r.2)],2⟩) := by
 refine q3k.partial_correctness _ ?_
 rintro q3k ih20 ⟨s,k,t4,b⟩ r; dsimp only
 apply it <;> intro h1
 ·refine bc fun b3 h2 f1 f2 => ?_
  apply it <;> intro h4
  ·refine zl (fun h5 h6 => ?_) ?_
   ·refine bc fun b8 h7 f3 f4 => ?_
    apply it <;> intro h9
    ·refine gd fun h10 => ?_
     have f5 := rG 1 qj b
     have f6 : List.map qj b ++ [[PV.int IntKind.u8 (92 : Int)]] = List.map qj (b ++ [92]) := by simp only [List.map_append,List.map_cons,List.map_nil,zb,za,ze,qj] <;> rfl
     refine gd fun h11 => ?_
     have f7 : List.map qj (b ++ [92]) ++ [[PV.int IntKind.u8 (b8.toNat : Int)]] = List.map qj ((b ++ [92]) ++ [b8]) := by simp only [List.map_append,List.map_cons,List.map_nil,zb,za,ze,qj] <;> rfl
     intro h; have f8 := ih20 _ _ h; clear h
     try simp only [en.down] at f8
     clear ih20; exact fL uf
    refine gd fun h12 => ?_
    have f9 := rG 1 qj b
    have f10 : List.map qj b ++ [[PV.int IntKind.u8 (b8.toNat : Int)]] = List.map qj (b ++ [b8]) := by simp only [List.map_append,List.map_cons,List.map_nil,zb,za,ze,qj] <;> rfl
    intro h; have f11 := ih20 _ _ h; clear h
    try simp only [en.down] at f11
    clear ih20; exact fL uf
   rintro (⟨h5,h6⟩ | ⟨h5,h6⟩)
   all_goals
   refine gd fun h14 => ?_
   have f12 := rG 1 qj b
   have f13 : List.map qj b ++ [[PV.int IntKind.u8 (b3.toNat : Int)]] = List.map qj (b ++ [b3]) := by simp only [List.map_append,List.map_cons,List.map_nil,zb,za,ze,qj] <;> rfl
   intro h; have f14 := ih20 _ _ h; clear h
   try simp only [en.down] at f14
   clear ih20; exact fL uf
  rintro ⟨⟩
  clear ih20; exact fL uf
 rintro ⟨⟩
 clear ih20; exact fL uf
theorem qf5 {c r} (h : q2x c = some r) : O.call 111 [AV.pv (PV.int IntKind.u8 (c.toNat : Int))] [] = some (v_b r,[]) := by
 revert h; unfold q2x
 apply it <;> intro h1
 ·rintro ⟨⟩
  exact fF qpe
 rintro ⟨⟩
 exact fF qpe
theorem zra : ∀ p r,yc p = some r → O.loop 95 0 ⟨[(0,v_s p.1),(3,v_r 0 p.2.2.2),(4,v_i p.2.1),(5,v_i p.2.2.1)],[(0,b_r 1 qh p.2.2.2)],1⟩ = some (Ex.normal,⟨[(3,v_r 0 r)],[(0,b_r 1 qh r)],1⟩) := by
 refine yc.partial_correctness _ ?_
 rintro yc ih23 ⟨s,frm,i,l⟩ r; dsimp only
 apply it <;> intro h1
 ·apply it <;> intro h2
  ·refine b2s fun r4 h3 f1 f2 f3 f4 f5 => ?_
   refine gd fun h5 => ?_
   have f6 := rG 1 qh l
   have f7 : List.map qh l ++ [[PV.str r4]] = List.map qh (l ++ [r4]) := by simp only [List.map_append,List.map_cons,List.map_nil,zb,za,ze,qh] <;> rfl
   intro h; have f8 := ih23 _ _ h; clear h
   try simp only [en.down] at f8
   clear ih23; exact fL qca
  refine bc fun b7 h6 f9 f10 => ?_
  refine bs fun v9 h8 => ?_
  have f11 := qf5 h8
  try simp only [en.down] at f11
  apply it <;> intro h10
  ·refine b2s fun r12 h11 f12 f13 f14 f15 f16 => ?_
   refine gd fun h13 => ?_
   have f17 := rG 1 qh l
   have f18 : List.map qh l ++ [[PV.str r12]] = List.map qh (l ++ [r12]) := by simp only [List.map_append,List.map_cons,List.map_nil,zb,za,ze,qh] <;> rfl
   try simp only [h10] at f11
   intro h; have f19 := ih23 _ _ h; clear h
   try simp only [en.down] at f19
   try simp only [h10] at f19
   clear ih23; exact fL qca
  try simp only [h10] at f11
  intro h; have f20 := ih23 _ _ h; clear h
  try simp only [en.down] at f20
  try simp only [h10] at f20
  clear ih23; exact fL qca
 rintro ⟨⟩
 clear ih23; exact fL qca
theorem qg4 {s r} (h : q2w s = some r) : O.call 95 [v_s s] [] = some (v_l 1 qh r,[]) := by
 revert h; unfold q2w
 refine bs fun v2 h1 => ?_
 have f1 := zra _ _ h1
 try simp only [en.down] at f1
 rintro ⟨⟩
 exact fF qca
theorem q3i {b r} (h : q0e b = some r) : O.call 112 [AV.ptr 0 0] [(0,b_x (T.qm.enc b))] = some (v_s r,[(0,b_x (T.qm.enc b))]) := by
 revert h; unfold q0e
 apply it <;> intro h1
 ·rintro ⟨⟩
  exact fF qkr
 refine bg qh fun x3 h2 f1 f2 f3 => ?_
 rintro ⟨⟩
 exact fF qkr
theorem xy {c b r} (h : zu c b = some r) : O.call 115 [AV.ptr 0 0,v_s c] [(0,b_x (T.qm.enc b))] = some (v_b r.1,[(0,b_x (T.qm.enc r.2))]) := by
 revert h; unfold zu
 apply it <;> intro h1
 ·rintro ⟨⟩
  exact fF qh3
 refine bg qh fun x3 h2 f1 f2 f3 => ?_
 apply it <;> intro h4
 ·rintro ⟨⟩
  exact fF qh3
 rintro ⟨⟩
 exact fF qh3
theorem qmg {c r} (h : q7t c = some r) : O.call 151 [AV.pv (PV.int IntKind.u8 (c.toNat : Int))] [] = some (AV.tup [v_l 2 T.Row.enc r.1,v_b r.2],[]) := by
 revert h; unfold q7t
 apply it <;> intro h1
 ·rintro ⟨⟩
  exact fF qd0
 apply it <;> intro h2
 ·rintro ⟨⟩
  exact fF qd0
 apply it <;> intro h3
 ·rintro ⟨⟩
  exact fF qd0
 rintro ⟨⟩
 exact fF qd0
theorem qeb {c r} (h : q28 c = some r) : O.call 152 [v_s c] [] = some (AV.tup [v_s r.1,v_b r.2],[]) := by
 revert h; unfold q28
 apply it <;> intro h1
 ·rintro ⟨⟩
  exact fF q2p
 apply it <;> intro h2
 ·rintro ⟨⟩
  exact fF q2p
 apply it <;> intro h3
 ·rintro ⟨⟩
  exact fF q2p
 apply it <;> intro h4
 ·rintro ⟨⟩
  exact fF q2p
 apply it <;> intro h5
 ·rintro ⟨⟩
  exact fF q2p
 apply it <;> intro h6
 ·rintro ⟨⟩
  exact fF q2p
 apply it <;> intro h7
 ·refine bc fun b9 h8 f1 f2 => ?_
  refine bs fun v11 h10 => ?_
  have f3 := qda h10
  try simp only [en.down] at f3
  apply it <;> intro h12
  ·try simp only [h12] at f3
   rintro ⟨⟩
   exact fF q2p
  refine bs fun v14 h13 => ?_
  have f4 := q77 h13
  try simp only [en.down] at f4
  apply it <;> intro h15
  ·try simp only [h12,h15] at f3 f4
   rintro ⟨⟩
   exact fF q2p
  try simp only [h12,h15] at f3 f4
  rintro ⟨⟩
  exact fF q2p
 rintro ⟨⟩
 exact fF q2p
theorem qjh {b r} (h : q80 b = some r) : O.call 148 [AV.ptr 0 0] [(0,b_x (T.qm.enc b))] = some (AV.tup [v_l 2 T.Row.enc r.1,v_s r.2.1,v_b r.2.2.1],[(0,b_x (T.qm.enc r.2.2.2))]) := by
 revert h; unfold q80
 refine bs fun v2 h1 => ?_
 have f1 := q3i h1
 try simp only [en.down] at f1
 refine xe ?_ (fun h3 h4 => ?_)
 ·rintro (⟨h3,h4⟩ | ⟨h3,h4⟩)
  all_goals
  rintro ⟨⟩
  exact fF qb4
 apply it <;> intro h5
 ·rintro ⟨⟩
  exact fF qb4
 refine bs fun v7 h6 => ?_
 have f2 := q3i h6
 try simp only [en.down] at f2
 apply it <;> intro h8
 ·refine bc fun b10 h9 f3 f4 => ?_
  refine bs fun v12 h11 => ?_
  have f5 := qmg h11
  try simp only [en.down] at f5
  apply it <;> intro h13
  ·try simp only [h13] at f1 f2 f5
   rintro ⟨⟩
   exact fF qb4
  refine bs fun v15 h14 => ?_
  have f6 := qeb h14
  try simp only [en.down] at f6
  try simp only [h13] at f1 f2 f5 f6
  rintro ⟨⟩
  exact fF qb4
 refine bs fun v17 h16 => ?_
 have f7 := qeb h16
 try simp only [en.down] at f7
 rintro ⟨⟩
 exact fF qb4
def qjg (t2 : T.Rx) (x : T.Rx) : ((Int × T.qm × T.Rx × (List T.Row)) ⊕ (T.qm × (List T.Row))) → Ex × St
 | .inl y => (Ex.ret,⟨[(2,AV.ptr 1 0),(3,v_i y.1),(4,AV.ptr 2 0),(5,v_r 3 y.2.2.2)],[(0,b_x (T.qm.enc y.2.1)),(1,b_x (T.Rx.enc y.2.2.1)),(2,b_x (T.Rx.enc x)),(3,b_r 2 T.Row.enc y.2.2.2)],4⟩)
 | .inr y => (Ex.normal,⟨[(2,AV.ptr 1 0),(3,AV.undef),(4,AV.ptr 2 0),(5,v_r 3 y.2)],[(0,b_x (T.qm.enc y.1)),(1,b_x (T.Rx.enc t2)),(2,b_x (T.Rx.enc x)),(3,b_r 2 T.Row.enc y.2)],4⟩)
attribute [local go_sem] qjg
theorem qpq : ∀ p r,q02 p = some r → O.loop 136 0 ⟨[(0,AV.ptr 0 0),(2,AV.ptr 1 0),(4,AV.ptr 2 0),(5,v_r 3 p.2.2.2)],[(0,b_x (T.qm.enc p.1)),(1,b_x (T.Rx.enc p.2.1)),(2,b_x (T.Rx.enc p.2.2.1)),(3,b_r 2 T.Row.enc p.2.2.2)],4⟩ = some (qjg p.2.1 p.2.2.1 r) := by
 refine q02.partial_correctness _ ?_
 rintro q02 ih33 ⟨r_,t2,x,rows⟩ r; dsimp only
 refine bs fun v2 h1 => ?_
 have f1 := xy h1
 try simp only [en.down] at f1
 apply it <;> intro h3
 ·refine bs fun v5 h4 => ?_
  have f2 := qjh h4
  try simp only [en.down] at f2
  apply it <;> intro h6
  ·rintro ⟨⟩
   clear ih33; exact fL q2t
  apply it <;> intro h7
  ·have f3 := jd 2 T.Row.enc v5.1.l
   apply it <;> intro h8
   ·have f4 := rA T.Row.enc h8
    intro h; have f5 := ih33 _ _ h; clear h
    try simp only [en.down] at f5
    clear ih33; exact fL q2t
   refine gd fun h9 => ?_
   have f6 := rB T.Row.enc h8
   have f7 : (rows ++ v5.1.l).isEmpty = false := qmv h8
   have f8 : szc 2 (rows ++ v5.1.l) = 2 := q92 h8 _
   have f9 : List.map T.Row.enc rows ++ List.map T.Row.enc v5.1.l = List.map T.Row.enc (rows ++ v5.1.l) := q7k _ _ _
   try simp only [f7,f8] at f1 f2
   intro h; have f10 := ih33 _ _ h; clear h
   try simp only [en.down,f7,f8] at f10
   try simp only [f7,f8] at f10
   clear ih33; exact fL q2t
  refine bs fun v11 h10 => ?_
  have f11 := q3i h10
  try simp only [en.down] at f11
  refine zl (fun h12 h13 => ?_) ?_
  ·refine bg qh fun x15 h14 f12 f13 f14 => ?_
   apply it <;> intro h16
   ·refine bs fun v18 h17 => ?_
    have f15 := qjh h17
    try simp only [en.down] at f15
    refine qb8 ?_ (fun h19 h20 h21 => ?_)
    ·rintro (⟨h19,h20,h21⟩ | ⟨h19,h20,h21⟩ | ⟨h19,h20,h21⟩)
     all_goals
     rintro ⟨⟩
     clear ih33; exact fL q2t
    refine gd fun h22 => ?_
    have f16 := rG 2 T.Row.enc rows
    have f17 : List.map T.Row.enc rows ++ [[PV.str v5.2.1,PV.str v18.2.1]] = List.map T.Row.enc (rows ++ [(T.Row.mk v5.2.1 v18.2.1)]) := by simp only [List.map_append,List.map_cons,List.map_nil,zb,za,ze,T.Row.qz] <;> rfl
    intro h; have f18 := ih33 _ _ h; clear h
    try simp only [en.down] at f18
    clear ih33; exact fL q2t
   refine gd fun h23 => ?_
   have f19 := rG 2 T.Row.enc rows
   have f20 : List.map T.Row.enc rows ++ [[PV.str v5.2.1,PV.str v5.2.1]] = List.map T.Row.enc (rows ++ [(T.Row.mk v5.2.1 v5.2.1)]) := by simp only [List.map_append,List.map_cons,List.map_nil,zb,za,ze,T.Row.qz] <;> rfl
   intro h; have f21 := ih33 _ _ h; clear h
   try simp only [en.down] at f21
   clear ih33; exact fL q2t
  rintro (⟨h12,h13⟩ | ⟨h12,h13⟩)
  all_goals
  refine gd fun h25 => ?_
  have f22 := rG 2 T.Row.enc rows
  have f23 : List.map T.Row.enc rows ++ [[PV.str v5.2.1,PV.str v5.2.1]] = List.map T.Row.enc (rows ++ [(T.Row.mk v5.2.1 v5.2.1)]) := by simp only [List.map_append,List.map_cons,List.map_nil,zb,za,ze,T.Row.qz] <;> rfl
  intro h; have f24 := ih33 _ _ h; clear h
  try simp only [en.down] at f24
  clear ih33; exact fL q2t
 rintro ⟨⟩
 clear ih33; exact fL q2t
theorem q7p {c r} (h : nz c = some r) : O.call 138 [v_s c] [] = some (v_b r,[]) := by
 revert h; unfold nz
 apply it <;> intro h1
 ·refine bc fun b3 h2 f1 f2 => ?_
  refine bs fun v5 h4 => ?_
  have f3 := qf5 h4
  try simp only [en.down] at f3
  apply it <;> intro h6
  ·refine bs fun v8 h7 => ?_
   have f4 := qg4 h7
   try simp only [en.down] at f4
   try simp only [h6] at f3 f4
   rintro ⟨⟩
   exact fF qhn
  try simp only [h6] at f3
  rintro ⟨⟩
  exact fF qhn
 rintro ⟨⟩
 exact fF qhn
theorem zhb : ∀ p r,q4x p = some r → O.loop 149 2 ⟨[(0,v_l 2 T.Row.enc p.1),(3,v_l 2 T.Row.enc p.2.1),(4,v_i p.2.2.1),(5,AV.ptr 0 0),(6,v_i p.2.2.2.1)],[(0,b_x (T.Row.enc p.2.2.2.2))],1⟩ = some (Ex.normal,⟨[(0,v_l 2 T.Row.enc p.1),(3,v_l 2 T.Row.enc p.2.1),(4,v_i p.2.2.1),(5,AV.ptr 0 0),(6,v_i r)],[(0,b_x (T.Row.enc p.2.2.2.2))],1⟩) := by
 refine q4x.partial_correctness _ ?_
 rintro q4x ih40 ⟨rows,s,i,k,r_⟩ r; dsimp only
 apply it <;> intro h1
 ·refine bg T.Row.enc fun x3 h2 f1 f2 f3 => ?_
  apply it <;> intro h4
  ·intro h; have f4 := ih40 _ _ h; clear h
   try simp only [en.down] at f4
   clear ih40; exact fL mq
  apply it <;> intro h5
  ·apply it <;> intro h6
   ·intro h; have f5 := ih40 _ _ h; clear h
    try simp only [en.down] at f5
    clear ih40; exact fL mq
   rintro ⟨⟩
   clear ih40; exact fL mq
  rintro ⟨⟩
  clear ih40; exact fL mq
 rintro ⟨⟩
 clear ih40; exact fL mq
theorem zmi : ∀ p r,q1y p = some r → O.loop 149 0 ⟨[(0,v_l 2 T.Row.enc p.1),(3,v_l 2 T.Row.enc p.2.1),(4,v_i p.2.2)],[],0⟩ = some (Ex.normal,⟨[(3,v_l 2 T.Row.enc r)],[],0⟩) := by
 refine q1y.partial_correctness _ ?_
 rintro q1y ih38 ⟨rows,s,i⟩ r; dsimp only
 apply it <;> intro h1
 ·refine bg T.Row.enc fun x3 h2 f1 f2 f3 => ?_
  refine bs fun v5 h4 => ?_
  have f4 := q7p h4
  try simp only [en.down] at f4
  apply it <;> intro h6
  ·intro h; have f5 := ih38 _ _ h; clear h
   try simp only [en.down] at f5
   clear ih38; exact fL mq
  refine bs fun v8 h7 => ?_
  have f6 := q7p h7
  try simp only [en.down] at f6
  refine xe ?_ (fun h9 h10 => ?_)
  ·rintro (⟨h9,h10⟩ | ⟨h9,h10⟩)
   all_goals
   intro h; have f7 := ih38 _ _ h; clear h
   try simp only [en.down] at f7
   clear ih38; exact fL mq
  refine bs fun v12 h11 => ?_
  have f8 := zhb _ _ h11
  try simp only [en.down] at f8
  have f9 := jd 2 T.Row.enc s.l
  refine bT T.Row.enc fun r14 h13 f10 f11 f12 f13 => ?_
  have f14 := jd 2 T.Row.enc r14
  refine gd fun h15 => ?_
  refine gd fun h16 => ?_
  refine bF T.Row.enc fun r18 h17 f15 f16 f17 f18 => ?_
  have f19 := jd 2 T.Row.enc r18
  have f20 : List.map T.Row.enc r14 ++ [[PV.str x3.frm,PV.str x3.to]] = List.map T.Row.enc (r14 ++ [x3]) := by simp only [List.map_append,List.map_cons,List.map_nil,zb,za,ze,T.Row.qz] <;> rfl
  refine gd fun h19 => ?_
  have f21 : List.map T.Row.enc (r14 ++ [x3]) ++ List.map T.Row.enc r18 = List.map T.Row.enc ((r14 ++ [x3]) ++ r18) := q7k _ _ _
  intro h; have f22 := ih38 _ _ h; clear h
  try simp only [en.down] at f22
  clear ih38; exact fL mq
 rintro ⟨⟩
 clear ih38; exact fL mq
theorem qzl : ∀ p r,q2j p = some r → O.loop 149 4 ⟨[(3,v_l 2 T.Row.enc p.1),(7,v_r 0 p.2.2),(8,v_i p.2.1)],[(0,b_r 2 T.Row.enc p.2.2)],1⟩ = some (Ex.normal,⟨[(7,v_r 0 r)],[(0,b_r 2 T.Row.enc r)],1⟩) := by
 refine q2j.partial_correctness _ ?_
 rintro q2j ih41 ⟨s,i,out⟩ r; dsimp only
 apply it <;> intro h1
 ·apply it <;> intro h2
  ·refine bg T.Row.enc fun x4 h3 f1 f2 f3 => ?_
   refine bW T.Row.enc 2 fun x6 h5 f4 f5 f6 f7 f8 => ?_
   apply it <;> intro h7
   ·have f9 := map_set T.Row.enc out ((IntKind.i64.wrap ((out.length : Int) - (1 : Int))).toNat) (T.Row.mk x6.frm (if j6 x6.to x4.to = true then x4.to else x6.to))
    try simp only [en.down] at f9
    try simp only [f7,f8] at f9
    intro h; have f10 := ih41 _ _ h; clear h
    try simp only [en.down,f7,f8] at f10
    try simp only [f7,f8] at f10
    clear ih41; exact fL mq
   refine gd fun h8 => ?_
   have f11 : List.map T.Row.enc out ++ [[PV.str x4.frm,PV.str x4.to]] = List.map T.Row.enc (out ++ [x4]) := by simp only [List.map_append,List.map_cons,List.map_nil,zb,za,ze,T.Row.qz] <;> rfl
   intro h; have f12 := ih41 _ _ h; clear h
   try simp only [en.down,f7,f8] at f12
   try simp only [f7,f8] at f12
   clear ih41; exact fL mq
  refine bg T.Row.enc fun x10 h9 f13 f14 f15 => ?_
  refine gd fun h11 => ?_
  have f16 := rG 2 T.Row.enc out
  have f17 : List.map T.Row.enc out ++ [[PV.str x10.frm,PV.str x10.to]] = List.map T.Row.enc (out ++ [x10]) := by simp only [List.map_append,List.map_cons,List.map_nil,zb,za,ze,T.Row.qz] <;> rfl
  intro h; have f18 := ih41 _ _ h; clear h
  try simp only [en.down] at f18
  clear ih41; exact fL mq
 rintro ⟨⟩
 clear ih41; exact fL mq
theorem qpp {rows r} (h : qbk rows = some r) : O.call 149 [v_l 2 T.Row.enc rows] [] = some (v_l 2 T.Row.enc r,[]) := by
 revert h; unfold qbk
 refine bs fun v2 h1 => ?_
 have f1 := zmi _ _ h1
 try simp only [en.down] at f1
 refine bs fun v4 h3 => ?_
 have f2 := qzl _ _ h3
 try simp only [en.down] at f2
 rintro ⟨⟩
 exact fF mq
theorem qr1 {b r} (h : qaz b = some r) : O.call 136 [AV.ptr 0 0] [(0,b_x (T.qm.enc b))] = some (AV.tup [v_g (T.Rx.enc r.1),v_i r.2.1],[(0,b_x (T.qm.enc r.2.2))]) := by
 revert h; unfold qaz
 refine bs fun v2 h1 => ?_
 have f1 := xy h1
 try simp only [en.down] at f1
 refine bs fun v4 h3 => ?_
 have f2 := qpq _ _ h3
 try simp only [en.down] at f2
 rcases v4 with y5 | y6
 ·dsimp only
  rintro ⟨⟩
  exact fF q2t
 dsimp only
 refine bs fun v8 h7 => ?_
 have f3 := qpp h7
 try simp only [en.down] at f3
 rintro ⟨⟩
 exact fF q2t
theorem z0b : ∀ p r,q1a p = some r → O.loop 150 0 ⟨[(3,v_r 0 p.2),(4,v_i p.1)],[(0,Blk.row false 1 (List.map qj p.2))],1⟩ = some (Ex.normal,⟨[(3,v_r 0 r)],[(0,Blk.row false 1 (List.map qj r))],1⟩) := by
 refine q1a.partial_correctness _ ?_
 rintro q1a ih44 ⟨i,b⟩ r; dsimp only
 apply it <;> intro h1
 ·refine bw qj fun x3 h2 f1 f2 f3 => ?_
  apply it <;> intro h4
  ·apply it <;> intro h5
   ·have f4 := map_set qj b i.toNat (u8 (IntKind.u8.wrap ((x3.toNat : Int) + (32 : Int))))
    try simp only [en.down] at f4
    intro h; have f5 := ih44 _ _ h; clear h
    try simp only [en.down] at f5
    clear ih44; exact fL qaw
   intro h; have f6 := ih44 _ _ h; clear h
   try simp only [en.down] at f6
   clear ih44; exact fL qaw
  intro h; have f7 := ih44 _ _ h; clear h
  try simp only [en.down] at f7
  clear ih44; exact fL qaw
 rintro ⟨⟩
 clear ih44; exact fL qaw
theorem qen {s r} (h : q20 s = some r) : O.call 150 [v_s s] [] = some (v_s r,[]) := by
 revert h; unfold q20
 refine bs fun v2 h1 => ?_
 have f1 := z0b _ _ h1
 try simp only [en.down] at f1
 have f2 := jd 1 qj v2
 have f3 := bytesOf_map v2
 rintro ⟨⟩
 exact fF qaw
theorem zdx {b r} (h : q9k b = some r) : O.call 137 [AV.ptr 0 0] [(0,b_x (T.qm.enc b))] = some (AV.tup [v_g (T.Rx.enc r.1),v_i r.2.1],[(0,b_x (T.qm.enc r.2.2))]) := by
 revert h; unfold q9k
 refine bs fun v2 h1 => ?_
 have f1 := q3i h1
 try simp only [en.down] at f1
 refine bs fun v4 h3 => ?_
 have f2 := qen h3
 try simp only [en.down] at f2
 apply it <;> intro h5
 ·refine bc fun b7 h6 f3 f4 => ?_
  refine bs fun v9 h8 => ?_
  have f5 := qmg h8
  try simp only [en.down] at f5
  apply it <;> intro h10
  ·try simp only [h10] at f1 f2 f5
   rintro ⟨⟩
   exact fF qb9
  refine bs fun v12 h11 => ?_
  have f6 := qeb h11
  try simp only [en.down] at f6
  apply it <;> intro h13
  ·try simp only [h10] at f1 f2 f5 f6
   rintro ⟨⟩
   exact fF qb9
  try simp only [h10] at f1 f2 f5 f6
  rintro ⟨⟩
  exact fF qb9
 refine bs fun v15 h14 => ?_
 have f7 := qeb h14
 try simp only [en.down] at f7
 apply it <;> intro h16
 ·rintro ⟨⟩
  exact fF qb9
 rintro ⟨⟩
 exact fF qb9
theorem zn9 : ∀ p r,q6d p = some r → O.loop 139 0 ⟨[(0,AV.ptr 0 0),(4,v_i p.1),(5,v_i p.2.1)],[(0,b_x (T.qm.enc p.2.2))],1⟩ = some (Ex.normal,⟨[(4,v_i r.1),(5,v_i r.2.1)],[(0,b_x (T.qm.enc r.2.2))],1⟩) := by
 refine q6d.partial_correctness _ ?_
 rintro q6d ih47 ⟨n,many,r_⟩ r; dsimp only
 apply it <;> intro h1
 ·refine bs fun v3 h2 => ?_
  have f1 := q3i h2
  try simp only [en.down] at f1
  apply it <;> intro h4
  ·refine bc fun b6 h5 f2 f3 => ?_
   refine bs fun v8 h7 => ?_
   have f4 := q77 h7
   try simp only [en.down] at f4
   apply it <;> intro h9
   ·try simp only [h9] at f1 f4
    intro h; have f5 := ih47 _ _ h; clear h
    try simp only [en.down] at f5
    try simp only [h9] at f5
    clear ih47; exact fL q8y
   try simp only [h9] at f1 f4
   rintro ⟨⟩
   clear ih47; exact fL q8y
  rintro ⟨⟩
  clear ih47; exact fL q8y
 rintro ⟨⟩
 clear ih47; exact fL q8y
theorem qov {b r} (h : q8l b = some r) : O.call 139 [AV.ptr 0 0] [(0,b_x (T.qm.enc b))] = some (AV.tup [v_i r.1,v_b r.2.1],[(0,b_x (T.qm.enc r.2.2))]) := by
 revert h; unfold q8l
 refine bs fun v2 h1 => ?_
 have f1 := zn9 _ _ h1
 try simp only [en.down] at f1
 apply it <;> intro h3
 ·rintro ⟨⟩
  exact fF q8y
 rintro ⟨⟩
 exact fF q8y
theorem qng {x b r} (h : q7c x b = some r) : O.call 128 [AV.ptr 0 0,v_g (T.Rx.enc x)] [(0,b_x (T.qm.enc b))] = some (AV.tup [v_g (T.Rx.enc r.1),v_i r.2.1],[(0,b_x (T.qm.enc r.2.2))]) := by
 revert h; unfold q7c
 refine bs fun v2 h1 => ?_
 have f1 := xy h1
 try simp only [en.down] at f1
 apply it <;> intro h3
 ·refine bs fun v5 h4 => ?_
  have f2 := xy h4
  try simp only [en.down] at f2
  try simp only [h3] at f1 f2
  rintro ⟨⟩
  exact fF q0n
 refine bs fun v7 h6 => ?_
 have f3 := xy h6
 try simp only [en.down] at f3
 apply it <;> intro h8
 ·refine bs fun v10 h9 => ?_
  have f4 := xy h9
  try simp only [en.down] at f4
  try simp only [h3,h8] at f1 f3 f4
  rintro ⟨⟩
  exact fF q0n
 refine bs fun v12 h11 => ?_
 have f5 := xy h11
 try simp only [en.down] at f5
 apply it <;> intro h13
 ·refine bs fun v15 h14 => ?_
  have f6 := xy h14
  try simp only [en.down] at f6
  try simp only [h3,h8,h13] at f1 f3 f5 f6
  rintro ⟨⟩
  exact fF q0n
 refine bs fun v17 h16 => ?_
 have f7 := xy h16
 try simp only [en.down] at f7
 apply it <;> intro h18
 ·refine bs fun v20 h19 => ?_
  have f8 := qov h19
  try simp only [en.down] at f8
  apply it <;> intro h21
  ·try simp only [h3,h8,h13,h18] at f1 f3 f5 f7 f8
   rintro ⟨⟩
   exact fF q0n
  refine bs fun v23 h22 => ?_
  have f9 := xy h22
  try simp only [en.down] at f9
  apply it <;> intro h24
  ·refine bs fun v26 h25 => ?_
   have f10 := q3i h25
   try simp only [en.down] at f10
   apply it <;> intro h27
   ·refine bs fun v29 h28 => ?_
    have f11 := qov h28
    try simp only [en.down] at f11
    apply it <;> intro h30
    ·try simp only [h3,h8,h13,h18,h24] at f1 f3 f5 f7 f8 f9 f10 f11
     rintro ⟨⟩
     exact fF q0n
    refine bs fun v32 h31 => ?_
    have f12 := xy h31
    try simp only [en.down] at f12
    refine q6m ?_ ?_
    ·rintro (⟨h33,h34,h35⟩ | ⟨h33,h34,h35⟩)
     all_goals
     try simp only [h3,h8,h13,h18,h24] at f1 f3 f5 f7 f8 f9 f10 f11 f12
     rintro ⟨⟩
     exact fF q0n
    rintro (⟨h33,h34,h35⟩ | ⟨h33,h34,h35⟩)
    all_goals
    refine bs fun v39 h38 => ?_
    have f13 := xy h38
    try simp only [en.down] at f13
    try simp only [h3,h8,h13,h18,h24] at f1 f3 f5 f7 f8 f9 f10 f11 f12 f13
    rintro ⟨⟩
    exact fF q0n
   refine bs fun v41 h40 => ?_
   have f14 := xy h40
   try simp only [en.down] at f14
   apply it <;> intro h42
   ·try simp only [h3,h8,h13,h18,h24] at f1 f3 f5 f7 f8 f9 f10 f14
    rintro ⟨⟩
    exact fF q0n
   have f15 : (((-1) : Int) != ((-1) : Int)) = false := by decide
   refine bs fun v44 h43 => ?_
   have f16 := xy h43
   try simp only [en.down] at f16
   try simp only [h3,h8,h13,h18,h24] at f1 f3 f5 f7 f8 f9 f10 f14 f16
   rintro ⟨⟩
   exact fF q0n
  refine bs fun v46 h45 => ?_
  have f17 := xy h45
  try simp only [en.down] at f17
  refine q6m ?_ ?_
  ·rintro (⟨h47,h48,h49⟩ | ⟨h47,h48,h49⟩)
   all_goals
   try simp only [h3,h8,h13,h18,h24] at f1 f3 f5 f7 f8 f9 f17
   rintro ⟨⟩
   exact fF q0n
  rintro (⟨h47,h48,h49⟩ | ⟨h47,h48,h49⟩)
  all_goals
  refine bs fun v53 h52 => ?_
  have f18 := xy h52
  try simp only [en.down] at f18
  try simp only [h3,h8,h13,h18,h24] at f1 f3 f5 f7 f8 f9 f17 f18
  rintro ⟨⟩
  exact fF q0n
 try simp only [h3,h8,h13,h18] at f1 f3 f5 f7
 rintro ⟨⟩
 exact fF q0n
theorem zqe : ∀ p r,q2i p = some r → O.loop 129 0 ⟨[(0,v_i p.1),(1,v_l 8 T.Rx.enc p.2.1),(5,v_r 0 p.2.2.2),(6,v_i p.2.2.1)],[(0,b_r 8 T.Rx.enc p.2.2.2)],1⟩ = some (Ex.normal,⟨[(5,v_r 0 r)],[(0,b_r 8 T.Rx.enc r)],1⟩) := by
 refine q2i.partial_correctness _ ?_
 rintro q2i ih50 ⟨kind,xs,i,l⟩ r; dsimp only
 apply it <;> intro h1
 ·refine bg T.Rx.enc fun x3 h2 f1 f2 f3 => ?_
  apply it <;> intro h4
  ·have f4 := jd 8 T.Rx.enc x3.kids.l
   apply it <;> intro h5
   ·have f5 := rA T.Rx.enc h5
    intro h; have f6 := ih50 _ _ h; clear h
    try simp only [en.down] at f6
    clear ih50; exact fL qa8
   refine gd fun h6 => ?_
   have f7 := rB T.Rx.enc h5
   have f8 : (l ++ x3.kids.l).isEmpty = false := qmv h5
   have f9 : szc 8 (l ++ x3.kids.l) = 8 := q92 h5 _
   have f10 : List.map T.Rx.enc l ++ List.map T.Rx.enc x3.kids.l = List.map T.Rx.enc (l ++ x3.kids.l) := q7k _ _ _
   intro h; have f11 := ih50 _ _ h; clear h
   try simp only [en.down,f8,f9] at f11
   try simp only [f8,f9] at f11
   clear ih50; exact fL qa8
  refine gd fun h7 => ?_
  have f12 := rG 8 T.Rx.enc l
  have f13 : List.map T.Rx.enc l ++ [[PV.int IntKind.i64 x3.kind,PV.str x3.char,PV.bool x3.not,PV.sl x3.rows.nil (szc 2 x3.rows.l) (List.map T.Row.enc x3.rows.l),PV.int IntKind.i64 x3.min,PV.int IntKind.i64 x3.max,PV.bool x3.lazy,PV.sl x3.kids.nil (szc 8 x3.kids.l) (List.map T.Rx.enc x3.kids.l)]] = List.map T.Rx.enc (l ++ [x3]) := by simp only [List.map_append,List.map_cons,List.map_nil,zb,za,ze,T.Rx.qz] <;> rfl
  intro h; have f14 := ih50 _ _ h; clear h
  try simp only [en.down] at f14
  clear ih50; exact fL qa8
 rintro ⟨⟩
 clear ih50; exact fL qa8
theorem qob {kind xs r} (h : q7m kind xs = some r) : O.call 129 [v_i kind,v_l 8 T.Rx.enc xs] [] = some (v_l 8 T.Rx.enc r,[]) := by
 revert h; unfold q7m
 refine bs fun v2 h1 => ?_
 have f1 := zqe _ _ h1
 try simp only [en.down] at f1
 rintro ⟨⟩
 exact fF qa8
theorem z3h {xs r} (h : qb7 xs = some r) : O.call 114 [v_l 8 T.Rx.enc xs] [] = some (v_g (T.Rx.enc r),[]) := by
 revert h; unfold qb7
 refine bs fun v2 h1 => ?_
 have f1 := qob h1
 try simp only [en.down] at f1
 apply it <;> intro h3
 ·refine bg T.Rx.enc fun x5 h4 f2 f3 f4 => ?_
  rintro ⟨⟩
  exact fF qoa
 rintro ⟨⟩
 exact fF qoa
theorem zcl {xs r} (h : qc7 xs = some r) : O.call 116 [v_l 8 T.Rx.enc xs] [] = some (v_g (T.Rx.enc r),[]) := by
 revert h; unfold qc7
 refine bs fun v2 h1 => ?_
 have f1 := qob h1
 try simp only [en.down] at f1
 apply it <;> intro h3
 ·rintro ⟨⟩
  exact fF qfn
 apply it <;> intro h4
 ·refine bg T.Rx.enc fun x6 h5 f2 f3 f4 => ?_
  rintro ⟨⟩
  exact fF qfn
 rintro ⟨⟩
 exact fF qfn
def qnn : ((Int × T.qm × T.Rx × (List T.Rx)) ⊕ (Int × T.qm × T.Rx)) → Ex × St
 | .inl y => (Ex.ret,⟨[(4,AV.ptr 1 0),(5,v_i y.1)],[(0,b_x (T.qm.enc y.2.1)),(1,b_x (T.Rx.enc y.2.2.1)),(2,b_r 8 T.Rx.enc y.2.2.2)],3⟩)
 | .inr y => (Ex.ret,⟨[(4,AV.ptr 1 0),(5,v_i y.1)],[(0,b_x (T.qm.enc y.2.1)),(1,b_x (T.Rx.enc y.2.2)),(2,Blk.dead)],3⟩)
attribute [local go_sem] qnn
def qon (deep : Int) (t4 : T.Rx) (alts : (List T.Rx)) : ((Int × T.qm × T.Rx × (List T.Rx)) ⊕ (T.qm × (List T.Rx))) → Ex × St
 | .inl y => (Ex.ret,⟨[(0,AV.ptr 0 0),(1,v_i deep),(4,AV.ptr 1 0),(5,v_i y.1),(6,v_r 2 alts),(7,v_r 3 y.2.2.2)],[(0,b_x (T.qm.enc y.2.1)),(1,b_x (T.Rx.enc y.2.2.1)),(2,b_r 8 T.Rx.enc alts),(3,b_r 8 T.Rx.enc y.2.2.2)],4⟩)
 | .inr y => (Ex.normal,⟨[(0,AV.ptr 0 0),(1,v_i deep),(4,AV.ptr 1 0),(5,AV.undef),(6,v_r 2 alts),(7,v_r 3 y.2)],[(0,b_x (T.qm.enc y.1)),(1,b_x (T.Rx.enc t4)),(2,b_r 8 T.Rx.enc alts),(3,b_r 8 T.Rx.enc y.2)],4⟩)
attribute [local go_sem] qon
theorem z7c : (∀ p r,q1f p = some r → O.call 96 [AV.ptr 0 0,v_i p.1] [(0,b_x (T.qm.enc p.2))] = some (AV.tup [v_g (T.Rx.enc r.1),v_i r.2.1],[(0,b_x (T.qm.enc r.2.2))])) ∧ (∀ p r,q74 p = some r → O.loop 96 0 ⟨[(0,AV.ptr 0 0),(1,v_i p.1),(4,AV.ptr 1 0),(6,v_r 2 p.2.2.2)],[(0,b_x (T.qm.enc p.2.1)),(1,b_x (T.Rx.enc p.2.2.1)),(2,b_r 8 T.Rx.enc p.2.2.2)],3⟩ = some (qnn r)) ∧ (∀ p r,q68 p = some r → O.loop 96 2 ⟨[(0,AV.ptr 0 0),(1,v_i p.1),(4,AV.ptr 1 0),(6,v_r 2 p.2.2.2.1),(7,v_r 3 p.2.2.2.2)],[(0,b_x (T.qm.enc p.2.1)),(1,b_x (T.Rx.enc p.2.2.1)),(2,b_r 8 T.Rx.enc p.2.2.2.1),(3,b_r 8 T.Rx.enc p.2.2.2.2)],4⟩ = some (qon p.1 p.2.2.1 p.2.2.2.1 r)) ∧ (∀ p r,qcc p = some r → O.call 113 [AV.ptr 0 0,v_i p.1] [(0,b_x (T.qm.enc p.2))] = some (AV.tup [v_g (T.Rx.enc r.1),v_i r.2.1],[(0,b_x (T.qm.enc r.2.2))])) ∧ (∀ p r,q5v p = some r → O.call 127 [AV.ptr 0 0,v_i p.1] [(0,b_x (T.qm.enc p.2))] = some (AV.tup [v_g (T.Rx.enc r.1),v_i r.2.1],[(0,b_x (T.qm.enc r.2.2))])) := by
 refine q1f.mutual_partial_correctness _ _ _ _ _ ?_ ?_ ?_ ?_ ?_
 ·rintro q74 ih26 ⟨deep,b⟩ r; dsimp only
  refine bs fun v2 h1 => ?_
  have f1 := ih26 _ _ h1
  try simp only [en.down] at f1
  rcases v2 with y3 | y4
  ·dsimp only
   rintro ⟨⟩
   clear ih26; exact fF q2e
  dsimp only
  rintro ⟨⟩
  clear ih26; exact fF q2e
 ·rintro q74 q68 ih26 ih27 ⟨deep,r_,t4,alts⟩ r; dsimp only
  refine bs fun v2 h1 => ?_
  have f1 := ih27 _ _ h1
  try simp only [en.down] at f1
  rcases v2 with y3 | y4
  ·dsimp only
   rintro ⟨⟩
   clear ih26 ih27; exact fL q2e
  dsimp only
  refine bs fun v6 h5 => ?_
  have f2 := z3h h5
  try simp only [en.down] at f2
  refine gd fun h7 => ?_
  have f3 := rG 8 T.Rx.enc alts
  refine bs fun v9 h8 => ?_
  have f4 := xy h8
  try simp only [en.down] at f4
  apply it <;> intro h10
  ·have f5 : List.map T.Rx.enc alts ++ [[PV.int IntKind.i64 v6.kind,PV.str v6.char,PV.bool v6.not,PV.sl v6.rows.nil (szc 2 v6.rows.l) (List.map T.Row.enc v6.rows.l),PV.int IntKind.i64 v6.min,PV.int IntKind.i64 v6.max,PV.bool v6.lazy,PV.sl v6.kids.nil (szc 8 v6.kids.l) (List.map T.Rx.enc v6.kids.l)]] = List.map T.Rx.enc (alts ++ [v6]) := by simp only [List.map_append,List.map_cons,List.map_nil,zb,za,ze,T.Rx.qz] <;> rfl
   refine bs fun v12 h11 => ?_
   have f6 := zcl h11
   try simp only [en.down] at f6
   rintro ⟨⟩
   clear ih26 ih27; exact fL q2e
  have f7 : List.map T.Rx.enc alts ++ [[PV.int IntKind.i64 v6.kind,PV.str v6.char,PV.bool v6.not,PV.sl v6.rows.nil (szc 2 v6.rows.l) (List.map T.Row.enc v6.rows.l),PV.int IntKind.i64 v6.min,PV.int IntKind.i64 v6.max,PV.bool v6.lazy,PV.sl v6.kids.nil (szc 8 v6.kids.l) (List.map T.Rx.enc v6.kids.l)]] = List.map T.Rx.enc (alts ++ [v6]) := by simp only [List.map_append,List.map_cons,List.map_nil,zb,za,ze,T.Rx.qz] <;> rfl
  intro h; have f8 := ih26 _ _ h; clear h
  try simp only [en.down] at f8
  clear ih26 ih27; exact fL q2e
 ·rintro q68 qcc ih27 ih29 ⟨deep,r_,t4,alts,terms⟩ r; dsimp only
  apply it <;> intro h1
  ·refine bs fun v3 h2 => ?_
   have f1 := q3i h2
   try simp only [en.down] at f1
   apply it <;> intro h4
   ·apply it <;> intro h5
    ·refine bs fun v7 h6 => ?_
     have f2 := ih29 _ _ h6
     try simp only [en.down] at f2
     apply it <;> intro h8
     ·rintro ⟨⟩
      clear ih27 ih29; exact fL q2e
     refine gd fun h9 => ?_
     have f3 := rG 8 T.Rx.enc terms
     have f4 : List.map T.Rx.enc terms ++ [[PV.int IntKind.i64 v7.1.kind,PV.str v7.1.char,PV.bool v7.1.not,PV.sl v7.1.rows.nil (szc 2 v7.1.rows.l) (List.map T.Row.enc v7.1.rows.l),PV.int IntKind.i64 v7.1.min,PV.int IntKind.i64 v7.1.max,PV.bool v7.1.lazy,PV.sl v7.1.kids.nil (szc 8 v7.1.kids.l) (List.map T.Rx.enc v7.1.kids.l)]] = List.map T.Rx.enc (terms ++ [v7.1]) := by simp only [List.map_append,List.map_cons,List.map_nil,zb,za,ze,T.Rx.qz] <;> rfl
     intro h; have f5 := ih27 _ _ h; clear h
     try simp only [en.down] at f5
     clear ih27 ih29; exact fL q2e
    rintro ⟨⟩
    clear ih27 ih29; exact fL q2e
   rintro ⟨⟩
   clear ih27 ih29; exact fL q2e
  rintro ⟨⟩
  clear ih27 ih29; exact fL q2e
 ·rintro q5v ih31 ⟨deep,b⟩ r; dsimp only
  refine bs fun v2 h1 => ?_
  have f1 := xy h1
  try simp only [en.down] at f1
  apply it <;> intro h3
  ·try simp only [h3] at f1
   rintro ⟨⟩
   clear ih31; exact fF q5m
  refine bs fun v5 h4 => ?_
  have f2 := xy h4
  try simp only [en.down] at f2
  apply it <;> intro h6
  ·try simp only [h3,h6] at f1 f2
   rintro ⟨⟩
   clear ih31; exact fF q5m
  refine bs fun v8 h7 => ?_
  have f3 := q3i h7
  try simp only [en.down] at f3
  refine zl (fun h9 h10 => ?_) ?_
  ·refine bg qh fun x12 h11 f4 f5 f6 => ?_
   apply it <;> intro h13
   ·try simp only [h3,h6] at f1 f2 f3
    rintro ⟨⟩
    clear ih31; exact fF q5m
   apply it <;> intro h14
   ·try simp only [h3,h6] at f1 f2 f3
    rintro ⟨⟩
    clear ih31; exact fF q5m
   refine bs fun v16 h15 => ?_
   have f7 := ih31 _ _ h15
   try simp only [en.down] at f7
   apply it <;> intro h17
   ·try simp only [h3,h6] at f1 f2 f3 f7
    rintro ⟨⟩
    clear ih31; exact fF q5m
   refine bs fun v19 h18 => ?_
   have f8 := qng h18
   try simp only [en.down] at f8
   try simp only [h3,h6] at f1 f2 f3 f7 f8
   rintro ⟨⟩
   clear ih31; exact fF q5m
  rintro (⟨h9,h10⟩ | ⟨h9,h10⟩)
  all_goals
  refine bs fun v26 h25 => ?_
  have f9 := ih31 _ _ h25
  try simp only [en.down] at f9
  apply it <;> intro h27
  ·try simp only [h3,h6] at f1 f2 f3 f9
   rintro ⟨⟩
   clear ih31; exact fF q5m
  refine bs fun v29 h28 => ?_
  have f10 := qng h28
  try simp only [en.down] at f10
  try simp only [h3,h6] at f1 f2 f3 f9 f10
  rintro ⟨⟩
  clear ih31; exact fF q5m
 ·rintro q1f ih25 ⟨deep,b⟩ r; dsimp only
  refine bs fun v2 h1 => ?_
  have f1 := xy h1
  try simp only [en.down] at f1
  apply it <;> intro h3
  ·try simp only [h3] at f1
   rintro ⟨⟩
   clear ih25; exact fF ma
  refine bs fun v5 h4 => ?_
  have f2 := xy h4
  try simp only [en.down] at f2
  apply it <;> intro h6
  ·apply it <;> intro h7
   ·try simp only [h3,h6] at f1 f2
    rintro ⟨⟩
    clear ih25; exact fF ma
   refine bs fun v9 h8 => ?_
   have f3 := xy h8
   try simp only [en.down] at f3
   apply it <;> intro h10
   ·refine bs fun v12 h11 => ?_
    have f4 := xy h11
    try simp only [en.down] at f4
    apply it <;> intro h13
    ·try simp only [h3,h6,h10] at f1 f2 f3 f4
     rintro ⟨⟩
     clear ih25; exact fF ma
    refine bs fun v15 h14 => ?_
    have f5 := ih25 _ _ h14
    try simp only [en.down] at f5
    apply it <;> intro h16
    ·try simp only [h3,h6,h10] at f1 f2 f3 f4 f5
     rintro ⟨⟩
     clear ih25; exact fF ma
    refine bs fun v18 h17 => ?_
    have f6 := xy h17
    try simp only [en.down] at f6
    apply it <;> intro h19
    ·try simp only [h3,h6,h10] at f1 f2 f3 f4 f5 f6
     rintro ⟨⟩
     clear ih25; exact fF ma
    try simp only [h3,h6,h10] at f1 f2 f3 f4 f5 f6
    rintro ⟨⟩
    clear ih25; exact fF ma
   refine bs fun v21 h20 => ?_
   have f7 := ih25 _ _ h20
   try simp only [en.down] at f7
   apply it <;> intro h22
   ·try simp only [h3,h6,h10] at f1 f2 f3 f7
    rintro ⟨⟩
    clear ih25; exact fF ma
   refine bs fun v24 h23 => ?_
   have f8 := xy h23
   try simp only [en.down] at f8
   apply it <;> intro h25
   ·try simp only [h3,h6,h10] at f1 f2 f3 f7 f8
    rintro ⟨⟩
    clear ih25; exact fF ma
   try simp only [h3,h6,h10] at f1 f2 f3 f7 f8
   rintro ⟨⟩
   clear ih25; exact fF ma
  refine bs fun v27 h26 => ?_
  have f9 := xy h26
  try simp only [en.down] at f9
  apply it <;> intro h28
  ·refine bs fun v30 h29 => ?_
   have f10 := qr1 h29
   try simp only [en.down] at f10
   try simp only [h3,h6,h28] at f1 f2 f9 f10
   rintro ⟨⟩
   clear ih25; exact fF ma
  refine bs fun v32 h31 => ?_
  have f11 := xy h31
  try simp only [en.down] at f11
  apply it <;> intro h33
  ·refine bs fun v35 h34 => ?_
   have f12 := zdx h34
   try simp only [en.down] at f12
   try simp only [h3,h6,h28,h33] at f1 f2 f9 f11 f12
   rintro ⟨⟩
   clear ih25; exact fF ma
  refine bs fun v37 h36 => ?_
  have f13 := q3i h36
  try simp only [en.down] at f13
  refine ziy ?_ (fun h38 h39 h40 h41 h42 h43 => ?_)
  ·rintro (⟨h38,h39,h40,h41,h42,h43⟩ | ⟨h38,h39,h40,h41,h42,h43⟩ | ⟨h38,h39,h40,h41,h42,h43⟩ | ⟨h38,h39,h40,h41,h42,h43⟩ | ⟨h38,h39,h40,h41,h42,h43⟩ | ⟨h38,h39,h40,h41,h42,h43⟩)
   all_goals
   try simp only [h3,h6,h28,h33] at f1 f2 f9 f11 f13
   rintro ⟨⟩
   clear ih25; exact fF ma
  refine bs fun v45 h44 => ?_
  have f14 := q7p h44
  try simp only [en.down] at f14
  apply it <;> intro h46
  ·try simp only [h3,h6,h28,h33] at f1 f2 f9 f11 f13 f14
   rintro ⟨⟩
   clear ih25; exact fF ma
  try simp only [h3,h6,h28,h33] at f1 f2 f9 f11 f13 f14
  rintro ⟨⟩
  clear ih25; exact fF ma
theorem qvg {s r} (h : qa0 s = some r) : O.call 73 [v_s s] [] = some (AV.tup [v_g (T.Rx.enc r.1),v_i r.2],[]) := by
 revert h; unfold qa0
 apply it <;> intro h1
 ·rintro ⟨⟩
  exact fF qdv
 refine bs fun v3 h2 => ?_
 have f1 := qg4 h2
 try simp only [en.down] at f1
 refine bs fun v5 h4 => ?_
 have f2 := z7c.1 _ _ h4
 try simp only [en.down] at f2
 refine zl (fun h6 h7 => ?_) ?_
 ·have f3 : ((10 : Int) != (0 : Int)) = true := by decide
  rintro ⟨⟩
  exact fF qdv
 rintro (⟨h6,h7⟩ | ⟨h6,h7⟩)
 all_goals
 apply it <;> intro h9
 ·rintro ⟨⟩
  exact fF qdv
 rintro ⟨⟩
 exact fF qdv
theorem qjr {way r} (h : q8r way = some r) : O.call 117 [v_i way] [] = some (v_s r,[]) := by
 revert h; unfold q8r
 apply it <;> intro h1
 ·rintro ⟨⟩
  exact fF q9i
 apply it <;> intro h2
 ·rintro ⟨⟩
  exact fF q9i
 apply it <;> intro h3
 ·rintro ⟨⟩
  exact fF q9i
 apply it <;> intro h4
 ·rintro ⟨⟩
  exact fF q9i
 apply it <;> intro h5
 ·rintro ⟨⟩
  exact fF q9i
 rintro ⟨⟩
 exact fF q9i
def qlm (t4 : T.Fmt) (f : T.Fmt) : ((Int × Bool × T.Fmt × T.Fmt) ⊕ (Unit)) → Ex × St
 | .inl y => (Ex.ret,⟨[(4,AV.ptr 0 0),(5,v_i y.1),(6,v_b y.2.1)],[(0,b_x (T.Fmt.enc y.2.2.1)),(1,b_x (T.Fmt.enc y.2.2.2))],2⟩)
 | .inr y => (Ex.normal,⟨[(4,AV.ptr 0 0),(5,AV.undef),(6,AV.undef)],[(0,b_x (T.Fmt.enc t4)),(1,b_x (T.Fmt.enc f))],2⟩)
attribute [local go_sem] qlm
theorem znh : ∀ p r,q5t p = some r → O.loop 97 1 ⟨[(0,v_s p.1),(4,AV.ptr 0 0),(8,v_i p.2.1),(10,AV.ptr 1 0),(11,v_i p.2.2.1)],[(0,b_x (T.Fmt.enc p.2.2.2.1)),(1,b_x (T.Fmt.enc p.2.2.2.2))],2⟩ = some (qlm p.2.2.2.1 p.2.2.2.2 r) := by
 refine q5t.partial_correctness _ ?_
 rintro q5t ih55 ⟨s,end_,w,t4,f⟩ r; dsimp only
 apply it <;> intro h1
 ·refine bs fun v3 h2 => ?_
  have f1 := qjr h2
  try simp only [en.down] at f1
  refine gd fun h4 => ?_
  have f2 : (v3.length + 1 ≤ 2 ^ 62) = True := eq_true h4
  apply it <;> intro h5
  ·refine b2s fun r7 h6 f3 f4 f5 f6 f7 => ?_
   apply it <;> intro h8
   ·rintro ⟨⟩
    clear ih55; exact fL kr
   intro h; have f8 := ih55 _ _ h; clear h
   try simp only [en.down] at f8
   clear ih55; exact fL kr
  intro h; have f9 := ih55 _ _ h; clear h
  try simp only [en.down] at f9
  clear ih55; exact fL kr
 rintro ⟨⟩
 clear ih55; exact fL kr
theorem qhm {s at_ colon r} (h : q70 s at_ colon = some r) : O.call 98 [v_s s,v_i at_,v_b colon] [] = some (v_b r,[]) := by
 revert h; unfold q70
 refine bc fun b2 h1 f1 f2 => ?_
 refine xe ?_ (fun h3 h4 => ?_)
 ·rintro (⟨h3,h4⟩ | ⟨h3,h4⟩)
  all_goals
  rintro ⟨⟩
  exact fF qe2
 refine bc fun b6 h5 f3 f4 => ?_
 refine qfb ?_ (fun h7 h8 h9 h10 => ?_)
 ·rintro (⟨h7,h8,h9,h10⟩ | ⟨h7,h8,h9,h10⟩ | ⟨h7,h8,h9,h10⟩ | ⟨h7,h8,h9,h10⟩)
  all_goals
  rintro ⟨⟩
  exact fF qe2
 apply it <;> intro h11
 ·rintro ⟨⟩
  exact fF qe2
 rintro ⟨⟩
 exact fF qe2
theorem zdk : ∀ p r,q52 p = some r → O.loop 118 0 ⟨[(0,v_s p.1),(1,v_i p.2.1),(2,AV.pv (PV.int IntKind.u8 (p.2.2.1.toNat : Int))),(9,v_r 0 p.2.2.2)],[(0,b_r 1 qj p.2.2.2)],1⟩ = some (Ex.normal,⟨[(0,v_s p.1),(1,v_i r.1),(9,v_r 0 r.2)],[(0,b_r 1 qj r.2)],1⟩) := by
 refine q52.partial_correctness _ ?_
 rintro q52 ih58 ⟨s,at_,stop,b⟩ r; dsimp only
 apply it <;> intro h1
 ·refine bc fun b3 h2 f1 f2 => ?_
  apply it <;> intro h4
  ·refine bs fun v6 h5 => ?_
   have f3 := qhm h5
   try simp only [en.down] at f3
   apply it <;> intro h7
   ·refine bc fun b9 h8 f4 f5 => ?_
    refine gd fun h10 => ?_
    have f6 := rG 1 qj b
    have f7 : List.map qj b ++ [[PV.int IntKind.u8 (b9.toNat : Int)]] = List.map qj (b ++ [b9]) := by simp only [List.map_append,List.map_cons,List.map_nil,zb,za,ze,qj] <;> rfl
    try simp only [h7] at f3
    intro h; have f8 := ih58 _ _ h; clear h
    try simp only [en.down] at f8
    try simp only [h7] at f8
    clear ih58; exact fL q8k
   refine gd fun h11 => ?_
   have f9 := rG 1 qj b
   have f10 : List.map qj b ++ [[PV.int IntKind.u8 (b3.toNat : Int)]] = List.map qj (b ++ [b3]) := by simp only [List.map_append,List.map_cons,List.map_nil,zb,za,ze,qj] <;> rfl
   try simp only [h7] at f3
   intro h; have f11 := ih58 _ _ h; clear h
   try simp only [en.down] at f11
   try simp only [h7] at f11
   clear ih58; exact fL q8k
  rintro ⟨⟩
  clear ih58; exact fL q8k
 rintro ⟨⟩
 clear ih58; exact fL q8k
theorem qcb {s at_ stop r} (h : q3s s at_ stop = some r) : O.call 118 [v_s s,v_i at_,AV.pv (PV.int IntKind.u8 (stop.toNat : Int))] [] = some (AV.tup [v_s r.1,v_i r.2.1,v_b r.2.2],[]) := by
 revert h; unfold q3s
 refine bs fun v2 h1 => ?_
 have f1 := zdk _ _ h1
 try simp only [en.down] at f1
 apply it <;> intro h3
 ·rintro ⟨⟩
  exact fF q8k
 have f2 := jd 1 qj v2.2
 have f3 := bytesOf_map v2.2
 rintro ⟨⟩
 exact fF q8k
theorem zpl {s at_ r} (h : qbz s at_ = some r) : O.call 97 [v_s s,v_i at_] [] = some (AV.tup [v_g (T.Fmt.enc r.1),v_i r.2.1,v_b r.2.2],[]) := by
 revert h; unfold qbz
 refine bs fun v2 h1 => ?_
 have f1 := qhd h1
 try simp only [en.down] at f1
 apply it <;> intro h3
 ·try simp only [h3] at f1
  rintro ⟨⟩
  exact fF kr
 apply it <;> intro h4
 ·try simp only [h3] at f1
  rintro ⟨⟩
  exact fF kr
 refine bc fun b6 h5 f2 f3 => ?_
 apply it <;> intro h7
 ·try simp only [h3] at f1
  rintro ⟨⟩
  exact fF kr
 refine bs fun v9 h8 => ?_
 have f4 := qhd h8
 try simp only [en.down] at f4
 refine xe ?_ (fun h10 h11 => ?_)
 ·rintro (⟨h10,h11⟩ | ⟨h10,h11⟩)
  all_goals
  try simp only [h3] at f1 f4
  rintro ⟨⟩
  exact fF kr
 refine bc fun b13 h12 f5 f6 => ?_
 apply it <;> intro h14
 ·try simp only [h3] at f1 f4
  rintro ⟨⟩
  exact fF kr
 refine xe ?_ (fun h15 h16 => ?_)
 ·rintro (⟨h15,h16⟩ | ⟨h15,h16⟩)
  all_goals
  try simp only [h3] at f1 f4
  rintro ⟨⟩
  exact fF kr
 refine bc fun b18 h17 f7 f8 => ?_
 apply it <;> intro h19
 ·refine bs fun v21 h20 => ?_
  have f9 := znh _ _ h20
  try simp only [en.down] at f9
  rcases v21 with y22 | y23
  ·dsimp only
   try simp only [h3] at f1 f4 f9
   rintro ⟨⟩
   exact fF kr
  dsimp only
  try simp only [h3] at f1 f4 f9
  rintro ⟨⟩
  exact fF kr
 apply it <;> intro h24
 ·refine bs fun v26 h25 => ?_
  have f10 := qcb h25
  try simp only [en.down,UInt8.reduceToNat] at f10
  apply it <;> intro h27
  ·try simp only [h3] at f1 f4 f10
   rintro ⟨⟩
   exact fF kr
  try simp only [h3] at f1 f4 f10
  rintro ⟨⟩
  exact fF kr
 apply it <;> intro h28
 ·refine bs fun v30 h29 => ?_
  have f11 := qcb h29
  try simp only [en.down,UInt8.reduceToNat] at f11
  apply it <;> intro h31
  ·refine bs fun v33 h32 => ?_
   have f12 := qcb h32
   try simp only [en.down,UInt8.reduceToNat] at f12
   apply it <;> intro h34
   ·try simp only [h3,h31] at f1 f4 f11 f12
    rintro ⟨⟩
    exact fF kr
   try simp only [h3,h31] at f1 f4 f11 f12
   rintro ⟨⟩
   exact fF kr
  try simp only [h3,h31] at f1 f4 f11
  rintro ⟨⟩
  exact fF kr
 apply it <;> intro h35
 ·refine bs fun v37 h36 => ?_
  have f13 := qcb h36
  try simp only [en.down,UInt8.reduceToNat] at f13
  apply it <;> intro h38
  ·try simp only [h3] at f1 f4 f13
   rintro ⟨⟩
   exact fF kr
  try simp only [h3] at f1 f4 f13
  rintro ⟨⟩
  exact fF kr
 refine bs fun v40 h39 => ?_
 have f14 := qcb h39
 try simp only [en.down,UInt8.reduceToNat] at f14
 apply it <;> intro h41
 ·try simp only [h3] at f1 f4 f14
  rintro ⟨⟩
  exact fF kr
 try simp only [h3] at f1 f4 f14
 rintro ⟨⟩
 exact fF kr
theorem qd4 {c r_ r} (h : q1u c r_ = some r) : O.call 99 [v_r 0 r_,AV.pv (PV.int IntKind.u8 (c.toNat : Int))] [(0,b_r 5 T.Fmt.enc r_)] = some (v_r 0 r,[(0,b_r 5 T.Fmt.enc r)]) := by
 revert h; unfold q1u
 apply it <;> intro h1
 ·refine gd fun h2 => ?_
  have f1 := rG 5 T.Fmt.enc r_
  have f2 : List.map T.Fmt.enc r_ ++ [[PV.int IntKind.i64 (0 : Int),PV.int IntKind.i64 (0 : Int),PV.int IntKind.i64 (0 : Int),PV.str ([] : Bytes),PV.str ([] : Bytes)]] = List.map T.Fmt.enc (r_ ++ [(T.Fmt.mk (0 : Int) (0 : Int) (0 : Int) ([] : Bytes) ([] : Bytes))]) := by simp only [List.map_append,List.map_cons,List.map_nil,zb,za,ze,T.Fmt.qz] <;> rfl
  refine bw T.Fmt.enc fun x4 h3 f3 f4 f5 => ?_
  have f6 := jd 1 qj [c]
  try simp only [en.down] at f6
  have f7 := bytesOf_map [c]
  have f8 : bytesOf [[PV.int IntKind.u8 (c.toNat : Int)]] = some [c] := bytesOf_map [c]
  refine gd fun h5 => ?_
  have f9 : (x4.thn.length + 1 ≤ 2 ^ 62) = True := eq_true h5
  have f10 := map_set T.Fmt.enc (r_ ++ [(T.Fmt.mk (0 : Int) (0 : Int) (0 : Int) ([] : Bytes) ([] : Bytes))]) ((IntKind.i64.wrap (((r_ ++ [(T.Fmt.mk (0 : Int) (0 : Int) (0 : Int) ([] : Bytes) ([] : Bytes))]).length : Int) - (1 : Int))).toNat) (T.Fmt.mk x4.kind x4.n x4.cas (x4.thn ++ [c]) x4.els)
  try simp only [en.down] at f10
  rintro ⟨⟩
  exact fF qg7
 refine bW T.Fmt.enc 5 fun x7 h6 f11 f12 f13 f14 f15 => ?_
 apply it <;> intro h8
 ·refine gd fun h9 => ?_
  have f16 : List.map T.Fmt.enc r_ ++ [[PV.int IntKind.i64 (0 : Int),PV.int IntKind.i64 (0 : Int),PV.int IntKind.i64 (0 : Int),PV.str ([] : Bytes),PV.str ([] : Bytes)]] = List.map T.Fmt.enc (r_ ++ [(T.Fmt.mk (0 : Int) (0 : Int) (0 : Int) ([] : Bytes) ([] : Bytes))]) := by simp only [List.map_append,List.map_cons,List.map_nil,zb,za,ze,T.Fmt.qz] <;> rfl
  refine bw T.Fmt.enc fun x11 h10 f17 f18 f19 => ?_
  have f20 := jd 1 qj [c]
  try simp only [en.down] at f20
  have f21 := bytesOf_map [c]
  have f22 : bytesOf [[PV.int IntKind.u8 (c.toNat : Int)]] = some [c] := bytesOf_map [c]
  refine gd fun h12 => ?_
  have f23 : (x11.thn.length + 1 ≤ 2 ^ 62) = True := eq_true h12
  have f24 := map_set T.Fmt.enc (r_ ++ [(T.Fmt.mk (0 : Int) (0 : Int) (0 : Int) ([] : Bytes) ([] : Bytes))]) ((IntKind.i64.wrap (((r_ ++ [(T.Fmt.mk (0 : Int) (0 : Int) (0 : Int) ([] : Bytes) ([] : Bytes))]).length : Int) - (1 : Int))).toNat) (T.Fmt.mk x11.kind x11.n x11.cas (x11.thn ++ [c]) x11.els)
  try simp only [en.down] at f24
  try simp only [f14,f15] at f24
  rintro ⟨⟩
  exact fF qg7
 have f25 := jd 1 qj [c]
 try simp only [en.down] at f25
 have f26 := bytesOf_map [c]
 have f27 : bytesOf [[PV.int IntKind.u8 (c.toNat : Int)]] = some [c] := bytesOf_map [c]
 refine gd fun h13 => ?_
 have f28 : (x7.thn.length + 1 ≤ 2 ^ 62) = True := eq_true h13
 have f29 := map_set T.Fmt.enc r_ ((IntKind.i64.wrap ((r_.length : Int) - (1 : Int))).toNat) (T.Fmt.mk x7.kind x7.n x7.cas (x7.thn ++ [c]) x7.els)
 try simp only [en.down] at f29
 try simp only [f14,f15] at f29
 rintro ⟨⟩
 exact fF qg7
theorem qx2 : ∀ p r,q04 p = some r → O.loop 74 0 ⟨[(0,v_s p.1),(1,v_i p.2.1),(7,v_r 0 p.2.2)],[(0,b_r 5 T.Fmt.enc p.2.2)],1⟩ = some (Ex.normal,⟨[(0,v_s p.1),(1,v_i r.1),(7,v_r 0 r.2)],[(0,b_r 5 T.Fmt.enc r.2)],1⟩) := by
 refine q04.partial_correctness _ ?_
 rintro q04 ih53 ⟨s,at_,fs⟩ r; dsimp only
 apply it <;> intro h1
 ·refine bc fun b3 h2 f1 f2 => ?_
  apply it <;> intro h4
  ·apply it <;> intro h5
   ·refine bs fun v7 h6 => ?_
    have f3 := zpl h6
    try simp only [en.down] at f3
    apply it <;> intro h8
    ·refine gd fun h9 => ?_
     have f4 := rG 5 T.Fmt.enc fs
     have f5 : List.map T.Fmt.enc fs ++ [[PV.int IntKind.i64 v7.1.kind,PV.int IntKind.i64 v7.1.n,PV.int IntKind.i64 v7.1.cas,PV.str v7.1.thn,PV.str v7.1.els]] = List.map T.Fmt.enc (fs ++ [v7.1]) := by simp only [List.map_append,List.map_cons,List.map_nil,zb,za,ze,T.Fmt.qz] <;> rfl
     try simp only [h8] at f3
     intro h; have f6 := ih53 _ _ h; clear h
     try simp only [en.down] at f6
     try simp only [h8] at f6
     clear ih53; exact fL q2o
    refine bs fun v11 h10 => ?_
    have f7 := qhm h10
    try simp only [en.down] at f7
    apply it <;> intro h12
    ·refine bc fun b14 h13 f8 f9 => ?_
     refine bs fun v16 h15 => ?_
     have f10 := qd4 h15
     try simp only [en.down] at f10
     try simp only [h8,h12] at f3 f7 f10
     intro h; have f11 := ih53 _ _ h; clear h
     try simp only [en.down] at f11
     try simp only [h8,h12] at f11
     clear ih53; exact fL q2o
    refine bs fun v18 h17 => ?_
    have f12 := qd4 h17
    try simp only [en.down] at f12
    try simp only [h8,h12] at f3 f7 f12
    intro h; have f13 := ih53 _ _ h; clear h
    try simp only [en.down] at f13
    try simp only [h8,h12] at f13
    clear ih53; exact fL q2o
   refine bs fun v20 h19 => ?_
   have f14 := qhm h19
   try simp only [en.down] at f14
   apply it <;> intro h21
   ·refine bc fun b23 h22 f15 f16 => ?_
    refine bs fun v25 h24 => ?_
    have f17 := qd4 h24
    try simp only [en.down] at f17
    try simp only [h21] at f14 f17
    intro h; have f18 := ih53 _ _ h; clear h
    try simp only [en.down] at f18
    try simp only [h21] at f18
    clear ih53; exact fL q2o
   refine bs fun v27 h26 => ?_
   have f19 := qd4 h26
   try simp only [en.down] at f19
   try simp only [h21] at f14 f19
   intro h; have f20 := ih53 _ _ h; clear h
   try simp only [en.down] at f20
   try simp only [h21] at f20
   clear ih53; exact fL q2o
  rintro ⟨⟩
  clear ih53; exact fL q2o
 rintro ⟨⟩
 clear ih53; exact fL q2o
theorem zen {s at_ r} (h : qbd s at_ = some r) : O.call 74 [v_s s,v_i at_] [] = some (AV.tup [v_l 5 T.Fmt.enc r.1,v_i r.2.1,v_b r.2.2],[]) := by
 revert h; unfold qbd
 refine xe ?_ (fun h1 h2 => ?_)
 ·rintro (⟨h1,h2⟩ | ⟨h1,h2⟩)
  all_goals
  rintro ⟨⟩
  exact fF q2o
 refine bs fun v4 h3 => ?_
 have f1 := qx2 _ _ h3
 try simp only [en.down] at f1
 apply it <;> intro h5
 ·rintro ⟨⟩
  exact fF q2o
 rintro ⟨⟩
 exact fF q2o
def qjs (s : Bytes) (t4 : T.Form) (r1_ : (List UInt8)) (b2_ : T.Rx) : ((Int × Bool × Int × T.Form × T.Form) ⊕ (Int × T.Form)) → Ex × St
 | .inl y => (Ex.ret,⟨[(0,v_s s),(4,AV.ptr 0 0),(5,v_i y.1),(6,v_b y.2.1),(12,v_i y.2.2.1),(14,AV.ptr 3 0)],[(0,b_x (T.Form.enc y.2.2.2.1)),(1,b_r 1 qj r1_),(2,b_x (T.Rx.enc b2_)),(3,b_x (T.Form.enc y.2.2.2.2))],4⟩)
 | .inr y => (Ex.normal,⟨[(0,v_s s),(4,AV.ptr 0 0),(5,AV.undef),(6,AV.undef),(12,v_i y.1),(14,AV.ptr 3 0)],[(0,b_x (T.Form.enc t4)),(1,b_r 1 qj r1_),(2,b_x (T.Rx.enc b2_)),(3,b_x (T.Form.enc y.2))],4⟩)
attribute [local go_sem] qjs
theorem zmv : ∀ p r,q40 p = some r → O.loop 53 2 ⟨[(0,v_s p.1),(4,AV.ptr 0 0),(12,v_i p.2.1),(14,AV.ptr 3 0)],[(0,b_x (T.Form.enc p.2.2.1)),(1,b_r 1 qj p.2.2.2.1),(2,b_x (T.Rx.enc p.2.2.2.2.1)),(3,b_x (T.Form.enc p.2.2.2.2.2))],4⟩ = some (qjs p.1 p.2.2.1 p.2.2.2.1 p.2.2.2.2.1 r) := by
 refine q40.partial_correctness _ ?_
 rintro q40 ih61 ⟨s,end_,t4,r1_,b2_,f⟩ r; dsimp only
 apply it <;> intro h1
 ·refine bc fun b3 h2 f1 f2 => ?_
  apply it <;> intro h4
  ·refine zl (fun h5 h6 => ?_) ?_
   ·intro h; have f3 := ih61 _ _ h; clear h
    try simp only [en.down] at f3
    clear ih61; exact fL uf
   rintro (⟨h5,h6⟩ | ⟨h5,h6⟩)
   all_goals
   refine zl (fun h9 h10 => ?_) ?_
   ·intro h; have f4 := ih61 _ _ h; clear h
    try simp only [en.down] at f4
    clear ih61; exact fL uf
   rintro (⟨h9,h10⟩ | ⟨h9,h10⟩)
   all_goals
    rintro ⟨⟩
    clear ih61; exact fL uf
  rintro ⟨⟩
  clear ih61; exact fL uf
 rintro ⟨⟩
 clear ih61; exact fL uf
theorem zni {s at_ r} (h : qa5 s at_ = some r) : O.call 53 [v_s s,v_i at_] [] = some (AV.tup [v_g (T.Form.enc r.1),v_i r.2.1,v_b r.2.2],[]) := by
 revert h; unfold qa5
 refine xe ?_ (fun h1 h2 => ?_)
 ·rintro (⟨h1,h2⟩ | ⟨h1,h2⟩)
  all_goals
  rintro ⟨⟩
  exact fF uf
 refine bc fun b4 h3 f1 f2 => ?_
 apply it <;> intro h5
 ·rintro ⟨⟩
  exact fF uf
 refine bs fun v7 h6 => ?_
 have f3 := qyb _ _ h6
 try simp only [en.down] at f3
 apply it <;> intro h8
 ·rintro ⟨⟩
  exact fF uf
 have f4 := jd 1 qj v7.2
 have f5 := bytesOf_map v7.2
 refine bs fun v10 h9 => ?_
 have f6 := qvg h9
 try simp only [en.down] at f6
 apply it <;> intro h11
 ·rintro ⟨⟩
  exact fF uf
 refine bs fun v13 h12 => ?_
 have f7 := zen h12
 try simp only [en.down] at f7
 apply it <;> intro h14
 ·rintro ⟨⟩
  exact fF uf
 refine bs fun v16 h15 => ?_
 have f8 := zmv _ _ h15
 try simp only [en.down] at f8
 rcases v16 with y17 | y18
 ·dsimp only
  rintro ⟨⟩
  exact fF uf
 dsimp only
 apply it <;> intro h19
 ·rintro ⟨⟩
  exact fF uf
 rintro ⟨⟩
 exact fF uf
theorem zgx : ∀ p r,q46 p = some r → O.loop 54 0 ⟨[(0,AV.ptr 0 0),(1,v_i p.1),(6,v_r 3 p.2.2.2.2.1),(7,v_r 4 p.2.2.2.2.2)],[(0,Blk.box [v_s p.2.1,v_r 1 p.2.2.1,v_r 2 p.2.2.2.1]),(1,Blk.row false 18 (List.map T.qb.enc p.2.2.1)),(2,Blk.row false 1 (List.map qg p.2.2.2.1)),(3,b_r 1 qh p.2.2.2.2.1),(4,b_r 1 qj p.2.2.2.2.2)],5⟩ = some (Ex.normal,⟨[(0,AV.ptr 0 0),(1,v_i r.1),(6,v_r 3 r.2.1),(7,v_r 4 r.2.2)],[(0,Blk.box [v_s p.2.1,v_r 1 p.2.2.1,v_r 2 p.2.2.2.1]),(1,Blk.row false 18 (List.map T.qb.enc p.2.2.1)),(2,Blk.row false 1 (List.map qg p.2.2.2.1)),(3,b_r 1 qh r.2.1),(4,b_r 1 qj r.2.2)],5⟩) := by
 refine q46.partial_correctness _ ?_
 rintro q46 ih63 ⟨at_,r_,r1_,r2_,l,text⟩ r; dsimp only
 apply it <;> intro h1
 ·refine bc fun b3 h2 f1 f2 => ?_
  apply it <;> intro h4
  ·apply it <;> intro h5
   ·have f3 := jd 1 qj text
    have f4 := bytesOf_map text
    refine gd fun h6 => ?_
    have f5 := rG 1 qh l
    have f6 : List.map qh l ++ [[PV.str text]] = List.map qh (l ++ [text]) := by simp only [List.map_append,List.map_cons,List.map_nil,zb,za,ze,qh] <;> rfl
    intro h; have f7 := ih63 _ _ h; clear h
    try simp only [en.down] at f7
    clear ih63; exact fL q60
   refine bs fun v8 h7 => ?_
   have f8 := qf1 h7
   try simp only [en.down] at f8
   apply it <;> intro h9
   ·refine bc fun b11 h10 f9 f10 => ?_
    refine gd fun h12 => ?_
    have f11 := rG 1 qj text
    have f12 : List.map qj text ++ [[PV.int IntKind.u8 (b11.toNat : Int)]] = List.map qj (text ++ [b11]) := by simp only [List.map_append,List.map_cons,List.map_nil,zb,za,ze,qj] <;> rfl
    try simp only [h9] at f8
    intro h; have f13 := ih63 _ _ h; clear h
    try simp only [en.down] at f13
    try simp only [h9] at f13
    clear ih63; exact fL q60
   refine gd fun h13 => ?_
   have f14 := rG 1 qj text
   have f15 : List.map qj text ++ [[PV.int IntKind.u8 (b3.toNat : Int)]] = List.map qj (text ++ [b3]) := by simp only [List.map_append,List.map_cons,List.map_nil,zb,za,ze,qj] <;> rfl
   try simp only [h9] at f8
   intro h; have f16 := ih63 _ _ h; clear h
   try simp only [en.down] at f16
   try simp only [h9] at f16
   clear ih63; exact fL q60
  rintro ⟨⟩
  clear ih63; exact fL q60
 rintro ⟨⟩
 clear ih63; exact fL q60
theorem zs8 {at_ b r_ r_2 r} (h : qbs at_ b r_ r_2 = some r) : O.call 54 [AV.ptr 0 0,v_i at_] [(0,Blk.box [v_s b,v_r 1 r_,v_r 2 r_2]),(1,Blk.row false 18 (List.map T.qb.enc r_)),(2,Blk.row false 1 (List.map qg r_2))] = some (AV.tup [v_l 1 qh r.1,v_i r.2],[(0,Blk.box [v_s b,v_r 1 r_,v_r 2 r_2]),(1,Blk.row false 18 (List.map T.qb.enc r_)),(2,Blk.row false 1 (List.map qg r_2))]) := by
 revert h; unfold qbs
 refine bs fun v2 h1 => ?_
 have f1 := zgx _ _ h1
 try simp only [en.down] at f1
 apply it <;> intro h3
 ·rintro ⟨⟩
  exact fF q60
 have f2 := jd 1 qj v2.2.2
 have f3 := bytesOf_map v2.2.2
 refine gd fun h4 => ?_
 have f4 := rG 1 qh v2.2.1
 have f5 : List.map qh v2.2.1 ++ [[PV.str v2.2.2]] = List.map qh (v2.2.1 ++ [v2.2.2]) := by simp only [List.map_append,List.map_cons,List.map_nil,zb,za,ze,qh] <;> rfl
 rintro ⟨⟩
 exact fF q60
end Go.Proofs.YtdhgdeelagmbpaaGreat
