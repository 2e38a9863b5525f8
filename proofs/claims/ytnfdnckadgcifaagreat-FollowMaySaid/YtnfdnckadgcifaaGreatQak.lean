/-
  What the machine's calls come to: the plain functions.
-/
import Derived.Test.YtnfdnckadgcifaaGreatQag
import Derived.Test.YtnfdnckadgcifaaGreatQah
import Derived.Test.YtnfdnckadgcifaaGreatQai
import Derived.Test.YtnfdnckadgcifaaGreatQaj
open Go.Gm.AV renaming ptr->x?,pv->I?
open Go.Gm.Ex renaming normal->j?
open Go.Gm.PV renaming fn->W!
open List renaming length_set->y?
set_option linter.unusedSimpArgs false
set_option linter.unusedVariables false
set_option maxRecDepth 100000
namespace Go.Proofs.YtnfdnckadgcifaaGreat
open Go Go.Gm
set_option maxHeartbeats 4000000
instance:xL z7 fun(a,m,b,mid,n,start,r_,p_,data) r=>O.loop 141 8 ⟨[(0,qr 0 data),(1,qj a),(2,qj m),(3,qj b),(4,I? (W! 60)),(18,qj mid),(19,qj n),(20,qj start),(21,qj r_),(22,qj p_)],[(0,bm data)],1⟩=some (j?,⟨[(0,qr 0 data),(1,qj a),(2,qj m),(3,qj b),(4,I? (W! 60)),(18,qj mid),(19,qj n),(20,qj r)],[(0,bm data)],1⟩):=gP z7.partial_correctness fun _ _⟨_,_,_,_,_,_,_,_,_⟩=>gW
theorem jo: ∀p r,qv p=some r->r.length=p.2.2.2.length/\O.call 141 [qr 0 p.2.2.2,qj p.1,qj p.2.1,qj p.2.2.1,I? (W! 60)] [(0,bm p.2.2.2)]=some (AV.xW [],[(0,bm r)]):=by
 refine qv.partial_correctness _ ?_;rintro qv ro ⟨a,m,b,r_⟩ r;dsimp only;apply it<;>intro h1;{(refine bs fun v3 h2=>?_;have f1:=zl.ok _ h2;try simp only[en.down,xJ,xE,xG,xF]at f1);(refine bs fun v5 h4=>?_;obtain⟨QY,f2⟩:=kI _ _ h4;try simp only[y?]at QY);(try simp only[en.down,xJ,xE,xG,xF,QY]at f2);(try simp only[QY]at f1 f2);rintro⟨⟩;clear ro;exact⟨by first|rfl|(simp only[y?,QY];done),fF pB.h⟩};apply it<;>intro h6;{(refine bs fun v8 h7=>?_;have f3:=zl.ok _ h7;try simp only[en.down,xJ,xE,xG,xF]at f3);(refine bs fun v10 h9=>?_;obtain⟨f4L,f4⟩:=kJ _ _ h9;try simp only[y?]at f4L);(try simp only[en.down,xJ,xE,xG,xF,f4L]at f4);(try simp only[f4L]at f3 f4);rintro⟨⟩;clear ro;exact⟨by first|rfl|(simp only[y?,f4L];done),fF pB.h⟩};have f5:(0<=(1:Int))=True:=by decide
 apply it<;>intro h11
 ·(refine bs fun bO h12=>?_;have f6:=zl.ok _ h12;try simp only[en.down,xJ,xE,xG,xF]at f6);refine aN (fun XF h15=>?_) ?_
  ·(refine bs fun ax Sj=>?_;obtain⟨MM,f7⟩:=jC Sj;try simp only[y?]at MM);(try simp only[en.down,xJ,xE,xG,xF,MM]at f7);refine aN (fun h18 JT=>?_) ?_;{(refine bs fun MJ JU=>?_;obtain⟨f8L,f8⟩:=ro _ _ JU;try simp only[y?,MM]at f8L);(try simp only[en.down,xJ,xE,xG,xF,MM,f8L]at f8);refine aN (fun Jl h23=>?_) ?_;{(refine bs fun v25 h24=>?_;obtain⟨f9L,f9⟩:=ro _ _ h24;try simp only[y?,MM,f8L]at f9L);(try simp only[en.down,xJ,xE,xG,xF,MM,f8L,f9L]at f9);(try simp only[MM,f8L,f9L]at f6 f7 f8 f9);rintro⟨⟩;clear ro;exact⟨by first|rfl|(simp only[y?,MM,f8L,f9L];done),fF pB.h⟩};rintro(⟨Jl,h23⟩|⟨Jl,h23⟩);all_goals (try simp only[MM,f8L]at f6 f7 f8);rintro⟨⟩;clear ro;exact⟨by first|rfl|(simp only[y?,MM,f8L];done),fF pB.h⟩}
   rintro(⟨h18,JT⟩|⟨h18,JT⟩);all_goals 
   refine aN (fun h30 h31=>?_) ?_;{(refine bs fun v33 h32=>?_;obtain⟨VQ,f10⟩:=ro _ _ h32;try simp only[y?,MM]at VQ);(try simp only[en.down,xJ,xE,xG,xF,MM,VQ]at f10);(try simp only[MM,VQ]at f6 f7 f10);rintro⟨⟩;clear ro;exact⟨by first|rfl|(simp only[y?,MM,VQ];done),fF pB.h⟩}
   rintro(⟨h30,h31⟩|⟨h30,h31⟩);all_goals
    try simp only[MM]at f6 f7
    rintro⟨⟩;clear ro;exact⟨by first|rfl|(simp only[y?,MM];done),fF pB.h⟩
  rintro(⟨XF,h15⟩|⟨XF,h15⟩);all_goals 
  refine aN (fun h50 h51=>?_) ?_
  ·(refine bs fun v53 h52=>?_;obtain⟨VR,f11⟩:=ro _ _ h52;try simp only[y?]at VR);(try simp only[en.down,xJ,xE,xG,xF,VR]at f11);refine aN (fun h54 h55=>?_) ?_;{(refine bs fun v57 h56=>?_;obtain⟨f12L,f12⟩:=ro _ _ h56;try simp only[y?,VR]at f12L);(try simp only[en.down,xJ,xE,xG,xF,VR,f12L]at f12);(try simp only[VR,f12L]at f6 f11 f12);rintro⟨⟩;clear ro;exact⟨by first|rfl|(simp only[y?,VR,f12L];done),fF pB.h⟩}
   rintro(⟨h54,h55⟩|⟨h54,h55⟩);all_goals
    try simp only[VR]at f6 f11
    rintro⟨⟩;clear ro;exact⟨by first|rfl|(simp only[y?,VR];done),fF pB.h⟩
  rintro(⟨h50,h51⟩|⟨h50,h51⟩);all_goals
   refine aN (fun h62 h63=>?_) ?_
   ·refine bs fun v65 h64=>?_;obtain⟨f13L,f13⟩:=ro _ _ h64;try simp only[y?]at f13L
    try simp only[en.down,xJ,xE,xG,xF,f13L]at f13
    try simp only[f13L]at f6 f13
    rintro⟨⟩;clear ro;exact⟨by first|rfl|(simp only[y?,f13L];done),fF pB.h⟩
   rintro(⟨h62,h63⟩|⟨h62,h63⟩);all_goals
   rintro⟨⟩;clear ro;exact⟨by first|rfl|(simp only[y?];done),fF pB.h⟩
 refine bs fun Vp h66=>?_;have f14:=zl.ok _ h66;try simp only[en.down,xJ,xE,xG,xF]at f14
 refine aN (fun h68 h69=>?_) ?_
 ·(refine bs fun v71 h70=>?_;obtain⟨Qs,f15⟩:=jC h70;try simp only[y?]at Qs);(try simp only[en.down,xJ,xE,xG,xF,Qs]at f15);refine aN (fun h72 h73=>?_) ?_;{(refine bs fun v75 h74=>?_;obtain⟨BQ,f16⟩:=ro _ _ h74;try simp only[y?,Qs]at BQ);(try simp only[en.down,xJ,xE,xG,xF,Qs,BQ]at f16);refine aN (fun h76 h77=>?_) ?_;{(refine bs fun v79 h78=>?_;obtain⟨f17L,f17⟩:=ro _ _ h78;try simp only[y?,Qs,BQ]at f17L);(try simp only[en.down,xJ,xE,xG,xF,Qs,BQ,f17L]at f17);(try simp only[Qs,BQ,f17L]at f14 f15 f16 f17);rintro⟨⟩;clear ro;exact⟨by first|rfl|(simp only[y?,Qs,BQ,f17L];done),fF pB.h⟩};rintro(⟨h76,h77⟩|⟨h76,h77⟩);all_goals (try simp only[Qs,BQ]at f14 f15 f16);rintro⟨⟩;clear ro;exact⟨by first|rfl|(simp only[y?,Qs,BQ];done),fF pB.h⟩}
  rintro(⟨h72,h73⟩|⟨h72,h73⟩);all_goals 
  refine aN (fun h84 h85=>?_) ?_;{(refine bs fun v87 h86=>?_;obtain⟨f18L,f18⟩:=ro _ _ h86;try simp only[y?,Qs]at f18L);(try simp only[en.down,xJ,xE,xG,xF,Qs,f18L]at f18);(try simp only[Qs,f18L]at f14 f15 f18);rintro⟨⟩;clear ro;exact⟨by first|rfl|(simp only[y?,Qs,f18L];done),fF pB.h⟩}
  rintro(⟨h84,h85⟩|⟨h84,h85⟩);all_goals
   try simp only[Qs]at f14 f15
   rintro⟨⟩;clear ro;exact⟨by first|rfl|(simp only[y?,Qs];done),fF pB.h⟩
 rintro(⟨h68,h69⟩|⟨h68,h69⟩);all_goals 
 refine aN (fun h104 h105=>?_) ?_
 ·(refine bs fun v107 h106=>?_;obtain⟨BR,f19⟩:=ro _ _ h106;try simp only[y?]at BR);(try simp only[en.down,xJ,xE,xG,xF,BR]at f19);refine aN (fun h108 h109=>?_) ?_;{(refine bs fun v111 h110=>?_;obtain⟨DQ,f20⟩:=ro _ _ h110;try simp only[y?,BR]at DQ);(try simp only[en.down,xJ,xE,xG,xF,BR,DQ]at f20);(try simp only[BR,DQ]at f14 f19 f20);rintro⟨⟩;clear ro;exact⟨by first|rfl|(simp only[y?,BR,DQ];done),fF pB.h⟩}
  rintro(⟨h108,h109⟩|⟨h108,h109⟩);all_goals
   try simp only[BR]at f14 f19
   rintro⟨⟩;clear ro;exact⟨by first|rfl|(simp only[y?,BR];done),fF pB.h⟩
 rintro(⟨h104,h105⟩|⟨h104,h105⟩);all_goals
  refine aN (fun h116 h117=>?_) ?_
  ·refine bs fun v119 h118=>?_;obtain⟨f21L,f21⟩:=ro _ _ h118;try simp only[y?]at f21L
   try simp only[en.down,xJ,xE,xG,xF,f21L]at f21
   try simp only[f21L]at f14 f21
   rintro⟨⟩;clear ro;exact⟨by first|rfl|(simp only[y?,f21L];done),fF pB.h⟩
  rintro(⟨h116,h117⟩|⟨h116,h117⟩);all_goals
  rintro⟨⟩;clear ro;exact⟨by first|rfl|(simp only[y?];done),fF pB.h⟩
instance(p):zl (qv p) (fun r=>r.length=p.2.2.2.length/\O.call 141 [qr 0 p.2.2.2,qj p.1,qj p.2.1,qj p.2.2.1,I? (W! 60)] [(0,bm p.2.2.2)]=some (AV.xW [],[(0,bm r)])):=⟨fun r=>jo p r⟩
instance:xL wo fun(Ii,CY,l7,out) r=>O.loop 34 0 ⟨[(4,qr 1 out),(14,qr 0 l7),(15,qj Ii),(16,qj CY)],[(0,bm l7),(1,br out)],2⟩=some (j?,⟨[(4,qr 1 r)],[(0,bm l7),(1,br r)],2⟩):=gP wo.partial_correctness fun _ _⟨_,_,_,_⟩=>gW
@[go_sem] def dr (k:Int) (i:qu):((Bool)⊕(Unit))->Ex×St
 | .inl y=>(Ex.ret,⟨[(1,qj k),(2,x? 0 0),(4,zD y)],[(0,bb i)],1⟩)
 | .inr y=>(j?,⟨[(1,qj k),(2,x? 0 0),(4,AV.undef)],[(0,bb i)],1⟩)
instance:xL jX fun(k,u,i) r=>O.loop 35 0 ⟨[(1,qj k),(2,x? 0 0),(5,qj u)],[(0,bb i)],1⟩=some (dr k i r):=gP jX.partial_correctness fun _ _⟨_,_,_⟩=>gW
instance(i k):zl (gG i k) (fun r=>O.call 35 [vv i,qj k] []=some (zD r,[])):=⟨by unfold gG;exact gW⟩
instance:xL uo fun(l,text,i,es) r=>O.loop 71 0 ⟨[(0,vv l),(1,qS text),(5,qr 0 es),(6,qj i)],[(0,br es)],1⟩=some (j?,⟨[(5,qr 0 r)],[(0,br r)],1⟩):=gP uo.partial_correctness fun _ _⟨_,_,_,_⟩=>gW
end Go.Proofs.YtnfdnckadgcifaaGreat
