/-
  What the machine's calls come to: the plain functions.
-/
import Derived.Test.YtnfdnckadgcifaaGreatQag
import Derived.Test.YtnfdnckadgcifaaGreatQaj
import Derived.Test.YtnfdnckadgcifaaGreatQam
import Derived.Test.YtnfdnckadgcifaaGreatQao
import Derived.Test.YtnfdnckadgcifaaGreatQap
open Go.Gm.AV renaming ptr->x?,undef->Q?
open Go.Gm.Ex renaming normal->j?,ret->x!
open Go.IntKind renaming u8->R?
set_option linter.unusedSimpArgs false
set_option linter.unusedVariables false
set_option maxRecDepth 100000
namespace Go.Proofs.YtnfdnckadgcifaaGreat
open Go Go.Gm
set_option maxHeartbeats 4000000
@[go_sem] def fH (s:qa) (t4:zo) (zr:(List UInt8)) (Bu:qF):((Int×Bool×Int×zo×zo)⊕(Int×zo))->Ex×St
 | .inl y=>(x!,⟨[(0,qS s),(4,x? 0 0),(5,qj y.1),(6,zD y.2.1),(12,qj y.2.2.1),(14,x? 3 0)],[(0,bb y.2.2.2.1),(1,br zr),(2,bb Bu),(3,bb y.2.2.2.2)],4⟩)
 | .inr y=>(j?,⟨[(0,qS s),(4,x? 0 0),(5,Q?),(6,Q?),(12,qj y.1),(14,x? 3 0)],[(0,bb t4),(1,br zr),(2,bb Bu),(3,bb y.2)],4⟩)
instance:xL vL fun(s,end_,t4,zr,Bu,f) r=>O.loop 161 2 ⟨[(0,qS s),(4,x? 0 0),(12,qj end_),(14,x? 3 0)],[(0,bb t4),(1,br zr),(2,bb Bu),(3,bb f)],4⟩=some (fH s t4 zr Bu r):=gP vL.partial_correctness fun _ _⟨_,_,_,_,_,_⟩=>gW
theorem lO:(∀ p r,np p=some r->O.call 112 [vv p] []=some (qj r,[]))/\(∀ p r,wm p=some r->match p with|(l,n,i)=>O.loop 112 0 ⟨[(0,vv l),(3,qj n),(4,qj i)],[],0⟩=some (j?,⟨[(3,qj r)],[],0⟩)):=by refine np.mutual_partial_correctness _ _ ?_ ?_;intro wm i;have j331:=fun p=>zl.mk (i p);clear i;rintro _;exact gW;intro np wm i330 i331;have j330:=fun p=>zl.mk (i330 p);clear i330;have j331:=fun p=>zl.mk (i331 p);clear i331;rintro⟨_,_,_⟩;exact gW
instance(p):zl (np p) (fun r=>O.call 112 [vv p] []=some (qj r,[])):=⟨fun r=>lO.1 p r⟩
instance(p):zl (wm p) (fun r=>match p with|(l,n,i)=>O.loop 112 0 ⟨[(0,vv l),(3,qj n),(4,qj i)],[],0⟩=some (j?,⟨[(3,qj r)],[],0⟩)):=⟨fun r=>lO.2 p r⟩
@[go_sem] def aU (a:qF) (b:qF):((Bool)⊕(Unit))->Ex×St
 | .inl y=>(x!,⟨[(2,x? 0 0),(3,x? 1 0),(4,zD y)],[(0,bb a),(1,bb b)],2⟩)
 | .inr y=>(j?,⟨[(2,x? 0 0),(3,x? 1 0),(4,Q?)],[(0,bb a),(1,bb b)],2⟩)
instance:xL pZ fun(i,a,b) r=>O.loop 269 0 ⟨[(2,x? 0 0),(3,x? 1 0),(5,qj i)],[(0,bb a),(1,bb b)],2⟩=some (aU a b r):=gP pZ.partial_correctness fun _ _⟨_,_,_⟩=>gW
@[go_sem] def rR (a:qF) (b:qF):((Bool)⊕(Unit))->Ex×St
 | .inl y=>(x!,⟨[(4,zD y)],[(0,bb a),(1,bb b)],2⟩)
 | .inr y=>(j?,⟨[(4,Q?)],[(0,bb a),(1,bb b)],2⟩)
theorem lN:(∀ p r,mL p=some r->match p with|(a,b)=>O.call 269 [vv a,vv b] []=some (zD r,[]))/\(∀ p r,gR p=some r->match p with|(i,a,b)=>O.loop 269 2 ⟨[(2,x? 0 0),(3,x? 1 0),(6,qj i)],[(0,bb a),(1,bb b)],2⟩=some (rR a b r)):=by refine mL.mutual_partial_correctness _ _ ?_ ?_;intro gR i;have j339:=fun p=>zl.mk (i p);clear i;rintro⟨_,_⟩;exact gW;intro mL gR i337 i339;have j337:=fun p=>zl.mk (i337 p);clear i337;have j339:=fun p=>zl.mk (i339 p);clear i339;rintro⟨_,_,_⟩;exact gW
instance(p):zl (mL p) (fun r=>match p with|(a,b)=>O.call 269 [vv a,vv b] []=some (zD r,[])):=⟨fun r=>lN.1 p r⟩
instance(p):zl (gR p) (fun r=>match p with|(i,a,b)=>O.loop 269 2 ⟨[(2,x? 0 0),(3,x? 1 0),(6,qj i)],[(0,bb a),(1,bb b)],2⟩=some (rR a b r)):=⟨fun r=>lN.2 p r⟩
@[go_sem] def sw (a:zo) (b:zo):((Bool)⊕(Unit))->Ex×St
 | .inl y=>(x!,⟨[(4,zD y)],[(0,bb a),(1,bb b)],2⟩)
 | .inr y=>(j?,⟨[(4,Q?)],[(0,bb a),(1,bb b)],2⟩)
instance:xL gv fun(i,a,b) r=>O.loop 216 0 ⟨[(2,x? 0 0),(3,x? 1 0),(5,qj i)],[(0,bb a),(1,bb b)],2⟩=some (sw a b r):=gP gv.partial_correctness fun _ _⟨_,_,_⟩=>gW
instance(a b):zl (ux a b) (fun r=>O.call 216 [vv a,vv b] []=some (zD r,[])):=⟨by unfold ux;exact gW⟩
@[go_sem] def sV:((Bool)⊕(Unit))->Ex×St
 | .inl y=>(x!,⟨[(2,zD y)],[],0⟩)
 | .inr y=>(j?,⟨[(2,Q?)],[],0⟩)
theorem eD:(∀ p r,bD p=some r->O.call 165 [vv p] []=some (zD r,[]))/\(∀ p r,zJ p=some r->match p with|(l,i)=>O.loop 165 0 ⟨[(0,vv l),(3,qj i)],[],0⟩=some (sV r))/\(∀ p r,kO p=some r->O.call 217 [vv p] []=some (zD r,[])):=by refine bD.mutual_partial_correctness _ _ _ ?_ ?_ ?_;intro zJ i;have j335:=fun p=>zl.mk (i p);clear i;rintro _;exact gW;intro zJ kO i335 i341;have j335:=fun p=>zl.mk (i335 p);clear i335;have j341:=fun p=>zl.mk (i341 p);clear i341;rintro⟨_,_⟩;exact gW;intro bD i;have j334:=fun p=>zl.mk (i p);clear i;rintro _;exact gW
instance(p):zl (bD p) (fun r=>O.call 165 [vv p] []=some (zD r,[])):=⟨fun r=>eD.1 p r⟩
instance(p):zl (zJ p) (fun r=>match p with|(l,i)=>O.loop 165 0 ⟨[(0,vv l),(3,qj i)],[],0⟩=some (sV r)):=⟨fun r=>eD.2.1 p r⟩
instance(p):zl (kO p) (fun r=>O.call 217 [vv p] []=some (zD r,[])):=⟨fun r=>eD.2.2 p r⟩
instance(l):zl (dL l) (fun r=>O.call 113 [vv l] []=some (zD r,[])):=⟨by unfold dL;exact gW⟩
@[go_sem] def ir:((qa×Bool)⊕(Unit))->Ex×St
 | .inl y=>(x!,⟨[(4,qS y.1),(5,zD y.2)],[],0⟩)
 | .inr y=>(j?,⟨[(4,Q?),(5,Q?)],[],0⟩)
instance:xL vB fun(name,env,i) r=>O.loop 114 0 ⟨[(0,qS name),(1,vv env),(6,qj i)],[],0⟩=some (ir r):=gP vB.partial_correctness fun _ _⟨_,_,_⟩=>gW
instance(name env):zl (u9 name env) (fun r=>O.call 114 [qS name,vv env] []=some (AV.xW [qS r.1,zD r.2],[])):=⟨by unfold u9;exact gW⟩
instance:xL uz fun(s,env,line,a,b,sG,Qq,qZ,out,pY) r=>O.loop 115 0 ⟨[(0,qS s),(2,vv env),(9,qr 3 out),(10,qj line),(16,qj a),(17,qj b)],[(0,bb sG),(1,bb Qq),(2,bm qZ),(3,bm out),(4,bm pY)],5⟩=some (j?,⟨[(0,qS s),(2,vv env),(9,qr 3 out),(10,qj line),(16,qj r),(17,qj b)],[(0,bb sG),(1,bb Qq),(2,bm qZ),(3,bm out),(4,bm pY)],5⟩):=gP uz.partial_correctness fun _ _⟨_,_,_,_,_,_,_,_,_,_⟩=>gW
instance:xL uA fun(s,env,line,a,b,sG,Qq,qZ,out,pY) r=>O.loop 115 2 ⟨[(0,qS s),(2,vv env),(9,qr 3 out),(10,qj line),(16,qj a),(17,qj b)],[(0,bb sG),(1,bb Qq),(2,bm qZ),(3,bm out),(4,bm pY)],5⟩=some (j?,⟨[(0,qS s),(2,vv env),(9,qr 3 out),(10,qj line),(16,qj a),(17,qj r)],[(0,bb sG),(1,bb Qq),(2,bm qZ),(3,bm out),(4,bm pY)],5⟩):=gP uA.partial_correctness fun _ _⟨_,_,_,_,_,_,_,_,_,_⟩=>gW
instance:xL uZ fun(n,s,K7) r=>O.loop 166 0 ⟨[(0,qj n),(3,qS s)],[(0,bm K7)],1⟩=some (j?,⟨[(3,qS r)],[(0,bm K7)],1⟩):=gP uZ.partial_correctness fun _ _⟨_,_,_⟩=>gW
instance(n):zl (kc n) (fun r=>O.call 166 [qj n] []=some (qS r,[])):=⟨by unfold kc;exact gW⟩
instance:xL gT fun(s,c,k) r=>O.loop 167 0 ⟨[(0,qS s),(1,AV.pv (PV.int R? (c.toNat:Int))),(5,qj k)],[],0⟩=some (j?,⟨[(5,qj r)],[],0⟩):=gP gT.partial_correctness fun _ _⟨_,_,_⟩=>gW
instance(s c):zl (wx s c) (fun r=>O.call 167 [qS s,AV.pv (PV.int R? (c.toNat:Int))] []=some (qj r,[])):=⟨by unfold wx;exact gW⟩
instance:xL wV fun(s,env,line,a,b,sG,Qq,qZ,out) r=>O.loop 115 0 ⟨[(0,qS s),(2,vv env),(9,qr 3 out),(10,qj line),(16,qj a),(17,qj b)],[(0,bb sG),(1,bb Qq),(2,bm qZ),(3,bm out)],4⟩=some (j?,⟨[(0,qS s),(2,vv env),(9,qr 3 out),(10,qj line),(16,qj r),(17,qj b)],[(0,bb sG),(1,bb Qq),(2,bm qZ),(3,bm out)],4⟩):=gP wV.partial_correctness fun _ _⟨_,_,_,_,_,_,_,_,_⟩=>gW
instance:xL wW fun(s,env,line,a,b,sG,Qq,qZ,out) r=>O.loop 115 2 ⟨[(0,qS s),(2,vv env),(9,qr 3 out),(10,qj line),(16,qj a),(17,qj b)],[(0,bb sG),(1,bb Qq),(2,bm qZ),(3,bm out)],4⟩=some (j?,⟨[(0,qS s),(2,vv env),(9,qr 3 out),(10,qj line),(16,qj a),(17,qj r)],[(0,bb sG),(1,bb Qq),(2,bm qZ),(3,bm out)],4⟩):=gP wW.partial_correctness fun _ _⟨_,_,_,_,_,_,_,_,_⟩=>gW
instance:xL vQ fun(s,qO,qo) r=>O.loop 117 0 ⟨[(0,qS s),(6,qj qO),(8,qj qo)],[],0⟩=some (j?,⟨[(0,qS s),(6,qj qO),(8,qj r)],[],0⟩):=gP vQ.partial_correctness fun _ _⟨_,_,_⟩=>gW
instance(s line):zl (cY s line) (fun r=>O.call 117 [qS s,qj line] []=some (AV.xW [qS r.1,qj r.2],[])):=⟨by unfold cY;exact gW⟩
instance:xL xz fun(s,lead,unit,behind,i,b) r=>O.loop 219 0 ⟨[(0,qS s),(1,qS lead),(2,qS unit),(7,qr 0 b),(8,zD behind),(9,qj i)],[(0,br b)],1⟩=some (j?,⟨[(7,qr 0 r)],[(0,br r)],1⟩):=gP xz.partial_correctness fun _ _⟨_,_,_,_,_,_⟩=>gW
instance(s lead unit):zl (bR s lead unit) (fun r=>O.call 219 [qS s,qS lead,qS unit] []=some (qS r,[])):=⟨by unfold bR;exact gW⟩
instance:xL xw fun(is,ns,zero,i,k) r=>O.loop 119 2 ⟨[(0,vv is),(3,vv ns),(4,zD zero),(5,qj i),(6,qj k)],[],0⟩=some (j?,⟨[(0,vv is),(3,vv r.1),(4,zD r.2),(5,qj i)],[],0⟩):=gP xw.partial_correctness fun _ _⟨_,_,_,_,_⟩=>gW
end Go.Proofs.YtnfdnckadgcifaaGreat
