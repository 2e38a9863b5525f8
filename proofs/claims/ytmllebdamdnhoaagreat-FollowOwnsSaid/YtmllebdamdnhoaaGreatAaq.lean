/-
  FollowOwns: which stop owns a stretch, whether a session stays: the program tells what the document tells.
-/
import Derived.Test.YtmllebdamdnhoaaGreatAap
import Derived.Test.YtmllebdamdnhoaaGreatAan
set_option linter.unusedSimpArgs false
set_option linter.unusedVariables false
namespace Go.Proofs.YtmllebdamdnhoaaGreat
open Go Go.Gm
theorem Ij{A B C D E F G H I J:Type}{o:Option (A×B×C×D×E×F×G×H×I×J)}{Q:A×B×C×D×E×F×G×H×I×J->Prop}(h:qG o Q):
  qG (o>>=fun v=>some (v.1,v.2.1,v.2.2.1,v.2.2.2.1,v.2.2.2.2.1,v.2.2.2.2.2.1,v.2.2.2.2.2.2.1,v.2.2.2.2.2.2.2.1,v.2.2.2.2.2.2.2.2.1,v.2.2.2.2.2.2.2.2.2)) Q:=qG.bind h fun v hv=> .ret hv
section
variable {env:Sl qt} {lead unit:qa} {P:List Pt} {ds:List Int} {nm:List qa}
def OfQ(env:Sl qt)(lead unit:qa)(P:List Pt)(ds:List Int)(nm:List qa)(i:Nat)(x:Pt)(ns:List Int)(ts:List qa)(v:qa×Int×Sl qt×qa×qa×List Pt×List Int×List qa×List Int×List qa):Prop:=
 v.1.length<=17592186044416/\(v.2.1=0-> ∃a b,v.2.2=(env,lead,unit,P,ds,nm,ns++a,ts++b)/\uS P (ns++a) (ts++b)/\(∀ m∈a,x.kind=1/\(m=x.n\/Relation.TransGen (Holds P) x.n m))/\DA P (ns++a) (ts++b) i v.1)
def TextQ(env:Sl qt)(lead unit:qa)(P:List Pt)(ds:List Int)(nm:List qa)(n:Int)(ns:List Int)(ts:List qa)(v:qa×Int×Sl qt×qa×qa×List Pt×List Int×List qa×List Int×List qa):Prop:=
 v.2.1=0-> ∃a b,v.2.2=(env,lead,unit,P,ds,nm,ns++a,ts++b)/\uS P (ns++a) (ts++b)/\(∀ m∈a,Relation.TransGen (Holds P) n m)/\Txt P (ns++a) (ts++b) n v.1/\v.1.length<=65536
theorem Zk(hP:Good P)(hN:VT P)(i:Nat)(x:Pt)(hx:P[i]? =some x)(ns:List Int)(ts:List qa)(hM:uS P ns ts)
  (htxt:x.kind=1->qG (vA (x.n,env,lead,unit,P,ds,nm,ns,ts)) (TextQ env lead unit P ds nm x.n ns ts)):
  qG (xH ((i:Int),env,lead,unit,P,ds,nm,ns,ts)) (OfQ env lead unit P ds nm i x ns ts):=by
 have hl:=hP.len;have fC:=(qF hx).1;have Tq:=qX hx;have hg:=hP.ok x Tq;have wV:=hM.Kh;have hlen:=hM.len;rw[xH.eq_1];refine .go (a:=x) (by rw[j8 fC];simpa[kU fC]using hx) ?_;refine .tI ?_ ?_<;>intro hT
 ·have k1:=hT;refine .bind (Gp x.n ns ts (by omega) hlen) fun v hv=>?_;refine .tI ?_ ?_<;>intro hT
  ·have Yt:=hT;have hn:x.n∉ns:=by
    rcases hv with ⟨_,h⟩|⟨k,t,rfl,_⟩
    ·exact h
    omega
   refine .bind (htxt k1) fun w hw=>?_;refine .tI ?_ ?_<;>intro hT
   ·exact .ret ⟨by simp,fun h=>absurd h hT⟩
   have hw0:=hT;obtain⟨a,b,e,m1,m2,m3,m4⟩:=hw hw0;obtain⟨w1,w2,w3⟩:=w;simp only at e m3 m4 hw0;subst e;have hna:x.n∉ns++a:=by
    intro h;rcases List.mem_append.1 h with h|h
    ·exact hn h
    exact hN _ (m2 _ h)
   have hM2:=m1.more hna (List.mem_map.2 ⟨x,Tq,rfl⟩) m3 m4;have r2:=m1.Kh;have l2:=m1.len;simp only;refine .zm (by simp only[qg,zB,decide_eq_true_eq];omega) ?_;refine .zm (by simp only[qg,zB,decide_eq_true_eq];omega) ?_;have e1:IntKind.i64.wrap (((ts++b++[w1]).length:Int)-1)=((ts++b).length:Int):=by
    simp only[List.length_append,List.length_cons,List.length_nil]at r2 l2 |-;rw[wr (by omega) (by omega)];omega
   rw[e1];refine .go (Qc (ts++b) [] w1) ?_;have hLook:=oC.new l2 hna w1;have hadd: ∀m∈a++[x.n],x.kind=1/\(m=x.n\/Relation.TransGen (Holds P) x.n m):=by
    intro m hm;rcases List.mem_append.1 hm with hm|hm
    ·exact⟨k1,.inr (m2 m hm)⟩
    simp only[List.mem_singleton]at hm;exact⟨k1,.inl hm⟩
   refine .tI ?_ ?_<;>intro hT
   ·have ht:=hT;obtain⟨r,hr,hq⟩:=dN x.qP hg.qP w1 (by omega) 20000;refine .go hr ?_;refine .ret ⟨?_,fun h0=>⟨a++[x.n],b++[w1],by simp,by simpa using hM2,hadd,x,w1,hx,fun _=>by simpa using hLook,fun h=>absurd k1 h,fun h=>(by rw[ht]at h;cases h),fun _=>⟨r.2.1, ?_⟩⟩⟩
    ·rcases hq with hq|hq
     ·simp only;omega
     simp only[hq];omega
    rw[hr];simp only at h0 |-;rw[<- h0]
   have ht:=hT;exact .ret ⟨by simp only;omega,fun h0=>⟨a++[x.n],b++[w1],by simp,by simpa using hM2,hadd,x,w1,hx,fun _=>by simpa using hLook,fun h=>absurd k1 h,fun _=>rfl,fun h=>(by rw[ht]at h;cases h)⟩⟩
  have Yt:=hT;rcases hv with ⟨rfl,_⟩|⟨k,t,rfl,hk,mE,hL⟩
  ·omega
  have ht65:=(hM.txt _ _ hL).2;refine .go (a:=t) (by rw[j8 mE];simpa[kU mE]using hk) ?_;refine .tI ?_ ?_<;>intro hT
  ·have ht:=hT;obtain⟨r,hr,hq⟩:=dN x.qP hg.qP t (by omega) 20000;refine .go hr ?_;refine .ret ⟨?_,fun h0=>⟨[],[],by simp,by simpa using hM,by simp,x,t,hx,fun _=>by simpa using hL,fun h=>absurd k1 h,fun h=>(by rw[ht]at h;cases h),fun _=>⟨r.2.1, ?_⟩⟩⟩
   ·rcases hq with hq|hq
    ·simp only;omega
    simp only[hq];omega
   rw[hr];simp only at h0 |-;rw[<- h0]
  have ht:=hT;exact .ret ⟨by simp only;omega,fun h0=>⟨[],[],by simp,by simpa using hM,by simp,x,t,hx,fun _=>by simpa using hL,fun h=>absurd k1 h,fun _=>rfl,fun h=>(by rw[ht]at h;cases h)⟩⟩
 have k1:=hT;refine .tI ?_ ?_<;>intro hT
 ·have ht:=hT;have htt:=hg.tt ht;obtain⟨r,hr,hq⟩:=dN x.qP hg.qP x.text htt 20000;refine .go hr ?_;refine .ret ⟨?_,fun h0=>⟨[],[],by simp,by simpa using hM,by simp,x,x.text,hx,fun h=>absurd h k1,fun _=>rfl,fun h=>(by rw[ht]at h;cases h),fun _=>⟨r.2.1, ?_⟩⟩⟩
  ·rcases hq with hq|hq
   ·simp only;omega
   simp only[hq];omega
  rw[hr];simp only at h0 |-;rw[<- h0]
 have ht:=hT;exact .ret ⟨hg.tl,fun h0=>⟨[],[],by simp,by simpa using hM,by simp,x,x.text,hx,fun h=>absurd h k1,fun _=>rfl,fun _=>rfl,fun h=>(by rw[ht]at h;cases h)⟩⟩
abbrev RowR:=(qa×Int×qa×Sl qt×qa×qa×List Pt×List Int×List qa×List Int×List qa)⊕(qa×Sl qt×qa×qa×List Pt×List Int×List qa×List Int×List qa)
def RowQ(env:Sl qt)(lead unit:qa)(P:List Pt)(ds:List Int)(nm:List qa)(i hi:Nat)(s:qa)(ns:List Int)(ts:List qa):RowR->Prop
 | .inl y=>y.2.1≠0
 | .inr y=> ∃a b t,y=(s++t,env,lead,unit,P,ds,nm,ns++a,ts++b)/\uS P (ns++a) (ts++b)/\(∀ m∈a,∃(j:Nat)(x:Pt),i<=j/\j<hi/\P[j]? =some x/\x.kind=1/\(m=x.n\/Relation.TransGen (Holds P) x.n m))/\bT P (ns++a) (ts++b) i hi t/\(s++t).length<=65536
theorem Ol(hP:Good P){up:Int}{i hi:Nat}(hc:bu P up i hi): ∀(s:qa)(ns:List Int)(ts:List qa),s.length<=65536->uS P ns ts->
  (∀(j:Nat)(x:Pt)(ns:List Int)(ts:List qa),i<=j->j<hi->P[j]? =some x->uS P ns ts->qG (xH ((j:Int),env,lead,unit,P,ds,nm,ns,ts)) (OfQ env lead unit P ds nm j x ns ts))->
  qG (xx ((hi:Int),s,(i:Int),env,lead,unit,P,ds,nm,ns,ts)) (RowQ env lead unit P ds nm i hi s ns ts):=by
 induction hc with
 |nil up i=>
  intro s ns ts hs hM hof;rw[xx.eq_1,if_neg (by simp)];exact .ret ⟨[],[],[],by simp,by simpa using hM,by simp,.nil _,by simpa using hs⟩
 |cons up i e hi x hx hu he xB hle hk hd ho hr _ XH=>
  intro s ns ts hs hM hof;have fC:=(qF hx).1;rw[xx.eq_1,if_pos (by simp;omega)];refine .bind (hof i x ns ts (xJ _) (by omega) hx hM) fun v hv=>?_;refine .tI ?_ ?_<;>intro hT
  ·exact .ret hT
  have Yt:=hT;obtain⟨a,b,e1,m1,m2,m3⟩:=hv.2 Yt;obtain⟨v1,v2,v3⟩:=v;have Eo:=hv.1;simp only at e1 m3 Yt Eo;subst e1;simp only;refine .zm (by omega) ?_;refine .tI ?_ ?_<;>intro hT
  ·exact .ret (by simp[RowQ])
  have hlen:=hT;refine .go (a:=x) (by rw[j8 fC];simpa[kU fC]using hx) ?_;rw[he];refine(XH (s++v1) (ns++a) (ts++b) (by omega) m1 (fun j y ns ts h1 h2=>hof j y ns ts (by omega) h2)).mono fun w hw=>?_;rcases w with w|w
  ·exact hw
  obtain⟨a2,b2,t,w1,w2,w3,w4,w5⟩:=hw;refine⟨a++a2,b++b2,v1++t, ?_, ?_, ?_, ?_, ?_⟩
  ·rw[w1];simp
  ·simpa using w2
  ·intro m hm;rcases List.mem_append.1 hm with hm|hm
   ·exact⟨i,x,xJ _,by omega,hx,m2 m hm⟩
   obtain⟨j,y,j1,j2,j3⟩:=w3 m hm;exact⟨j,y,by omega,j2,j3⟩
  ·have:=bT.cons i e hi x v1 t hx he (m3.app a2 b2) w4;simpa using this
  simpa using w5
theorem Ok(hP:Good P){up:Int}{i hi:Nat}(hc:bu P up i hi): ∀(s:qa)(ns:List Int)(ts:List qa),s.length<=65536->uS P ns ts->
  (∀(j:Nat)(x:Pt)(ns:List Int)(ts:List qa),i<=j->j<hi->P[j]? =some x->uS P ns ts->qG (xH ((j:Int),env,lead,unit,P,ds,nm,ns,ts)) (OfQ env lead unit P ds nm j x ns ts))->
  qG (kI ((hi:Int),s,(i:Int),env,lead,unit,P,ds,nm,ns,ts)) (RowQ env lead unit P ds nm i hi s ns ts):=by
 induction hc with
 |nil up i=>
  intro s ns ts hs hM hof;rw[kI.eq_1,if_neg (by simp)];exact .ret ⟨[],[],[],by simp,by simpa using hM,by simp,.nil _,by simpa using hs⟩
 |cons up i e hi x hx hu he xB hle hk hd ho hr _ XH=>
  intro s ns ts hs hM hof;have fC:=(qF hx).1;rw[kI.eq_1,if_pos (by simp;omega)];refine .bind (hof i x ns ts (xJ _) (by omega) hx hM) fun v hv=>?_;refine .tI ?_ ?_<;>intro hT
  ·exact .ret hT
  have Yt:=hT;obtain⟨a,b,e1,m1,m2,m3⟩:=hv.2 Yt;obtain⟨v1,v2,v3⟩:=v;have Eo:=hv.1;simp only at e1 m3 Yt Eo;subst e1;simp only;refine .zm (by omega) ?_;refine .tI ?_ ?_<;>intro hT
  ·exact .ret (by simp[RowQ])
  have hlen:=hT;refine .go (a:=x) (by rw[j8 fC];simpa[kU fC]using hx) ?_;rw[he];refine(XH (s++v1) (ns++a) (ts++b) (by omega) m1 (fun j y ns ts h1 h2=>hof j y ns ts (by omega) h2)).mono fun w hw=>?_;rcases w with w|w
  ·exact hw
  obtain⟨a2,b2,t,w1,w2,w3,w4,w5⟩:=hw;refine⟨a++a2,b++b2,v1++t, ?_, ?_, ?_, ?_, ?_⟩
  ·rw[w1];simp
  ·simpa using w2
  ·intro m hm;rcases List.mem_append.1 hm with hm|hm
   ·exact⟨i,x,xJ _,by omega,hx,m2 m hm⟩
   obtain⟨j,y,j1,j2,j3⟩:=w3 m hm;exact⟨j,y,by omega,j2,j3⟩
  ·have:=bT.cons i e hi x v1 t hx he (m3.app a2 b2) w4;simpa using this
  simpa using w5
theorem L2(hP:Good P)(hN:VT P): ∀(M:Nat)(n:Int),mu P n=M-> ∀(ns:List Int)(ts:List qa),uS P ns ts->qG (vA (n,env,lead,unit,P,ds,nm,ns,ts)) (TextQ env lead unit P ds nm n ns ts):=by
 have hl:=hP.len;intro M;induction M using Nat.strongRecOn with
 |_ M ih=>
 intro n hn ns ts hM;rw[vA.eq_1];refine .bind (lq n P ds nm hl) fun v hv=>?_;refine .tI ?_ ?_<;>intro hT
 ·have Yt:=hT;rcases hv with ⟨_,h⟩|⟨d,x,rfl,_⟩
  ·exact .ret fun _=>⟨[],[],by simp,by simpa using hM,by simp,.inl ⟨rfl,h⟩,by simp⟩
  omega
 have Yt:=hT;rcases hv with ⟨rfl,_⟩|⟨d,x,rfl,hd,x1,x2,x3⟩
 ·omega
 have Ls:=(qF hd).1;obtain⟨e,he,hc,_,_⟩:=hP.inner hd;refine .go (a:=x) (by rw[j8 Ls];simpa[kU Ls]using hd) ?_;refine .tI ?_ ?_<;>intro hT
 ·have Eb:=hT;refine .bind .get fun o _=>?_;refine .tI ?_ ?_<;>intro hT
  ·exact .ret fun h=>by simp at h
  have hlen:=hT;refine .ret fun _=>⟨[],[],by simp,by simpa using hM,by simp,.inr ⟨d,e,x,hd,x1,x2,x3,he,.inl ?_⟩,by simp only;omega⟩;intro h;rw[h]at Eb;simp at Eb
 have Eb:=hT;have hee:=hP.end_ hd;rw[wr (n:=(d:Int)+1) (by omega) (by omega),show((d:Int)+1)=((d+1:Nat):Int) by omega,he];have sE: ∀(j:Nat)(y:Pt),d+1<=j->j<e->P[j]? =some y->y.kind=1->Holds P n y.n:=fun j y h1 h2 h3 h4=>⟨d,j,x,y,hd,x1,x2,x3,by omega,by omega,h3,h4,rfl⟩;have cD:=Ol (env:=env) (lead:=lead) (unit:=unit) (ds:=ds) (nm:=nm) hP hc [] ns ts (by simp) hM (fun j y ns ts h1 h2 h3 h4=>
  Zk hP hN j y h3 ns ts h4 fun hk=>ih (mu P y.n) (by rw[<- hn];exact mu_lt hN (sE j y h1 h2 h3 hk)) y.n rfl ns ts h4)
 refine Ij (o:=yl (((d+1:Nat):Int),(e:Int),env,lead,unit,P,ds,nm,ns,ts)) ?_;rw[yl.eq_1];refine .bind cD fun w hw=>?_;rcases w with w|w
 ·exact .ret fun h=>absurd h hw
 obtain⟨a,b,t,rfl,w2,w3,w4,w5⟩:=hw;refine .ret fun _=>⟨a,b,rfl,w2,fun m hm=>?_,.inr ⟨d,e,x,hd,x1,x2,x3,he,.inr (by simpa using w4)⟩,by simpa using w5⟩;obtain⟨j,y,j1,j2,j3,j4,j5⟩:=w3 m hm;have h:=sE j y j1 j2 j3 j4;rcases j5 with rfl|j5
 ·exact .single h
 exact Relation.TransGen.trans (.single h) j5
end
set_option maxHeartbeats 1000000
inductive aV (H:Int->Int->Prop):Int->Int->Int->Nat->List qu->Prop
 |nil (up lo hi:Int) (b:Nat) (h:lo<=hi):aV H up lo hi b []
 |cons (up lo hi:Int) (b:Nat) (x:qu) (qy rest:List qu) (hu:x.up=up) (h1:lo<=x.span.qO) (h2:x.span.qO<=x.span.to) (hH: ∀y∈qy,H x.n y.n)
   (hk:aV H (b:Int) x.span.qO x.span.to (b+1) qy) (hr:aV H up x.span.to hi (b+1+qy.length) rest):aV H up lo hi b (x::(qy++rest))
theorem aV.le{H:Int->Int->Prop}{up lo hi:Int}{b:Nat}{l:List qu}(h:aV H up lo hi b l):lo<=hi:=by
 induction h with
 |nil _ _ _ _ h=>exact h
 |cons _ _ _ _ _ _ _ _ h1 h2 _ _ _ _ ih=>omega
theorem aV.mono{H:Int->Int->Prop}{up lo hi:Int}{b:Nat}{l:List qu}(h:aV H up lo hi b l){vq:Int}(hh:hi<=vq):aV H up lo vq b l:=by
 induction h with
 |nil up lo hi b h=>exact .nil _ _ _ _ (by omega)
 |cons up lo hi b x qy rest hu h1 h2 hH hk _ _ ih=>exact .cons up lo vq b x qy rest hu h1 h2 hH hk (ih hh)
theorem aV.low{H:Int->Int->Prop}{up lo hi:Int}{b:Nat}{l:List qu}(h:aV H up lo hi b l){lo' :Int}(hh:lo' <=lo):aV H up lo' hi b l:=by
 cases h with
 |nil up lo hi b h=>exact .nil _ _ _ _ (by omega)
 |cons up lo hi b x qy rest hu h1 h2 hH hk hr=>exact .cons up lo' hi b x qy rest hu (by omega) h2 hH hk hr
theorem aV.Ui{H:Int->Int->Prop}{up lo hi:Int}{b:Nat}{l:List qu}(h:aV H up lo hi b l)(x:qu)(hu:x.up=up)(h1:x.span.qO=hi)(h2:x.span.to=hi):aV H up lo hi b (l++[x]):=by
 induction h with
 |nil up lo hi b h=>exact .cons up lo hi b x [] [] hu (by omega) (by omega) (by simp) (.nil _ _ _ _ (by omega)) (.nil _ _ _ _ (by omega))
 |cons up lo hi b y qy rest hu' h1' h2' hH hk _ _ ih=>
  have:=aV.cons up lo hi b y qy (rest++[x]) hu' h1' h2' hH hk (ih hu h1 h2);simpa using this
def ix(P:List Pt)(j:Nat):Nat:=(P.take j).countP (fun x=>x.kind==1)
theorem iy{P:List Pt}{i:Nat}{x:Pt}(h:P[i]? =some x):ix P (i+1)=ix P i+if x.kind=1 then 1 else 0:=by
 obtain⟨hl,rfl⟩:=qF h;unfold ix;rw[List.take_succ_eq_append_getElem hl,List.countP_append];exact tW
section
variable {env:Sl qt} {lead unit:qa} {P:List Pt} {ds:List Int} {nm:List qa} {ns:List Int} {ts:List qa}
theorem TJ(hP:Good P)(hM:uS P ns ts)(i:Nat)(t:qa)(hv:DA P ns ts i t):xH ((i:Int),env,lead,unit,P,ds,nm,ns,ts)=some (t,0,env,lead,unit,P,ds,nm,ns,ts):=by
 have hl:=hP.len;have wV:=hM.Kh;have hlen:=hM.len;obtain⟨x,b,hx,h1,h2,h3,h4⟩:=hv;have fC:=(qF hx).1;have UB:qi P (i:Int)=some x:=by rw[j8 fC];simpa[kU fC]using hx
 rw[xH.eq_1,UB];simp only[xe,z7];by_cases k1:x.kind=1
 ·have hL:=h1 k1;obtain⟨v,Ql,DO⟩:=Gp x.n ns ts (by omega) hlen;rcases DO with ⟨_,hn⟩|⟨k,t',rfl,hk,mE,hL'⟩
  ·obtain⟨k,a1,_⟩:=hL;exact absurd (qX a1) hn
  have:=hL.one hL';subst this;have BE:qi ts (k:Int)=some b:=by rw[j8 mE];simpa[kU mE]using hk
  exact tW
 have hb:=h2 k1;subst hb;rw[if_neg (by simp[k1])];cases ht:x.qJ
 ·rw[if_neg (by simp),h3 ht]
 obtain⟨l,hl⟩:=h4 ht;rw[if_pos rfl,hl];rfl
theorem Gf(hP:Good P)(hM:uS P ns ts){i:Nat}{x:Pt}{t:qa}(hx:P[i]? =some x)(hk:x.kind=1)(hd:x.xI=true)(hv:DA P ns ts i t){e:Nat}(he:x.end_=(e:Int))(ho:x.opts.l≠[]->e=i+1): ∃u,bT P ns ts (i+1) e u/\u.length<=t.length:=by
 obtain⟨y,b,h0,h1,_,h3,_⟩:=hv;rw[hx]at h0;cases h0;have ht:=h3 ((hP.ok x (qX hx)).dt hd);subst ht;rcases(hM.txt _ _ (h1 hk)).1 with ⟨_,h⟩|⟨d,e',y,a1,a2,a3,a4,a5,a6⟩
 ·exact absurd rfl (h x (qX hx) hk hd)
 have:d=i:=Xz hP.un a1 hx a3 hd a4;subst this;rw[hx]at a1;cases a1;have:e' =e:=by omega
 subst this;rcases a6 with a6|a6
 ·rw[ho a6];exact⟨[],.nil _,Nat.zero_le _⟩
 exact⟨_,a6,xJ _⟩
structure FR (P:List Pt) (qk:Int) (i hi:Nat) (W:qa) (out:List qu) (z6:List Int) (QK:Int) (l:List qu) (pl:List Int):Prop where
 GR:pl.length=z6.length
 tA: ∀j,j<i->pl[j]? =z6[j]?
 BJ:aV (Holds P) QK qk (qk+W.length) out.length l
 mem: ∀y∈l,∃(j:Nat)(p:Pt),i<=j/\j<hi/\P[j]? =some p/\p.kind=1/\p.n=y.n/\p.qP=y.qP/\p.opts=y.opts
 len:l.length+ix P i<=ix P hi
theorem Py(hP:Good P)(hM:uS P ns ts){up:Int}{i hi:Nat}(hc:bu P up i hi): ∀(qk:Int)(W:qa)(out:List qu)(z6:List Int)(QK:Int),bT P ns ts i hi W->0<=qk->qk+W.length<=65536->hi<=P.length->z6.length=P.length->out.length+hi<=P.length+i->
  ((up= -1/\QK= -1)\/ ∃u:Nat,up=u/\u<i/\z6[u]? =some QK)->
  qG (qY ((hi:Int),qk,(i:Int),env,lead,unit,out,z6,P,ds,nm,ns,ts)) (fun v=> ∃l pl,v=(qk+W.length,env,lead,unit,out++l,pl,P,ds,nm,ns,ts)/\FR P qk i hi W out z6 QK l pl):=by
 have hPl:=hP.len;induction hc with
 |nil up i=>
  intro qk W out z6 QK hR h0 h1 hhi sH Eb Xm;have hT0:W=[]:=by
   cases hR with
   |nil=>rfl
   |cons _ e _ x t u hx he _ hr=>
    have h3:=(hP.end_ hx).1;have h4: ∀{a b:Nat}{t:qa},bT P ns ts a b t->a<=b:=by
     intro a b t h;induction h with
     |nil=>omega
     |cons a e b x t u hx he _ _ ih=>have:=(hP.end_ hx).1;omega
    have:=h4 hr;omega
  subst hT0;rw[qY.eq_1,if_neg (by simp)];exact .ret ⟨[],z6,by simp,rfl,fun _ _=>rfl,.nil _ _ _ _ (by simp),by simp,by simp⟩
 |cons up i e hi x hx hu he xB hle hk hd ho hr UE XH=>
  intro qk W out z6 QK hR h0 h1 hhi sH Eb Xm;have fC:=(qF hx).1;have UB:qi P (i:Int)=some x:=by rw[j8 fC];simpa[kU fC]using hx
  obtain⟨t,u,hTu,hv,hru⟩: ∃t u,W=t++u/\DA P ns ts i t/\bT P ns ts e hi u:=by
   cases hR with
   |nil=>omega
   |cons _ e' _ y t u hy hye hv hr2=>
    rw[hx]at hy;cases hy;have:e' =e:=by omega
    subst this;exact⟨t,u,rfl,hv,hr2⟩
  subst hTu;simp only[List.length_append]at h1;have BD:=iy hx;have hchi:ix P (i+1)<=ix P e:=by
   unfold ix;exact List.Sublist.countP_le (List.take_sublist_take_left (by omega))
  rw[qY.eq_1,if_pos (by simp;omega)];refine .go UB ?_;refine .go (TJ hP hM i t hv) ?_;simp only;have ew:IntKind.i64.wrap (qk+(t.length:Int))=qk+t.length:=wr (by omega) (by omega);rw[ew];have behind: ∀(l:List qu)(pl:List Int),FR P qk i e t out z6 QK l pl->l.length<=e-i->
    qG (qi P (i:Int)>>=fun y=>qY ((hi:Int),qk+t.length,y.end_,env,lead,unit,out++l,pl,P,ds,nm,ns,ts)) (fun v=> ∃l pl,v=(qk+(t++u).length,env,lead,unit,out++l,pl,P,ds,nm,ns,ts)/\FR P qk i hi (t++u) out z6 QK l pl):=by
   intro l pl h SQ;refine .go UB ?_;rw[he];refine(XH (qk+t.length) u (out++l) pl QK hru (by omega) (by omega) hhi (h.GR.trans sH) (by simp;omega) ?_).mono fun v hv=>?_
   ·rcases Xm with Xm|⟨w,w1,w2,w3⟩
    ·exact .inl Xm
    exact .inr ⟨w,w1,by omega,by rw[h.tA w w2];exact w3⟩
   obtain⟨l2,pl2,rfl,q⟩:=hv;refine⟨l++l2,pl2,by simp[Int.add_assoc],q.GR.trans h.GR,fun j hj=>(q.tA j (by omega)).trans (h.tA j hj), ?_, ?_, ?_⟩
   ·have h2:=q.BJ;have h1:=h.BJ;have app: ∀{up lo hi:Int}{b:Nat}{l:List qu},aV (Holds P) up lo hi b l-> ∀{BF:Int}{r:List qu},aV (Holds P) up hi BF (b+l.length) r->aV (Holds P) up lo BF b (l++r):=by
     intro up lo hi b l hl;induction hl with
     |nil up lo hi b h=>intro BF r hr;simpa using hr.low h
     |cons up lo hi b x qy rest hu h1 h2 hH hk _ _ ih=>
      intro BF r hr;have e1:b+(x::(qy++rest)).length=b+1+qy.length+rest.length:=by simp;omega
      rw[e1]at hr;have:=aV.cons up lo BF b x qy (rest++r) hu h1 h2 hH hk (ih hr);simpa using this
    simp only[List.length_append]at h2;have:=app h1 h2;simpa[Int.add_assoc]using this
   ·intro y hy;rcases List.mem_append.1 hy with hy|hy
    ·obtain⟨j,p,j1,j2,j3⟩:=h.mem y hy;exact⟨j,p,j1,by omega,j3⟩
    obtain⟨j,p,j1,j2,j3⟩:=q.mem y hy;exact⟨j,p,by omega,j2,j3⟩
   have:=q.len;have:=h.len;simp only[List.length_append];omega
  by_cases k1:x.kind=1
  ·rw[if_pos k1]at BD;rw[if_pos (by simp[k1])];have stop: ∀(S:qu),S.up=QK->S.span.qO=qk->S.span.to=qk+t.length->S.n=x.n->S.qP=x.qP->S.opts=x.opts->
     qG (qi z6 (i:Int)>>=fun _=>if qg (out.length+1) 200=true then
      if x.xI=true then
       zs (IntKind.i64.wrap ((i:Int)+1),x.end_,qk,env,lead,unit,out++[S],z6.set (i:Int).toNat (out.length:Int),P,ds,nm,ns,ts)>>=fun v=>
       qi v.2.2.2.2.2.2.1 (i:Int)>>=fun y=>
       qY ((hi:Int),qk+t.length,y.end_,v.2.1,v.2.2.1,v.2.2.2.1,v.2.2.2.2.1,v.2.2.2.2.2.1,v.2.2.2.2.2.2.1,v.2.2.2.2.2.2.2.1,v.2.2.2.2.2.2.2.2.1,v.2.2.2.2.2.2.2.2.2.1,v.2.2.2.2.2.2.2.2.2.2)
      else
       qi P (i:Int)>>=fun y=>qY ((hi:Int),qk+t.length,y.end_,env,lead,unit,out++[S],z6.set (i:Int).toNat (out.length:Int),P,ds,nm,ns,ts)
      else none) (fun v=> ∃l pl,v=(qk+(t++u).length,env,lead,unit,out++l,pl,P,ds,nm,ns,ts)/\FR P qk i hi (t++u) out z6 QK l pl):=by
    intro S s1 s2 s3 s4 s5 s6;refine .bind .get fun _ _=>?_;refine .zm (by simp only[qg,zB,decide_eq_true_eq];omega) ?_;rw[Int.toNat_natCast];have nN: ∀j,j<i->(z6.set i (out.length:Int))[j]? =z6[j]? :=fun j hj=>by rw[List.getElem?_set];rw[if_neg (by omega)]
    cases G1:x.xI
    ·rw[if_neg (by simp)];refine behind [S] _ ⟨by simp,nN, ?_, ?_,by simp;omega⟩ (by simp;omega)
     ·exact .cons QK qk _ out.length S [] [] s1 (by omega) (by omega) (by simp) (.nil _ _ _ _ (by omega)) (.nil _ _ _ _ (by omega))
     intro y hy;simp only[List.mem_singleton]at hy;subst hy;exact⟨i,x,xJ _,xB,hx,k1,s4.symm,s5.symm,s6.symm⟩
    rw[if_pos rfl];obtain⟨w,w1,w2⟩:=Gf hP hM hx k1 G1 hv he ho;have Tg:=UE qk w (out++[S]) (z6.set i (out.length:Int)) (out.length:Int) w1 h0 (by omega) (by omega) (by simpa using sH) (by simp;omega) (.inr ⟨i,rfl,by omega,List.getElem?_set_self (by omega)⟩);have hk3:qG (zs (((i+1:Nat):Int),x.end_,qk,env,lead,unit,out++[S],z6.set i (out.length:Int),P,ds,nm,ns,ts)) (fun v=> ∃l pl,v=(qk+w.length,env,lead,unit,out++[S]++l,pl,P,ds,nm,ns,ts)/\FR P qk (i+1) e w (out++[S]) (z6.set i (out.length:Int)) (out.length:Int) l pl):=by
     rw[zs.eq_1,he];exact .bind Tg fun v hv=> .ret hv
    rw[wr (n:=(i:Int)+1) (by omega) (by omega),show((i:Int)+1)=((i+1:Nat):Int) by omega];refine .bind hk3 fun v hv=>?_;obtain⟨l,pl,rfl,q⟩:=hv;have e1:out++[S]++l=out++(S::l):=by simp
    simp only[e1];have hql:=q.len;have lW:ix P e<=ix P (i+1)+(e-(i+1)):=by
     have: ∀d,ix P (i+1+d)<=ix P (i+1)+d:=by
      intro d;induction d with
      |zero=>simp
      |succ d ih=>
       by_cases DH:i+1+d<P.length
       ·have:=iy (kU DH);rw[show i+1+(d+1)=i+1+d+1 by omega,this];split<;>omega
       have e2:ix P (i+1+(d+1))=ix P (i+1+d):=by unfold ix;rw[List.take_of_length_le (by omega),List.take_of_length_le (by omega)]
       omega
     have:=this (e-(i+1));rw[show i+1+(e-(i+1))=e by omega]at this;exact this
    refine behind (S::l) pl ⟨by simpa using q.GR,fun j hj=>(q.tA j (by omega)).trans (nN j hj), ?_, ?_,by simp;omega⟩ (by simp;omega)
    ·have SP:aV (Holds P) (out.length:Int) S.span.qO S.span.to (out.length+1) l:=by
      rw[s2,s3];have:=q.BJ;simp only[List.length_append,List.length_cons,List.length_nil]at this;exact this.mono (by omega)
     have:=aV.cons QK qk (qk+t.length) out.length S l [] s1 (by omega) (by omega) (fun y hy=>?_) SP (.nil _ _ _ _ (by omega))
     ·simpa using this
     obtain⟨j,p,j1,j2,j3,j4,j5,_⟩:=q.mem y hy;rw[s4];exact⟨i,j,x,p,hx,k1,G1,rfl,by omega,by omega,j3,j4,j5⟩
    intro y hy;rcases List.mem_cons.1 hy with rfl|hy
    ·exact⟨i,x,xJ _,xB,hx,k1,s4.symm,s5.symm,s6.symm⟩
    obtain⟨j,p,j1,j2,j3⟩:=q.mem y hy;exact⟨j,p,by omega,j2,j3⟩
   rcases Xm with ⟨u1,u2⟩|⟨w,w1,w2,w3⟩
   ·rw[if_neg (by simp;omega)];exact stop _ u2.symm rfl rfl rfl rfl rfl
   rw[if_pos (by simp;omega)];have hwl:=(qF w3).1;refine .go (a:=QK) (by rw[hu,w1,j8 hwl];simpa[kU hwl]using w3) ?_;exact stop _ rfl rfl rfl rfl rfl rfl
  rw[if_neg k1]at BD;rw[if_neg (by simp[k1])];have hde:e=i+1:=hd ((hP.ok x (qX hx)).other k1).1;have:=behind [] z6 ⟨rfl,fun _ _=>rfl,.nil _ _ _ _ (by omega),by simp,by simp;omega⟩ (by simp);simpa using this
end
section
variable {env:Sl qt} {lead unit:qa} {P:List Pt} {ds:List Int} {nm:List qa} {ns:List Int} {ts:List qa}
theorem Px(hP:Good P)(hM:uS P ns ts){up:Int}{i hi:Nat}(hc:bu P up i hi): ∀(qk:Int)(W:qa)(out:List qu)(z6:List Int)(QK:Int),bT P ns ts i hi W->0<=qk->qk+W.length<=65536->hi<=P.length->z6.length=P.length->out.length+hi<=P.length+i->
  ((up= -1/\QK= -1)\/ ∃u:Nat,up=u/\u<i/\z6[u]? =some QK)->
  qG (zk ((hi:Int),qk,(i:Int),env,lead,unit,z6,P,ds,nm,ns,ts,out)) (fun v=> ∃l pl,v=(qk+W.length,env,lead,unit,pl,P,ds,nm,ns,ts,out++l)/\FR P qk i hi W out z6 QK l pl):=by
 have hPl:=hP.len;induction hc with
 |nil up i=>
  intro qk W out z6 QK hR h0 h1 hhi sH Eb Xm;have hT0:W=[]:=by
   cases hR with
   |nil=>rfl
   |cons _ e _ x t u hx he _ hr=>
    have h3:=(hP.end_ hx).1;have h4: ∀{a b:Nat}{t:qa},bT P ns ts a b t->a<=b:=by
     intro a b t h;induction h with
     |nil=>omega
     |cons a e b x t u hx he _ _ ih=>have:=(hP.end_ hx).1;omega
    have:=h4 hr;omega
  subst hT0;rw[zk.eq_1,if_neg (by simp)];exact .ret ⟨[],z6,by simp,rfl,fun _ _=>rfl,.nil _ _ _ _ (by simp),by simp,by simp⟩
 |cons up i e hi x hx hu he xB hle hk hd ho hr UE XH=>
  intro qk W out z6 QK hR h0 h1 hhi sH Eb Xm;have fC:=(qF hx).1;have UB:qi P (i:Int)=some x:=by rw[j8 fC];simpa[kU fC]using hx
  obtain⟨t,u,hTu,hv,hru⟩: ∃t u,W=t++u/\DA P ns ts i t/\bT P ns ts e hi u:=by
   cases hR with
   |nil=>omega
   |cons _ e' _ y t u hy hye hv hr2=>
    rw[hx]at hy;cases hy;have:e' =e:=by omega
    subst this;exact⟨t,u,rfl,hv,hr2⟩
  subst hTu;simp only[List.length_append]at h1;have BD:=iy hx;have hchi:ix P (i+1)<=ix P e:=by
   unfold ix;exact List.Sublist.countP_le (List.take_sublist_take_left (by omega))
  rw[zk.eq_1,if_pos (by simp;omega)];refine .go UB ?_;refine .go (TJ hP hM i t hv) ?_;simp only;have ew:IntKind.i64.wrap (qk+(t.length:Int))=qk+t.length:=wr (by omega) (by omega);rw[ew];have behind: ∀(l:List qu)(pl:List Int),FR P qk i e t out z6 QK l pl->l.length<=e-i->
    qG (qi P (i:Int)>>=fun y=>zk ((hi:Int),qk+t.length,y.end_,env,lead,unit,pl,P,ds,nm,ns,ts,out++l)) (fun v=> ∃l pl,v=(qk+(t++u).length,env,lead,unit,pl,P,ds,nm,ns,ts,out++l)/\FR P qk i hi (t++u) out z6 QK l pl):=by
   intro l pl h SQ;refine .go UB ?_;rw[he];refine(XH (qk+t.length) u (out++l) pl QK hru (by omega) (by omega) hhi (h.GR.trans sH) (by simp;omega) ?_).mono fun v hv=>?_
   ·rcases Xm with Xm|⟨w,w1,w2,w3⟩
    ·exact .inl Xm
    exact .inr ⟨w,w1,by omega,by rw[h.tA w w2];exact w3⟩
   obtain⟨l2,pl2,rfl,q⟩:=hv;refine⟨l++l2,pl2,by simp[Int.add_assoc],q.GR.trans h.GR,fun j hj=>(q.tA j (by omega)).trans (h.tA j hj), ?_, ?_, ?_⟩
   ·have h2:=q.BJ;have h1:=h.BJ;have app: ∀{up lo hi:Int}{b:Nat}{l:List qu},aV (Holds P) up lo hi b l-> ∀{BF:Int}{r:List qu},aV (Holds P) up hi BF (b+l.length) r->aV (Holds P) up lo BF b (l++r):=by
     intro up lo hi b l hl;induction hl with
     |nil up lo hi b h=>intro BF r hr;simpa using hr.low h
     |cons up lo hi b x qy rest hu h1 h2 hH hk _ _ ih=>
      intro BF r hr;have e1:b+(x::(qy++rest)).length=b+1+qy.length+rest.length:=by simp;omega
      rw[e1]at hr;have:=aV.cons up lo BF b x qy (rest++r) hu h1 h2 hH hk (ih hr);simpa using this
    simp only[List.length_append]at h2;have:=app h1 h2;simpa[Int.add_assoc]using this
   ·intro y hy;rcases List.mem_append.1 hy with hy|hy
    ·obtain⟨j,p,j1,j2,j3⟩:=h.mem y hy;exact⟨j,p,j1,by omega,j3⟩
    obtain⟨j,p,j1,j2,j3⟩:=q.mem y hy;exact⟨j,p,by omega,j2,j3⟩
   have:=q.len;have:=h.len;simp only[List.length_append];omega
  by_cases k1:x.kind=1
  ·rw[if_pos k1]at BD;rw[if_pos (by simp[k1])];have stop: ∀(S:qu),S.up=QK->S.span.qO=qk->S.span.to=qk+t.length->S.n=x.n->S.qP=x.qP->S.opts=x.opts->
     qG (qi z6 (i:Int)>>=fun _=>if qg (out.length+1) 200=true then
      if x.xI=true then
       zs (IntKind.i64.wrap ((i:Int)+1),x.end_,qk,env,lead,unit,out++[S],z6.set (i:Int).toNat (out.length:Int),P,ds,nm,ns,ts)>>=fun v=>
       qi v.2.2.2.2.2.2.1 (i:Int)>>=fun y=>
       zk ((hi:Int),qk+t.length,y.end_,v.2.1,v.2.2.1,v.2.2.2.1,v.2.2.2.2.2.1,v.2.2.2.2.2.2.1,v.2.2.2.2.2.2.2.1,v.2.2.2.2.2.2.2.2.1,v.2.2.2.2.2.2.2.2.2.1,v.2.2.2.2.2.2.2.2.2.2,v.2.2.2.2.1)
      else
       qi P (i:Int)>>=fun y=>zk ((hi:Int),qk+t.length,y.end_,env,lead,unit,z6.set (i:Int).toNat (out.length:Int),P,ds,nm,ns,ts,out++[S])
      else none) (fun v=> ∃l pl,v=(qk+(t++u).length,env,lead,unit,pl,P,ds,nm,ns,ts,out++l)/\FR P qk i hi (t++u) out z6 QK l pl):=by
    intro S s1 s2 s3 s4 s5 s6;refine .bind .get fun _ _=>?_;refine .zm (by simp only[qg,zB,decide_eq_true_eq];omega) ?_;rw[Int.toNat_natCast];have nN: ∀j,j<i->(z6.set i (out.length:Int))[j]? =z6[j]? :=fun j hj=>by rw[List.getElem?_set];rw[if_neg (by omega)]
    cases G1:x.xI
    ·rw[if_neg (by simp)];refine behind [S] _ ⟨by simp,nN, ?_, ?_,by simp;omega⟩ (by simp;omega)
     ·exact .cons QK qk _ out.length S [] [] s1 (by omega) (by omega) (by simp) (.nil _ _ _ _ (by omega)) (.nil _ _ _ _ (by omega))
     intro y hy;simp only[List.mem_singleton]at hy;subst hy;exact⟨i,x,xJ _,xB,hx,k1,s4.symm,s5.symm,s6.symm⟩
    rw[if_pos rfl];obtain⟨w,w1,w2⟩:=Gf hP hM hx k1 G1 hv he ho;have Tg:=Py (env:=env) (lead:=lead) (unit:=unit) (ds:=ds) (nm:=nm) hP hM hk qk w (out++[S]) (z6.set i (out.length:Int)) (out.length:Int) w1 h0 (by omega) (by omega) (by simpa using sH) (by simp;omega) (.inr ⟨i,rfl,by omega,List.getElem?_set_self (by omega)⟩);have hk3:qG (zs (((i+1:Nat):Int),x.end_,qk,env,lead,unit,out++[S],z6.set i (out.length:Int),P,ds,nm,ns,ts)) (fun v=> ∃l pl,v=(qk+w.length,env,lead,unit,out++[S]++l,pl,P,ds,nm,ns,ts)/\FR P qk (i+1) e w (out++[S]) (z6.set i (out.length:Int)) (out.length:Int) l pl):=by
     rw[zs.eq_1,he];exact .bind Tg fun v hv=> .ret hv
    rw[wr (n:=(i:Int)+1) (by omega) (by omega),show((i:Int)+1)=((i+1:Nat):Int) by omega];refine .bind hk3 fun v hv=>?_;obtain⟨l,pl,rfl,q⟩:=hv;have e1:out++[S]++l=out++(S::l):=by simp
    simp only[e1];have hql:=q.len;have lW:ix P e<=ix P (i+1)+(e-(i+1)):=by
     have: ∀d,ix P (i+1+d)<=ix P (i+1)+d:=by
      intro d;induction d with
      |zero=>simp
      |succ d ih=>
       by_cases DH:i+1+d<P.length
       ·have:=iy (kU DH);rw[show i+1+(d+1)=i+1+d+1 by omega,this];split<;>omega
       have e2:ix P (i+1+(d+1))=ix P (i+1+d):=by unfold ix;rw[List.take_of_length_le (by omega),List.take_of_length_le (by omega)]
       omega
     have:=this (e-(i+1));rw[show i+1+(e-(i+1))=e by omega]at this;exact this
    refine behind (S::l) pl ⟨by simpa using q.GR,fun j hj=>(q.tA j (by omega)).trans (nN j hj), ?_, ?_,by simp;omega⟩ (by simp;omega)
    ·have SP:aV (Holds P) (out.length:Int) S.span.qO S.span.to (out.length+1) l:=by
      rw[s2,s3];have:=q.BJ;simp only[List.length_append,List.length_cons,List.length_nil]at this;exact this.mono (by omega)
     have:=aV.cons QK qk (qk+t.length) out.length S l [] s1 (by omega) (by omega) (fun y hy=>?_) SP (.nil _ _ _ _ (by omega))
     ·simpa using this
     obtain⟨j,p,j1,j2,j3,j4,j5,_⟩:=q.mem y hy;rw[s4];exact⟨i,j,x,p,hx,k1,G1,rfl,by omega,by omega,j3,j4,j5⟩
    intro y hy;rcases List.mem_cons.1 hy with rfl|hy
    ·exact⟨i,x,xJ _,xB,hx,k1,s4.symm,s5.symm,s6.symm⟩
    obtain⟨j,p,j1,j2,j3⟩:=q.mem y hy;exact⟨j,p,by omega,j2,j3⟩
   rcases Xm with ⟨u1,u2⟩|⟨w,w1,w2,w3⟩
   ·rw[if_neg (by simp;omega)];exact stop _ u2.symm rfl rfl rfl rfl rfl
   rw[if_pos (by simp;omega)];have hwl:=(qF w3).1;refine .go (a:=QK) (by rw[hu,w1,j8 hwl];simpa[kU hwl]using w3) ?_;exact stop _ rfl rfl rfl rfl rfl rfl
  rw[if_neg k1]at BD;rw[if_neg (by simp[k1])];have hde:e=i+1:=hd ((hP.ok x (qX hx)).other k1).1;have:=behind [] z6 ⟨rfl,fun _ _=>rfl,.nil _ _ _ _ (by omega),by simp,by simp;omega⟩ (by simp);simpa using this
theorem EP(hP:Good P): ∀(q:List Pt)(k:Nat)(m:Int),P.drop k=q->0<=m->m<=k->qG (yb (m,(k:Int),env,lead,unit,P,ds,nm)) (fun v=>v+ix P k=m+ix P P.length):=by
 have hl:=hP.len;intro q;induction q with
 |nil=>
  intro k m hk h0 h1;rw[yb.eq_1,if_neg (by simpa using vH hk)];have:=wU hk;refine .ret ?_;have:ix P k=ix P P.length:=by unfold ix;rw[List.take_of_length_le this,List.take_of_length_le (xJ _)]
  omega
 |cons x q ih=>
  intro k m hk h0 h1;obtain⟨a1,a2,a3,a4⟩:=wv hk;obtain⟨b1,_,_⟩:=drop_cons hk;have hc:=iy b1;rw[yb.eq_1,if_pos (by simpa using a1),i9 (by omega) a1];have:= @wr;exact tW
theorem Lm(s:qa)(pl:List Int)(st:List qu)(hs:st.length<=40000000): ∀(q:List qu)(k:Nat)(z:Bool),st.drop k=q->(z=true-> ∃x∈st,x.n=0/\x.qJ=false)->
  qG (wC (s,z,(k:Int),env,lead,unit,P,ds,nm,ns,ts,pl,st)) (fun v=>v=true-> ∃x∈st,x.n=0/\x.qJ=false):=by
 intro q;induction q with
 |nil=>
  intro k z hk hz;rw[wC.eq_1,if_neg (by simpa using vH hk)];exact .ret hz
 |cons x q ih=>
  intro k z hk hz;obtain⟨a1,a2,a3,a4⟩:=wv hk;rw[wC.eq_1,if_pos (by simpa using a1),i9 (by omega) a1];exact tW
end
structure N7 (s:qa) (st:List qu):Prop where
 len:s.length<=65536
 BJ: ∃H:Int->Int->Prop,aV H (-1) 0 s.length 0 st/\ ∀n,¬ Relation.TransGen H n n
 many:0<st.length/\st.length<=257
 n: ∀x∈st,0<=x.n/\x.n<=100000000
 qP: ∀x∈st,vW x.qP<=1000000000/\ ∀o∈x.opts.l,o.length<=17592186044416
 free: ∃x∈st,x.qJ=false
theorem N8{env:Sl qt}{lead unit:qa}(hE:H3 env lead unit)(l:Sl qA)(hl:qK (l.l.map mj)<=8192002):qG (d8 l env lead unit) (fun r=>r.2.2=0->N7 r.1 r.2.1.l):=by
 unfold d8;refine .bind (Wy l (by omega)) fun v hv=>?_;refine .tI ?_ ?_<;>intro hT
 ·exact .ret (by simp)
 have hS:=hv hT;refine .bind (Ma hE l hl hS (-1)) fun k hk=>?_;obtain⟨e1,e2,e3,⟨t,t1,t2,t3⟩,hI,_⟩:=hk;obtain⟨k1,k2,k3,r,kd,kn⟩:=k;simp only at e1 e2 e3 t1 hI;subst e1 e2 e3;simp only[List.nil_append]at t1;subst t1;simp only[List.length_nil]at t2;refine .bind (YI r kd kn t2 hI (by omega)) fun P hP=>?_;refine .bind (Mi P kd kn hP) fun w hw=>?_;refine .tI ?_ ?_<;>intro hT
 ·exact .ret (by simp)
 have hN:=hw hT;have hPl:=hP.len;have E7:=EP (env:=k1) (lead:=k2) (unit:=k3) (ds:=kd) (nm:=kn) hP P 0 0 rfl (by omega) (by omega);refine .bind E7 fun m hm=>?_;refine .tI ?_ ?_<;>intro hT
 ·exact .ret (by simp)
 have hm256:=hT;have hcnt:ix P P.length<=256:=by
  have:ix P 0=0:=by simp[ix]
  omega
 have hM0:uS P [] []:=⟨rfl,by simp,by simp,fun n t h=>by obtain⟨k,h,_⟩:=h;simp at h⟩;have cD:=Ok (env:=k1) (lead:=k2) (unit:=k3) (ds:=kd) (nm:=kn) hP hP.chain [] [] [] (by simp) hM0 (fun j y ns ts h1 h2 h3 h4=>
  Zk hP hN j y h3 ns ts h4 fun _=>L2 hP hN _ y.n rfl ns ts h4)
 have Tm:qG (ny (0:Int) (P.length:Int) k1 k2 k3 P kd kn) (fun v=>v.2.1=0-> ∃ns ts,v=(v.1,0,k1,k2,k3,P,kd,kn,ns,ts)/\uS P ns ts/\bT P ns ts 0 P.length v.1/\v.1.length<=65536):=by
  unfold ny;refine .bind cD fun w hw=>?_;rcases w with w|w
  ·exact .ret fun h=>absurd h hw
  obtain⟨a,b,t,rfl,w2,w3,w4,w5⟩:=hw;exact .ret fun _=>⟨a,b,by simp,by simpa using w2,by simpa using w4,by simpa using w5⟩
 refine .bind Tm fun y hy=>?_;refine .tI ?_ ?_<;>intro hT
 ·exact .ret fun h=>absurd h hT
 obtain⟨ns,ts,e,y2,y3,y4⟩:=hy hT;rw[e];simp only;generalize y.1=s at y3 y4 |-;refine .zm (by omega) ?_;refine .zm (by simp only[qg,zB,decide_eq_true_eq];omega) ?_;have XF:=Px (env:=k1) (lead:=k2) (unit:=k3) (ds:=kd) (nm:=kn) hP y2 hP.chain 0 s [] (List.replicate P.length 0) (-1) y3 (by omega) (by omega) (xJ _) (by simp) (by simp) (.inl ⟨rfl,rfl⟩);have hst2:qG (uZ (0:Int) (P.length:Int) (0:Int) k1 k2 k3 (List.replicate P.length 0) P kd kn ns ts) (fun v=> ∃l pl,v=((0:Int)+s.length,k1,k2,k3,pl,P,kd,kn,ns,ts,[]++l)/\FR P 0 0 P.length s [] (List.replicate P.length 0) (-1) l pl):=by
  unfold uZ;exact .bind XF fun v hv=> .ret hv
 rw[show (P.length:Int).toNat=P.length by simp];refine .bind hst2 fun z hz=>?_;obtain⟨st,pl,rfl,q⟩:=hz;simp only[List.nil_append];have hql:=q.len;have hc0:ix P 0=0:=by simp[ix]
 have hnn: ∀x∈st,0<=x.n/\x.n<=100000000:=by
  intro x hx;obtain⟨j,p,_,_,j3,_,j5,_⟩:=q.mem x hx;rw[<- j5];exact hP.n p (qX j3)
 have hff: ∀x∈st,vW x.qP<=1000000000/\ ∀o∈x.opts.l,o.length<=17592186044416:=by
  intro x hx;obtain⟨j,p,_,_,j3,_,_,j6,j7⟩:=q.mem x hx;have:=hP.ok p (qX j3);rw[<- j6,<- j7];exact⟨this.qP,this.ol⟩
 have SP:aV (Holds P) (-1) 0 s.length 0 st:=by
  have:=q.BJ;simpa using this
 refine .bind (Lm s pl st (by omega) st 0 false rfl (by simp)) fun z hz=>?_;refine .tI ?_ ?_<;>intro hT
 ·refine .zm (by simp only[qg,zB,decide_eq_true_eq];omega) ?_;refine .ret fun _=>⟨y4,⟨Holds P,SP.Ui _ rfl rfl rfl,hN⟩,by simp;omega,fun x hx=>?_,fun x hx=>?_,⟨_,List.mem_append_right _ (List.mem_singleton.2 rfl),rfl⟩⟩
  ·rcases List.mem_append.1 hx with hx|hx
   ·exact hnn x hx
   simp only[List.mem_singleton]at hx;subst hx;simp
  rcases List.mem_append.1 hx with hx|hx
  ·exact hff x hx
  simp only[List.mem_singleton]at hx;subst hx;refine⟨?_,by simp⟩;simp[vW,vS,qK]
 obtain⟨x,hx,_,h0⟩:=hz hT;refine .ret fun _=>⟨y4,⟨Holds P,SP,hN⟩,⟨List.length_pos_of_mem hx,by simp only;omega⟩,hnn,hff,⟨x,hx,h0⟩⟩
namespace Xr
theorem Ev{x z:qu}{qy rest:List qu}{k:Nat}(h:(x::(qy++rest))[k]? =some z):(k=0/\z=x)\/(∃ i,k=i+1/\qy[i]? =some z)\/(∃ i,k=i+1+qy.length/\rest[i]? =some z):=by
 cases k with
 |zero=>simp at h;exact .inl ⟨rfl,h.symm⟩
 |succ k=>
  simp only[List.getElem?_cons_succ]at h;by_cases hk:k<qy.length
  ·rw[List.getElem?_append_left hk]at h;exact .inr (.inl ⟨k,rfl,h⟩)
  rw[List.getElem?_append_right (by omega)]at h;exact .inr (.inr ⟨k-qy.length,by omega,h⟩)
theorem idx_k{x z:qu}{qy rest:List qu}{i:Nat}(h:qy[i]? =some z):(x::(qy++rest))[i+1]? =some z:=by
 have hi:=(qF h).1;simp only[List.getElem?_cons_succ];rw[List.getElem?_append_left hi];exact h
theorem idx_r{x z:qu}{qy rest:List qu}{i:Nat}(h:rest[i]? =some z):(x::(qy++rest))[i+1+qy.length]? =some z:=by
 rw[show i+1+qy.length=(qy.length+i)+1 by omega];simp only[List.getElem?_cons_succ];rw[List.getElem?_append_right (by omega)];simpa using h
structure LayIn (up lo hi:Int) (b:Nat) (l:List qu) (k:Nat) (x:qu):Prop where
 lo:lo<=x.span.qO
 le:x.span.qO<=x.span.to
 hi:x.span.to<=hi
 ins:x.up=up\/ ∃(q:Nat)(y:qu),x.up=((b+q:Nat):Int)/\q<k/\l[q]? =some y/\y.span.qO<=x.span.qO/\x.span.to<=y.span.to
 N1: ∀(j:Nat)(y:qu),j<k->l[j]? =some y->y.up=x.up->y.span.to<=x.span.qO
 pre: ∀(j:Nat)(y:qu),j<k->x.up<((b+j:Nat):Int)->l[j]? =some y->x.up<=y.up
theorem LayX.w6{H:Int->Int->Prop}{up lo hi:Int}{b:Nat}{l:List qu}(h:aV H up lo hi b l):up<b-> ∀(k:Nat)(x:qu),l[k]? =some x->LayIn up lo hi b l k x:=by
 induction h with
 |nil=>intro _ k x hx;simp at hx
 |cons up lo hi b x qy rest hu h1 h2 hH hk hr UE XH=>
  intro hub k z hz;have UE:=UE (by omega);have XH:=XH (by omega);have mE: ∀(i:Nat)(y:qu),qy[i]? =some y->i<qy.length:=fun i y h=>(qF h).1;have hrle:=hr.le;have kup: ∀(i:Nat)(y:qu),qy[i]? =some y->(b:Int)<=y.up/\y.up<b+1+qy.length:=by
   intro i y h;have:=mE i y h;rcases(UE i y h).ins with e|⟨q,w,e,q1,_⟩<;>omega
  have rup: ∀(i:Nat)(y:qu),rest[i]? =some y->y.up=up\/(b:Int)+1+qy.length<=y.up:=by
   intro i y h;rcases(XH i y h).ins with e|⟨q,w,e,q1,_⟩
   ·exact .inl e
   right;omega
  rcases Ev hz with ⟨rfl,rfl⟩|⟨i,rfl,hi⟩|⟨i,rfl,hi⟩
  ·exact⟨h1,h2,hrle,.inl hu,fun j y hj=>by omega,fun j y hj=>by omega⟩
  ·have q:=UE i z hi;refine⟨by have:=q.lo;omega,q.le,by have:=q.hi;omega, ?_, ?_, ?_⟩
   ·rcases q.ins with e|⟨p,y,e,p1,p2,p3⟩
    ·exact .inr ⟨0,x,by simpa using e,by omega,by simp,q.lo,q.hi⟩
    exact .inr ⟨p+1,y,by rw[e];omega,by omega,idx_k p2,p3⟩
   ·intro j y hj hy Xm;rcases Ev hy with ⟨rfl,rfl⟩|⟨i',rfl,vq⟩|⟨i',rfl,vq⟩
    ·have:=kup i z hi;omega
    ·exact q.N1 i' y (by omega) vq Xm
    have:=mE i z hi;omega
   intro j y hj hz2 hy;have hzu:=kup i z hi;rcases Ev hy with ⟨rfl,rfl⟩|⟨i',rfl,vq⟩|⟨i',rfl,vq⟩
   ·omega
   ·exact q.pre i' y (by omega) (by omega) vq
   have:=mE i z hi;omega
  have q:=XH i z hi;refine⟨by have:=q.lo;omega,q.le,q.hi, ?_, ?_, ?_⟩
  ·rcases q.ins with e|⟨p,y,e,p1,p2,p3⟩
   ·exact .inl e
   exact .inr ⟨p+1+qy.length,y,by rw[e];omega,by omega,idx_r p2,p3⟩
  ·intro j y hj hy Xm;rcases Ev hy with ⟨rfl,rfl⟩|⟨i',rfl,vq⟩|⟨i',rfl,vq⟩
   ·exact q.lo
   ·have a1:=kup i' y vq;have a2:=rup i z hi;omega
   exact q.N1 i' y (by omega) vq Xm
  intro j y hj hz2 hy;have hzu:=rup i z hi;rcases Ev hy with ⟨rfl,rfl⟩|⟨i',rfl,vq⟩|⟨i',rfl,vq⟩
  ·omega
  ·have a1:=kup i' y vq;have a2:=mE i' y vq;omega
  exact q.pre i' y (by omega) (by omega) vq
def lJ(a:Int)(x:qu):qu:={ x with span:=⟨x.span.qO+a,x.span.to+a⟩ }
theorem LayX.shift{H:Int->Int->Prop}{up lo hi:Int}{b:Nat}{l:List qu}(h:aV H up lo hi b l)(a:Int):aV H up (lo+a) (hi+a) b (l.map (lJ a)):=by
 induction h with
 |nil up lo hi b h=>exact .nil _ _ _ _ (by omega)
 |cons up lo hi b x qy rest hu h1 h2 hH hk hr UE XH=>
  rw[List.map_cons,List.map_append];refine .cons up (lo+a) (hi+a) b (lJ a x) _ _ hu ?_ ?_ (fun y hy=>?_) UE ?_
  ·simp only[lJ];omega
  ·simp only[lJ];omega
  ·obtain⟨z,hz,rfl⟩:=List.mem_map.1 hy;exact hH z hz
  simp only[List.length_map];exact XH
theorem lay_may{H:Int->Int->Prop}{i:qw}{n:Int}(h:aV H (-1) i.span.qO i.span.to 0 i.stops.l)(h0:0<=i.span.qO)(h1:i.span.to<=n):VS i n:=by
 have sE:=fun k x hx=>LayX.w6 h (by omega) k x hx;have xB: ∀{k:Nat}{x:qu},i.stops.l[k]? =some x->k<i.stops.l.length:=fun h=>(qF h).1;refine⟨⟨h0,Go.Proofs.YtmllebdamdnhoaaGreat.aV.le h,h1⟩,fun k x hx=>?_,fun k x hx=>(sE k x hx).le,fun k x hx _=>⟨(sE k x hx).lo,(sE k x hx).hi⟩,fun k x hx p y hp hy=>?_,fun k x hx=>(sE k x hx).N1,fun k x hx q y hq hu hy=>(sE k x hx).pre q y hq (by omega) hy⟩
 ·rcases(sE k x hx).ins with e|⟨q,y,e,q1,_⟩<;>omega
 rcases(sE k x hx).ins with e|⟨q,z,e,q1,q2,q3,q4⟩
 ·omega
 have:q=p:=by omega
 subst this;rw[hy]at q2;cases q2;exact⟨q3,q4⟩
end Xr
namespace Xr
theorem Yb{st:qr}(h:wR st)(k:Int):qG (t8 st k) (fun v=>v.2=0->wR v.1):=by
 have hl:=h.may.sA;unfold t8;refine JX h ?_;rw[if_neg (by simp)];refine .ite (fun _=> .ret fun h0=>absurd h0 (by decide)) fun c=>?_;have jv:st.qj.l≠[]:=by intro e;rw[e]at c;simp at c
 have bU:=List.length_pos_iff.2 jv;rw[wi (n:=(st.qj.l.length:Int)-1),show(st.qj.l.length:Int)-1=((st.qj.l.length-1:Nat):Int)from by omega];obtain⟨x,hx⟩:=gl (l:=st.qj.l) (k:=st.qj.l.length-1) (by omega);refine .go (gi hx) ?_;refine .bind (Sj h k _ x (qX hx) _ x.insts.l 0 false [] rfl (by simp) (by simp) (by simp[wu])) fun v hv=>?_;refine .ite (fun _=> .ret fun h0=>absurd h0 (by decide)) fun _=>?_;refine .ite (fun _=> .ret fun h0=>absurd h0 (by decide)) fun _=>?_;have DO:v.2.length*17592186044416<=4096*17592186044416:=mulR _ hv.1;refine .bind (HO st h ⟨v.2.isEmpty,v.2⟩ (by have:=hv.1;simp only;omega) (by have:=hv.2;simp only;omega)) fun w hw=>?_;refine .ite (fun c2=> .ret fun h0=>absurd h0 (by simpa using c2)) fun c2=>?_;rcases hw with hw|⟨_,hw,hless⟩
 ·exact absurd (by simpa using c2) hw
 refine .ite (fun _=> .ret fun _=>hw) fun c3=>?_;have hlen:w.1.qj.l.length=st.qj.l.length:=by
  have:=hless.1;simp only[decide_eq_true_eq]at c3;omega
 refine .bind (lr hw x.cur (fun y hy Es=>?_) (by intro e;rw[e]at hlen;simp at hlen;omega)) fun u hu=> .ret hu;obtain⟨s,s1,s2⟩:=hless.2 _ y Es;rw[hlen,hx]at s1;cases s1;rw[<- s2];exact hw.Jm y hy
structure VR (env:Sl qt):Prop where
 len:env.l.length<=64
 val: ∀p∈env.l,p.value.length<=65536
theorem Td(name:qa)(env:Sl qt)(h:VR env):qG (yj name env) (fun v=>v.1.length<=65536):=by
 have hl:=h.len;have loop: ∀(d k:Nat),k+d=env.l.length->qG (wB (name,env,(k:Int))) (fun v=>match v with| .inl y=>y.1.length<=65536| .inr _=>True):=by
  intro d;induction d with
  |zero=>intro k h;rw[wB.eq_1,if_neg (by simp;omega)];exact .ret trivial
  |succ d ih=>
   intro k hk;obtain⟨x,hx⟩:=gl (l:=env.l) (k:=k) (by omega);rw[wB.eq_1,if_pos (by simp;omega),ws (by omega)];refine .go (gi hx) ?_;exact .ite (fun _=> .ret (h.val x (qX hx))) fun _=>ih (k+1) (by omega)
 unfold yj;refine .bind (loop env.l.length 0 (by omega)) fun v hv=>?_;exact tW
theorem Gh(s:qa)(hs:s.length<=2^28)(c:UInt8):qG (kG s c) (fun v=> -1<=v/\v<s.length):=by
 have loop: ∀k:Nat,k<=s.length->qG (uF (s,c,(k:Int)-1)) (fun v=> -1<=v/\v<s.length):=by
  intro k;induction k with
  |zero=>intro _;rw[uF.eq_1,if_neg (by simp)];exact .ret ⟨by omega,by omega⟩
  |succ k ih=>
   intro h;obtain⟨b,hb⟩:=gl (l:=s) (k:=k) (by omega);rw[show ((k+1:Nat):Int)-1=(k:Int)from by omega,uF.eq_1,if_pos (by simp),wi (n:=(k:Int)-1)];have:= @gi;exact tW
 unfold kG;have:= @wi;exact tW
theorem NH(n:Int)(h0:0<=n)(h1:n<=2^28):qG (jE n) (fun v=>v.length<=n+1):=by
 have loop: ∀(m:Nat)(n:Int)(s r:qa),m=n.toNat->0<=n->n<=2^28->(s.length:Int)+n<=2^29->qG (yW (n,s,r)) (fun v=>(v.length:Int)<=s.length+n):=by
  intro m;induction m using Nat.strongRecOn with
  |_ m ih=>
  intro n s r hm h0 h1 hs;rw[yW.eq_1];have:= @wi;exact tW
 unfold jE;exact tW
section
variable (s:qa) (hs:s.length<=65536) (env:Sl qt) (line:Int) (x:qx) (sp:ql) (r2 out r4:List qt)
include hs
theorem placeA(b:Int): ∀k:Nat,k<=s.length->qG (yE (s,env,line,(k:Int),b,x,sp,r2,out,r4)) (fun v=>0<=v/\v<=k):=by
 intro k;induction k with
 |zero=>intro _;rw[yE.eq_1,if_neg (by simp)];exact .ret ⟨by omega,by omega⟩
 |succ k ih=>
  intro h;obtain⟨c,hc⟩:=gl (l:=s) (k:=k) (by omega);rw[yE.eq_1,if_pos (by simp only[decide_eq_true_eq];omega),wi (n:=((k+1:Nat):Int)-1),show((k+1:Nat):Int)-1=(k:Int)from by omega];refine .go (gi hc) ?_;refine .bind (sB c) fun v _=>?_;exact .ite (fun _=>qG.mono (ih (by omega)) fun v hv=>⟨hv.1,by omega⟩) fun _=> .ret ⟨by omega,by omega⟩
theorem placeA2(b:Int): ∀k:Nat,k<=s.length->qG (we (s,env,line,(k:Int),b,x,sp,r2,out)) (fun v=>0<=v/\v<=k):=by
 intro k;induction k with
 |zero=>intro _;rw[we.eq_1,if_neg (by simp)];exact .ret ⟨by omega,by omega⟩
 |succ k ih=>
  intro h;obtain⟨c,hc⟩:=gl (l:=s) (k:=k) (by omega);rw[we.eq_1,if_pos (by simp only[decide_eq_true_eq];omega),wi (n:=((k+1:Nat):Int)-1),show((k+1:Nat):Int)-1=(k:Int)from by omega];refine .go (gi hc) ?_;refine .bind (sB c) fun v _=>?_;exact .ite (fun _=>qG.mono (ih (by omega)) fun v hv=>⟨hv.1,by omega⟩) fun _=> .ret ⟨by omega,by omega⟩
theorem placeB(a:Int): ∀(d k:Nat),k+d=s.length->qG (yF (s,env,line,a,(k:Int),x,sp,r2,out,r4)) (fun v=>k<=v/\v<=s.length):=by
 intro d;induction d with
 |zero=>intro k h;rw[yF.eq_1,if_neg (by simp;omega)];exact .ret ⟨by omega,by omega⟩
 |succ d ih=>
  intro k h;obtain⟨c,hc⟩:=gl (l:=s) (k:=k) (by omega);rw[yF.eq_1,if_pos (by simp;omega),ws (by omega)];refine .go (gi hc) ?_;refine .bind (sB c) fun v _=>?_;exact .ite (fun _=>qG.mono (ih (k+1) (by omega)) fun v hv=>⟨by omega,hv.2⟩) fun _=> .ret ⟨by omega,by omega⟩
theorem placeB2(a:Int): ∀(d k:Nat),k+d=s.length->qG (wh (s,env,line,a,(k:Int),x,sp,r2,out)) (fun v=>k<=v/\v<=s.length):=by
 intro d;induction d with
 |zero=>intro k h;rw[wh.eq_1,if_neg (by simp;omega)];exact .ret ⟨by omega,by omega⟩
 |succ d ih=>
  intro k h;obtain⟨c,hc⟩:=gl (l:=s) (k:=k) (by omega);rw[wh.eq_1,if_pos (by simp;omega),ws (by omega)];refine .go (gi hc) ?_;refine .bind (sB c) fun v _=>?_;exact .ite (fun _=>qG.mono (ih (k+1) (by omega)) fun v hv=>⟨by omega,hv.2⟩) fun _=> .ret ⟨by omega,by omega⟩
end
section
def VZ(l:List qt):Prop:= ∀p∈l,p.value.length<=1048576
theorem pA{p:qt}{l:List qt}(h:p.value.length<=1048576)(hl:VZ l):VZ (p::l):=fun q hq=>by
 rcases List.mem_cons.1 hq with rfl|hq
 ·exact h
 exact hl q hq
variable {s:qa} (hs:s.length<=65536) {env:Sl qt} (he:VR env)
include hs he
theorem GQ(x:qx)(h0:0<=(yU x).qO)(h1:(yU x).to<=s.length):qG (sf s x env) (fun v=>v.1.l.length<=100/\VZ v.1.l):=by
 have Yr:=he.len;have hE:VZ env.l:=fun p hp=>by have:=he.val p hp;omega
 have hx:=iX x;obtain⟨k,hk⟩: ∃k:Nat,x.head=k:=⟨x.head.toNat,by omega⟩;have hA:=Nq s (by omega) x.head;unfold sf;refine .go (X2 x) ?_;rw[if_neg (by simp;omega)];have lines: ∀{β:Type}{Q:β->Prop}{f:(Int×Int)->qa->Option β},(∀ v r,0<=v.1->v.1<=65536->r.length<=65536->qG (f v r) Q)->qG (sT s x.head>>=fun v=>yQ s v.1>>=fun a=>tg s v.1>>=fun b=>kb s a.1 b.1>>=fun r=>f v r) Q:=by
  intro β Q f hf;refine .bind hA fun v hv=>?_;obtain⟨a,b,c,g1,g2,g3,g4,g5,_⟩:=oe s (by omega) v.1;refine .go g1 (qG.go g2 ?_);refine .bind (qG.kb (by simp only;omega) (by simp only;omega) (by simp only;omega)) fun r hr=>?_;have hb:=Ky s x.head.toNat;have hb2:=Nt s;have:=hr.2;simp only at this;refine hf v r ?_ ?_ (by omega)<;>rcases hv with ⟨_,_,_,hv⟩|⟨_,hv,_⟩<;>omega
 have ZF: ∀(n:Nat)(l0:List qt),n<=36->l0.length<=36->VZ l0->qG (if qg (n+env.l.length) 32=true then some ((⟨false,l0++env.l⟩:Sl qt),(0:Int))else none) (fun v=>v.1.l.length<=100/\VZ v.1.l):=by
  intro n l0 hn hl hv;refine .zm qB (.ret ⟨by simp;omega,fun p hp=>?_⟩);rcases List.mem_append.1 hp with hp|hp
  ·exact hv p hp
  exact hE p hp
 have TO: ∀(m n:Nat)(l0:List qt)(L:qa->qa->qa->List qt),m<=36->n<=36->l0.length<=36->VZ l0->(∀ a b c:qa,a.length<=65536->b.length<=65536->c.length<=65536->(L a b c).length<=36/\VZ (L a b c))-> ∀v:qa×Bool,v.1.length<=65536->
   qG (if v.2=true then kG v.1 47>>=fun a=>bX v.1 (IntKind.i64.wrap (a+(1:Int)))>>=fun r=>kG r 46>>=fun b=>if(decide (b>(0:Int)))=true then kx r b>>=fun r1=>kx v.1 (if (0:Int)>a then(0:Int)else a)>>=fun r2=>if qg n 32=true then if qg (n+env.l.length) 32=true then some ((⟨false,L r r1 r2++env.l⟩:Sl qt),(0:Int))else none else none else kx v.1 (if (0:Int)>a then(0:Int)else a)>>=fun r2=>if qg n 32=true then if qg (n+env.l.length) 32=true then some ((⟨false,L r r r2++env.l⟩:Sl qt),(0:Int))else none else none else if qg (m+env.l.length) 32=true then some ((⟨false,l0++env.l⟩:Sl qt),(0:Int))else none) (fun v=>v.1.l.length<=100/\VZ v.1.l):=by
  intro m n l0 L hm hn hl hv hL v Ql;refine .ite (fun _=>?_) fun _=>ZF m l0 hm hl hv;refine .bind (Gh v.1 (by omega) 47) fun a ha=>?_;rw[wi (n:=a+1)];refine .bind .bX fun r hr=>?_;have Tl:=hr.2;refine .bind (Gh r (by omega) 46) fun b hb=>?_;have dir:qG (kx v.1 (if (0:Int)>a then(0:Int)else a)) (fun z=>z.length<=65536):=qG.mono (qG.kx (by split<;>omega) (by split<;>omega)) fun z hz=>by have:=hz.2;split at this<;>omega
  refine .ite (fun c=>?_) fun _=>?_
  ·simp only[decide_eq_true_eq]at c;refine .bind .kx fun r1 h1=>?_;have h1l:=h1.2;refine .bind dir fun r2 h2=>qG.zm qB ?_;exact ZF n _ hn (hL r r1 r2 (by omega) (by omega) h2).1 (hL r r1 r2 (by omega) (by omega) h2).2
  refine .bind dir fun r2 h2=>qG.zm qB ?_;exact ZF n _ hn (hL r r r2 (by omega) (by omega) h2).1 (hL r r r2 (by omega) (by omega) h2).2
 have dig: ∀n:Int,0<=n->n<=65537->qG (jE n) (fun v=>v.length<=65538):=fun n a b=>qG.mono (NH n a (by omega)) fun v hv=>by omega
 have get:=fun n=>Td n env he;rw[hk]at lines |-;refine .ite (fun c=>?_) fun c=>?_
 ·simp only[decide_eq_true_eq]at c;refine .bind .kb fun r7 h7=>qG.zm qB ?_;have h7l:=h7.2;refine lines fun v r Yt Ql hr=>?_;refine .zm qB ?_;refine .bind (placeA s hs env _ x _ _ _ _ _ k (by omega)) fun a ha=>?_;refine .bind (placeB s hs env _ x _ _ _ _ a (s.length-k) k (by omega)) fun b hb=>?_;rw[wi (n:=v.1+1)];refine .ite (fun c2=>?_) fun c2=>?_
  ·simp only[decide_eq_true_eq]at c2;refine .bind .kb fun w hw=>?_;have hwl:=hw.2;refine .zm qB ?_;refine .bind (dig _ Yt (by omega)) fun d1 h1=>?_;refine .bind (dig _ (by omega) (by omega)) fun d2 h2=>?_;refine .zm qB ?_;refine .bind (get _) fun g hg=>?_;exact TO _ _ _ (fun a b c=>_) (by omega) (by omega) (by simp) (by repeat (first|refine pA (by simp only;omega) ?_|exact fun p hp=>absurd hp (by simp))) (fun a b c ha hb hc=>⟨by simp,(by repeat (first|refine pA (by simp only;omega) ?_|exact fun p hp=>absurd hp (by simp)))⟩) g hg
  refine .bind (dig _ Yt (by omega)) fun d1 h1=>?_;refine .bind (dig _ (by omega) (by omega)) fun d2 h2=>?_;refine .zm qB ?_;refine .bind (get _) fun g hg=>?_;exact TO _ _ _ (fun a b c=>_) (by omega) (by omega) (by simp) (by repeat (first|refine pA (by simp only;omega) ?_|exact fun p hp=>absurd hp (by simp))) (fun a b c ha hb hc=>⟨by simp,(by repeat (first|refine pA (by simp only;omega) ?_|exact fun p hp=>absurd hp (by simp)))⟩) g hg
 skip
 refine lines fun v r Yt Ql hr=>?_;refine .zm qB ?_;refine .bind (placeA2 s hs env _ x _ _ _ _ k (by omega)) fun a ha=>?_;refine .bind (placeB2 s hs env _ x _ _ _ a (s.length-k) k (by omega)) fun b hb=>?_;rw[wi (n:=v.1+1)];refine .ite (fun c2=>?_) fun c2=>?_
 ·simp only[decide_eq_true_eq]at c2;refine .bind .kb fun w hw=>?_;have hwl:=hw.2;refine .zm qB ?_;refine .bind (dig _ Yt (by omega)) fun d1 h1=>?_;refine .bind (dig _ (by omega) (by omega)) fun d2 h2=>?_;refine .zm qB ?_;refine .bind (get _) fun g hg=>?_;exact TO _ _ _ (fun a b c=>_) (by omega) (by omega) (by simp) (by repeat (first|refine pA (by simp only;omega) ?_|exact fun p hp=>absurd hp (by simp))) (fun a b c ha hb hc=>⟨by simp,(by repeat (first|refine pA (by simp only;omega) ?_|exact fun p hp=>absurd hp (by simp)))⟩) g hg
 refine .bind (dig _ Yt (by omega)) fun d1 h1=>?_;refine .bind (dig _ (by omega) (by omega)) fun d2 h2=>?_;refine .zm qB ?_;refine .bind (get _) fun g hg=>?_;exact TO _ _ _ (fun a b c=>_) (by omega) (by omega) (by simp) (by repeat (first|refine pA (by simp only;omega) ?_|exact fun p hp=>absurd hp (by simp))) (fun a b c ha hb hc=>⟨by simp,(by repeat (first|refine pA (by simp only;omega) ?_|exact fun p hp=>absurd hp (by simp)))⟩) g hg
end
end Xr
namespace Xr
theorem M6(s:qa)(hs:s.length<=65536)(line:Int):qG (sq s line) (fun v=>v.1.length<=65536):=by
 have loop: ∀(f:Int)(d k:Nat),k+d=s.length->qG (wO (s,f,(k:Int))) (fun v=>k<=v/\v<=s.length):=by
  intro f d;induction d with
  |zero=>intro k h;rw[wO.eq_1,if_neg (by simp;omega)];exact .ret ⟨by omega,by omega⟩
  |succ d ih=>
   intro k h;obtain⟨b,hb⟩:=gl (l:=s) (k:=k) (by omega);have k1:=ih (k+1) (by omega);rw[wO.eq_1,if_pos (by simp;omega),ws (by omega)];refine .go (gi hb) ?_;exact .ite (fun _=>qG.mono k1 fun v hv=>⟨by omega,hv.2⟩) fun _=>qG.ite (fun _=>qG.mono k1 fun v hv=>⟨by omega,hv.2⟩) fun _=> .ret ⟨by omega,by omega⟩
 unfold sq;obtain⟨a,b,c,g1,_,g3,g4,g5,_⟩:=oe s (by omega) line;refine .go g1 ?_;refine .ite (fun _=> .ret (by simp)) fun _=>?_;obtain⟨k,rfl⟩: ∃k:Nat,a=k:=⟨a.toNat,by omega⟩;refine .bind (loop k (s.length-k) k (by omega)) fun v hv=>?_;refine .bind (qG.kb (by simp only;omega) (by simp only;omega) (by omega)) fun r hr=> .ret ?_;have:=hr.2;simp only at this |-;omega
structure Wx (q:List qx) (es:List qo) (uR:List (Sl qu)):Prop where
 le:es.length=uR.length
 each: ∀(j:Nat) e,es[j]? =some e-> ∃x m,q[j]? =some x/\uR[j]? =some m/\e.span=yU x/\N7 e.text m.l
theorem Wx.Ui{q:List qx}{es:List qo}{uR:List (Sl qu)}(h:Wx q es uR){x:qx}(hx:q[es.length]? =some x){t:qa}{m:Sl qu}(hm:N7 t m.l):Wx q (es++[⟨yU x,t⟩]) (uR++[m]):=by
 have hle:=h.le;refine⟨by simp[hle],fun j e he=>?_⟩;by_cases c:j<es.length
 ·rw[List.getElem?_append_left c]at he;obtain⟨y,z,a,b,c1,d⟩:=h.each j e he;exact tW
 exact tW
theorem C4{st:qr}(h:wR st)(l:Sl qA)(hl:qK (l.l.map mj)<=8192002){env:Sl qt}(he:VR env)(unit:qa)(hu:unit.length<=65536)(t6:qr): ∀(r:List qx)(i:Nat)(es:List qo)(uR:List (Sl qu)),st.xF.l.drop i=r->es.length=i->Wx st.xF.l es uR->
  qG (vC (l,env,unit,(i:Int),st,t6,es,uR)) (fun v=>match v with| .inl y=>y.1≠0| .inr y=>y.1.length=st.xF.l.length/\Wx st.xF.l y.1 y.2):=by
 have h64:=h.may.Wg;have ht:=h.may.text;intro r;induction r with
 |nil=>
  intro i es uR h0 h1 h2;have:=zc h0;rw[vC.eq_1,if_neg (by simp;omega)];refine .ret ⟨?_,h2⟩;cases rR:es.length with
  |zero=>omega
  |succ k=>
   obtain⟨e,hee⟩:=gl (l:=es) (k:=k) (by omega);obtain⟨x,m,a,_⟩:=h2.each k e hee;have:=(qF a).1;omega
 |cons x r ih=>
  intro i es uR h0 h1 h2;obtain⟨g1,g2,g3⟩:=zp h0;have hx:=h.may.XI x (qX g1);have hle:=h2.le;rw[vC.eq_1,if_pos (by simp;omega),ws (by omega)];refine .go (gi g1) ?_;refine .go (X2 x) ?_;refine .bind (GQ ht he x hx.1 hx.2) fun v hv=>?_;refine .bind (Nq st.text (by omega) (yU x).qO) fun a _=>?_;refine .bind (M6 st.text ht a.1) fun ld hld=>?_;refine .bind (N8 ⟨by have:=hv.1;omega,hv.2,by omega,by omega⟩ l hl) fun m hm=>?_;refine .ite (fun c=> .ret (by simpa using c)) fun c=>?_;refine .zm qB (qG.zm qB ?_);exact ih (i+1) _ _ g2 (by simp[h1]) (h2.Ui (by rw[h1];exact g1) (hm (by simpa using c)))
structure N6 (i:qw):Prop where
 BJ: ∃H:Int->Int->Prop,aV H (-1) i.span.qO i.span.to 0 i.stops.l
 len:i.stops.l.length<=257
 stop: ∀x∈i.stops.l,me x
 free: ∃x∈i.stops.l,x.qJ=false
def lZ:Int->Int->List qw->Prop
 |lo,hi,[]=>lo<=hi
 |lo,hi,i::l=>lo<=i.span.qO/\N6 i/\lZ i.span.to hi l
theorem lZ.le: ∀{l:List qw}{lo hi:Int},lZ lo hi l->lo<=hi:=by
 intro l;induction l with
 |nil=>intro lo hi h;exact h
 |cons i l ih=>
  intro lo hi h;obtain⟨H,hL⟩:=h.2.1.BJ;have:=Go.Proofs.YtmllebdamdnhoaaGreat.aV.le hL;have:=ih h.2.2;have:=h.1;omega
theorem lZ.each: ∀{l:List qw}{lo hi:Int},lZ lo hi l-> ∀(a:Nat) i,l[a]? =some i->lo<=i.span.qO/\i.span.to<=hi/\N6 i/\ ∀(b:Nat) j,a<b->l[b]? =some j->i.span.to<=j.span.qO:=by
 intro l;induction l with
 |nil=>intro lo hi h a i ha;simp at ha
 |cons i l ih=>
  intro lo hi h a j ha;obtain⟨H,hL⟩:=h.2.1.BJ;have h1:=Go.Proofs.YtmllebdamdnhoaaGreat.aV.le hL;cases a with
  |zero=>
   simp only[List.getElem?_cons_zero,kX]at ha;subst ha;refine⟨h.1,lZ.le h.2.2,h.2.1,fun b k hb hk=>?_⟩;cases b with
   |zero=>omega
   |succ b=>exact(ih h.2.2 b k (by simpa using hk)).1
  |succ a=>
   obtain⟨a1,a2,a3,a4⟩:=ih h.2.2 a j (by simpa using ha);refine⟨by have:=h.1;omega,a2,a3,fun b k hb hk=>?_⟩;exact tW
theorem lZ.may{l:List qw}{hi:Int}(h:lZ 0 hi l):cw l hi:=by
 refine⟨fun a i ha=>?_,fun a b i j eM ha hb=>(lZ.each h a i ha).2.2.2 b j eM hb⟩;obtain⟨h1,h2,h3,_⟩:=lZ.each h a i ha;obtain⟨H,hL⟩:=h3.BJ;exact lay_may hL h1 h2
def Ch(n:Int):Int->List qo->Prop
 |p,[]=>p<=n
 |p,e::r=>p<=e.span.qO/\e.span.qO<=e.span.to/\Ch n e.span.to r
theorem C6(es:Sl qo)(fN:Int)(i:Nat)(qk:Int)(b0 t6:qr)(uR:List (Sl qu))(w:qa)(w2:Sl qx)(r7:List qc)(r8:Sl (Sl (Sl Int)))(s:Int)(DX:List qw)(in1 in2:Int)(m:Sl qu)(hm:uR[i]? =some m)(JH:m.l.length<=257)(ha:0<=qk/\qk<=2^40)(hb: ∀x∈m.l,0<=x.span.qO/\x.span.qO<=x.span.to/\x.span.to<=65536):
  ∀(q:List qu)(k:Nat)(out:List qu),m.l.drop k=q->out.length=k->vE (es,fN,(i:Int),qk,(k:Int),b0,t6,uR,w,w2,r7,r8,s,DX,in1,in2,out)=some (out++q.map (lJ qk)):=by
 intro q;induction q with
 |nil=>
  intro k out h0 h1;have:=zc h0;rw[vE.eq_1,gi hm];simp only[xe,z7];rw[if_neg (by simp;omega)];simp
 |cons x q ih=>
  intro k out h0 h1;obtain⟨g1,g2,g3⟩:=zp h0;have hx:=hb x (qX g1);rw[vE.eq_1,gi hm];simp only[xe,z7];rw[if_pos (by simp;omega),gi g1];simp only[z7];rw[if_pos qB,ws (by omega),wi (n:=x.span.qO+qk),wi (n:=x.span.to+qk),ih (k+1) _ g2 (by simp;omega)];simp[lJ]
theorem C5(n:Int)(hn:0<=n/\n<=65536)(es:Sl qo)(hl:es.l.length<=64)(b0 t6:qr)(q:List qx)(uR:List (Sl qu))(hM:Wx q es.l uR)(w:qa)(w2:Sl qx)(r7:List qc)(r8:Sl (Sl (Sl Int)))(s:Int): ∀(r:List qo)(i:Nat)(fN p:Int)(DX:List qw),es.l.drop i=r->i<=64->Ch n p r->0<=p->0<=p+fN-> -(i:Int)*65536<=fN->fN<=(i:Int)*65536->DX.length=i->
  qG (vD (es,fN,(i:Int),b0,t6,uR,w,w2,r7,r8,s,DX)) (fun v=> ∃l,v=DX++l/\l.length=r.length/\lZ (p+fN) (n+fN+tv r) l):=by
 intro r;induction r with
 |nil=>
  intro i fN p DX h0 hi hc _ _ _ _ _;have:=zc h0;rw[vD.eq_1,if_neg (by simp;omega)];refine .ret ⟨[],by simp,rfl, ?_⟩;simp only[lZ,tv,List.map_nil,List.sum_nil];have:p<=n:=hc;omega
 |cons e r ih=>
  intro i fN p DX h0 hi hc hp hpb Yo hb2 hr;obtain⟨g1,g2,g3⟩:=zp h0;obtain⟨x,m,_,hm,_,WX⟩:=hM.each i e g1;obtain⟨c1,c2,c3⟩:=hc;have hcn: ∀(r:List qo)(p:Int),Ch n p r->p<=n:=by
   intro r;induction r with
   |nil=>intro p h;exact h
   |cons e r ih=>intro p h;have h1:=ih _ h.2.2;have:=h.1;have:=h.2.1;omega
  have hen:=hcn r _ c3;have htl:=WX.len;obtain⟨H,hL,_⟩:=WX.BJ;rw[vD.eq_1,if_pos (by simp;omega),ws (by omega)];refine .go (gi g1) ?_;rw[wi (n:=e.span.qO+fN)];refine .go (C6 es fN i _ b0 t6 uR w w2 r7 r8 s DX _ _ m hm WX.many.2 ⟨by omega,by omega⟩ (fun y hy=>?_) m.l 0 [] rfl rfl) ?_
  ·obtain⟨k,hk⟩:=jz hy;have:=LayX.w6 hL (by omega) k y hk;exact⟨this.lo,this.le,by have:=this.hi;omega⟩
  refine .zm qB ?_;rw[wi (n:=e.span.qO+fN+(e.text.length:Int)),wi (n:=fN+(e.text.length:Int)),wi (n:=e.span.to-e.span.qO),wi (n:=fN+(e.text.length:Int)-(e.span.to-e.span.qO))];have hLs:=LayX.shift hL (e.span.qO+fN);simp only[List.nil_append];refine .mono (ih (i+1) _ e.span.to _ g2 (by omega) c3 (by omega) (by omega) (by push_cast;omega) (by push_cast;omega) (by simp[hr])) fun v hv=>?_;obtain⟨l,l1,l2,l3⟩:=hv;refine⟨_::l,by rw[l1,List.append_assoc];rfl,by simp[l2],⟨by simp only;omega,⟨⟨H, ?_⟩, ?_,fun y hy=>?_, ?_⟩, ?_⟩⟩
  ·simp only;rw[show (0:Int)+(e.span.qO+fN)=e.span.qO+fN from by omega,show((e.text.length:Int)+(e.span.qO+fN))=e.span.qO+fN+e.text.length from by omega]at hLs;exact hLs
  ·simp only[List.length_map];exact WX.many.2
  ·obtain⟨z,hz,rfl⟩:=List.mem_map.1 hy;exact WX.qP z hz
  ·obtain⟨z,hz,h⟩:=WX.free;exact⟨lJ _ z,List.mem_map.2 ⟨z,hz,rfl⟩,h⟩
  simp only;rw[show e.span.qO+fN+(e.text.length:Int)=e.span.to+(fN+e.text.length-(e.span.to-e.span.qO))from by omega];rw[show n+fN+tv (e::r)=n+(fN+e.text.length-(e.span.to-e.span.qO))+tv r from by simp only[tv,List.map_cons,List.sum_cons,gE];omega];exact l3
end Xr
namespace Xr
theorem Lh{w:World}(hu:WK w){y:List qc}(hy:Fin w.1.length w.2.2.1 y)(h8:w.2.2.1.length<=8):wR ⟨w.1,w.2.1,⟨false,y⟩⟩:=by
 have lW:=hy.Jm.1;refine⟨⟨hu.text,by simp only;omega,hu.ok.ne,hu.ok.Wg,hu.ok.XI,hu.ok.T4,hy.ok.may,fun j s hs=>?_⟩,hy.ok.small,hy.ok.stop,fun s hs=>?_⟩
 ·have:=hy.closed j s (qF hs).1 hs;exact⟨this.1,this.2.2⟩
 obtain⟨j,hj⟩:=jz hs;exact(hy.closed j s (qF hj).1 hj).2.1
theorem Ar{n:Nat}{q:List qx}(hi:JO n q)(ha:PQ q): ∀(es:List qo)(j:Nat)(p:Int),(∀(k:Nat) e,es[k]? =some e-> ∃x,q[j+k]? =some x/\e.span=yU x)->p<=n->(∀ x,q[j]? =some x->p<=(yU x).qO)->Ch n p es:=by
 intro es;induction es with
 |nil=>intro j p _ h _;exact h
 |cons e es ih=>
  intro j p h hp hx0;obtain⟨x,hx,he⟩:=h 0 e (by simp);have hxi:=hi x (qX hx);have hle:=fJ x;refine⟨by rw[he];exact hx0 x hx,by rw[he];exact hle,ih (j+1) _ (fun k e' h' =>?_) (by rw[he];exact hxi.2) fun y hy=>?_⟩
  ·obtain⟨y,hy,h2⟩:=h (k+1) e' (by simpa using h');exact⟨y,by rw[show j+1+k=j+(k+1)from by omega];exact hy,h2⟩
  rw[he];obtain⟨a1,a2⟩:=qF hx;obtain⟨b1,b2⟩:=qF hy;have:=List.pairwise_iff_getElem.1 ha j (j+1) a1 b1 (by omega);simp only[Nat.add_zero]at a2;rw[a2,b2]at this;omega
theorem Ix{w:World}(hw:WK w)(s:qc)(hs:jX s)(hm:cw s.insts.l w.1.length)(hk: ∀i∈s.insts.l,∀ x∈i.stops.l,me x)(h8:w.2.2.1.length<8):qG (hJ s w.1 w.2.1 w.2.2.1 w.2.2.2) (fun v=>v.1=w.2.2.1++[s]/\WK (w.1,w.2.1,v.1,v.2)):=by
 obtain⟨f,f1,f2⟩:=ZG s hs;have Z5:=hw.ok.Jx;unfold hJ;refine .zm qB (qG.go f1 (qG.zm qB (.ret ⟨rfl,⟨?_,hw.text⟩⟩)));have tQ: ∀{P:qc->Prop},(∀ x∈w.2.2.1,P x)->P s-> ∀x∈w.2.2.1++[s],P x:=by
  intro P h1 h2 x hx;rcases List.mem_append.1 hx with hx|hx
  ·exact h1 x hx
  simp only[List.mem_singleton]at hx;subst hx;exact h2
 refine⟨hw.ok.blen,hw.ok.ne,hw.ok.Wg,hw.ok.T4,hw.ok.XI,by simp;omega,tQ hw.ok.small hs,tQ hw.ok.may hm,by simp[Z5],fun _=>rfl,fun j x g hx hg=>?_,tQ hw.ok.stop hk⟩;by_cases c:j<w.2.2.1.length
 ·rw[List.getElem?_append_left c]at hx;simp only at hg;rw[List.getElem?_append_left (by omega)]at hg;exact hw.ok.each j x g hx hg
 have hj:=(qF hx).1;simp only[List.length_append,List.length_singleton]at hj;have:j=w.2.2.1.length:=by omega
 subst this;rw[List.getElem?_append_right (xJ _)]at hx;simp only at hg;rw[List.getElem?_append_right (by omega),Z5]at hg;simp only[Nat.sub_self,List.getElem?_cons_zero,kX]at hx hg;subst hx;rw[<- hg];exact f2
theorem M9{st:qr}(h:wR st)(l:Sl qA)(hl:qK (l.l.map mj)<=8192002){env:Sl qt}(he:VR env):qG (ta st l env) (fun v=>v.2=0->wR v.1):=by
 have ht:=h.may.text;have h64:=h.may.Wg;have bU:=List.length_pos_iff.2 h.may.ne;unfold ta;refine JX h ?_;rw[if_neg (by simp)];refine .bind (Wy l (by omega)) fun a _=>?_;refine .ite (fun _=> .ret fun h0=>absurd h0 (by decide)) fun _=>?_;refine .bind (Td _ env he) fun u hu=>?_;refine .bind (C4 h l hl he u.1 hu _ st.xF.l 0 [] [] rfl rfl ⟨rfl,by simp⟩) fun v hv=>?_;rcases v with v|v
 ·exact .ret fun h0=>absurd h0 hv
 obtain⟨es,uR⟩:=v;obtain⟨v1,hM⟩:=hv;simp only at v1 hM |-;have hT:wu es<=es.length*65536:=Up es 65536 fun e hee=>by
  obtain⟨k,hk⟩:=jz hee;obtain⟨x,m,_,_,_,hm⟩:=hM.each k e hk;exact hm.len
 have hT2:es.length*65536<=64*65536:=mulR _ (by omega);refine .bind (TC (st.text.length:Int) (by omega) ⟨es.isEmpty,es⟩ (by simp only;omega) (by simp only;omega)) fun c hc=>?_;refine .ite (fun c0=> .ret fun h0=>absurd h0 (by simpa using c0)) fun c0=>?_;obtain⟨e1,e2⟩:=hc (by simpa using c0);simp only at e1 e2;obtain⟨fl,b1,b2⟩:=Hx st h;refine .go b1 ?_;refine .bind (rT (st.text,⟨false,st.xF.l⟩,st.qj.l,fl) b2.ok ht ⟨es.isEmpty,es⟩ e1 (by simp only;omega) (by simp only;omega)) fun w hw=>?_;have hwt:=hw.text;simp only at hwt;refine .ite (fun _=> .ret fun h0=>absurd h0 (by decide)) fun c1=>?_;have hw8:w.2.2.1.length<8:=by simp only[decide_eq_true_eq]at c1;omega
 have W5:Ch st.text.length 0 es:=Ar (n:=st.text.length) h.may.XI h.may.T4 es 0 0 (fun k e hk=>by
  obtain⟨x,m,a,_,b,_⟩:=hM.each k e hk
  exact⟨x,by rw[Nat.zero_add];exact a,b⟩) (by omega) fun x hx=>(h.may.XI x (qX hx)).1
 refine .bind (C5 st.text.length ⟨by omega,by omega⟩ ⟨es.isEmpty,es⟩ (by simp only;omega) st _ st.xF.l uR hM w.1 w.2.1 w.2.2.1 w.2.2.2 0 es 0 0 0 [] rfl (by omega) W5 (by omega) (by omega) (by omega) (by omega) rfl) fun is his=>?_;obtain⟨BI,i1,i2,i3⟩:=his;simp only[List.nil_append]at i1;subst i1;rw[show (0:Int)+0=0 from rfl,show(st.text.length:Int)+0+tv es=w.1.length from by omega]at i3;have hism:=lZ.may i3;have hisl:is.length<=64:=by omega
 have E8: ∀i∈is,N6 i:=fun i hi=>by
  obtain⟨k,hk⟩:=jz hi;exact(lZ.each i3 k i hk).2.2.1
 have hb: ∀i∈is,i.stops.l.length<=2^12:=fun i hi=>by have:=(E8 i hi).len;omega
 refine .bind (iP ⟨is.isEmpty,is⟩ hb (by simp only;omega)) fun ns SU=>?_;have jv:ns.l≠[]:=by
  refine SU.2 ?_;obtain⟨i,hi⟩:=gl (l:=is) (k:=0) (by omega);exact⟨i,qX hi,(E8 i (qX hi)).free⟩
 have hnpos:=List.length_pos_iff.2 jv;obtain⟨x,hx⟩:=gl (l:=ns.l) (k:=0) hnpos;refine .go (gi hx) ?_;have hxs:vU x is≠[]:=SU.1.of x (qX hx);have hWK:WK w:=⟨hw.ok,by omega⟩;refine .bind (Ix hWK ⟨x,⟨is.isEmpty,is⟩⟩ ⟨by simp only;omega,hb⟩ hism (fun i hi=>(E8 i hi).stop) hw8) fun p hp=>?_;obtain⟨p1,p2⟩:=hp;have hplen:p.1.length=w.2.2.1.length+1:=by rw[p1];simp
 refine .bind (K0 (w.1,w.2.1,p.1,p.2) p2) fun u hu=>?_;refine .ite (fun c1=> .ret fun h0=>absurd h0 (by simpa using c1)) fun c1=>?_;rcases hu with hu|⟨_,hu,hlk⟩
 ·exact absurd (by simpa using c1) hu
 have hulen:u.2.2.2.1.length=p.1.length:=hlk.len;have ent: ∀y,Fin u.2.1.length u.2.2.2.1 y->qG (if (decide ((y.length:Int)<(p.1.length:Int)))=true then some ((qr.mk u.2.1 u.2.2.1 (⟨false,y⟩:(Sl qc))),(0:Int))else nC u.2.1 u.2.2.1 x y>>=fun oM=>some (oM.1,oM.2)) (fun v=>v.2=0->wR v.1):=by
  intro y hy;have Ep:=Lh hu hy (by omega);refine .ite (fun _=> .ret fun _=>Ep) fun c2=>?_;have Es:y.length=p.1.length:=by
   have:=hy.Jm.1;simp only[decide_eq_true_eq]at c2;omega
  refine .bind (Sy Ep x (fun z hz hzl=>?_) (by intro e;simp only at e;rw[e]at Es;simp at Es;omega)) fun v hv=> .ret hv;obtain⟨s,s1,s2⟩:=hy.Jm.2 _ z hzl;have hidx:y.length-1=w.2.2.1.length:=by omega
  obtain⟨s',t1,t2⟩:=hlk.cur w.2.2.1.length ⟨x,⟨is.isEmpty,is⟩⟩ (by simp only[p1];rw[List.getElem?_append_right (xJ _)];simp);simp only at s1;rw[hidx]at s1;have t1' :u.2.2.2.1[w.2.2.1.length]? =some s' :=t1;rw[s1]at t1';cases t1';have:z.cur=x:=s2.trans t2;rw[<- this];exact Ep.Jm z hz
 refine .bind (WE u.2 hu.ok) fun y hy=>?_;rcases y with y|y
 ·exact ent y hy
 exact ent y hy
end Xr
namespace Xr
theorem bL(b:UInt8):qG (kj b) (fun _=>True):=by unfold kj;split<;>exact .ret trivial
theorem mN(b:UInt8):qG (wx b) (fun _=>True):=by unfold wx;(repeat' split)<;>exact .ret trivial
theorem K2(s:qa):qG (j9 s) (fun _=>True):=by
 have loop:s.length<=64-> ∀(d k:Nat),k+d=s.length->qG (xG (s,(k:Int))) (fun _=>True):=by
  intro hs d;induction d with
  |zero=>intro k h;rw[xG.eq_1,if_neg (by simp;omega)];exact .ret trivial
  |succ d ih=>
   intro k h;obtain⟨b,hb⟩:=gl (l:=s) (k:=k) (by omega);have k1:=ih (k+1) (by omega);rw[xG.eq_1,if_pos (by simp;omega),ws (by omega)];refine .go (gi hb) ?_;refine .bind (mN b) fun v _=>?_;refine .ite (fun _=>qG.ite (fun _=>qG.ite (fun _=> .ret trivial) fun _=>?_) fun _=>k1) fun _=>k1;refine .bind (bL b) fun v _=>?_;exact .ite (fun _=> .ret trivial) fun _=>k1
 unfold j9;refine .ite (fun _=> .ret trivial) fun c=>?_;simp only[Bool.or_eq_true,decide_eq_true_eq,not_or]at c;refine .bind (loop (by omega) s.length 0 (by omega)) fun v _=>?_;rcases v with v|v<;>exact .ret trivial
theorem set_tot(name value:qa){env:Sl qt}(he:VR env):qG (cl name value env) (fun v=>v.2=0->VR v.1):=by
 have hl:=he.len;unfold cl;refine .bind (K2 name) fun a _=>?_;refine .ite (fun _=> .ret fun h0=>absurd h0 (by decide)) fun _=>?_;refine .ite (fun _=> .ret fun h0=>absurd h0 (by decide)) fun c=>?_;have hv:value.length<=65536:=by simp only[decide_eq_true_eq]at c;omega
 refine .zm qB ?_;have loop: ∀(d k:Nat),k+d=env.l.length->qG (gR (name,value,(k:Int),env.l)) (fun v=>match v with| .inl y=>y.1=0->VR ⟨false,y.2⟩| .inr _=>True):=by
  intro d;induction d with
  |zero=>intro k h;rw[gR.eq_1,if_neg (by simp;omega)];exact .ret trivial
  |succ d ih=>
   intro k h;obtain⟨x,hx⟩:=gl (l:=env.l) (k:=k) (by omega);rw[gR.eq_1,if_pos (by simp;omega),ws (by omega)];refine .go (gi hx) ?_;refine .ite (fun _=> .ret fun _=>⟨by simp;omega,fun p hp=>?_⟩) fun _=>ih (k+1) (by omega);rcases List.mem_or_eq_of_mem_set hp with hp|rfl
   ·exact he.val p hp
   exact hv
 refine .bind (loop env.l.length 0 (by omega)) fun v DO=>?_;rcases v with v|v
 ·exact .ret DO
 refine .ite (fun _=> .ret fun h0=>absurd h0 (by decide)) fun c2=>?_;have xB:env.l.length<64:=by simp only[decide_eq_true_eq]at c2;omega
 refine .zm qB (.ret fun _=>⟨by simp;omega,fun p hp=>?_⟩);rcases List.mem_append.1 hp with hp|hp
 ·exact he.val p hp
 simp only[List.mem_singleton]at hp;subst hp;exact hv
structure RY (o:gy):Prop where
 text:o.text.length<=65536
 es:o.edits.l.length<=10
 et:wu o.edits.l<=2^60
 qs:o.xF.l.length<2^60
theorem Pv{b:qa}{q:Sl qx}{ss:Sl qc}(h:wR ⟨b,q,ss⟩){env:Sl qt}(he:VR env){o:gy}(ho:RY o)(r r2:Sl qr):qG (yP o b q ss env r r2) (fun v=>v.2.2=0->wR v.1):=by
 have ht:b.length<=65536:=h.may.text;have h64:q.l.length<=64:=h.may.Wg;have sE:JO b.length q.l:=h.may.XI;have hD: ∀es:Sl qo,es.l.length<=2^19->wu es.l<=2^60->qG (t7 (qr.mk b q ss) es>>=fun v=>some (v.1,true,v.2)) (fun v=>v.2.2=0->wR v.1):=fun es h1 h2=>qG.bind (HO _ h es h1 h2) fun v hv=> .ret fun h0=>by
  rcases hv with hv|⟨_,hv,_⟩
  ·exact absurd h0 hv
  exact hv
 have hF: ∀{p:Option (qr×Int)},qG p (fun v=>v.2=0->wR v.1)->qG (p>>=fun v=>some (v.1,true,v.2)) (fun v=>v.2.2=0->wR v.1):=fun hp=>qG.bind hp fun v hv=> .ret hv;unfold yP;refine .ite (fun _=>?_) fun _=>?_
 ·refine .bind (Dw q o.text h64 ho.text) fun v hv=>hD v (by have:=hv.1;omega) (by have:=hv.2;omega)
 refine .ite (fun _=>?_) fun _=>?_
 ·have:= @NL;exact tW
 refine .ite (fun _=>hD o.edits (by have:=ho.es;omega) ho.et) fun _=>?_;refine .ite (fun _=>qG.bind (a8 (b.length:Int) o.xF ho.qs) fun v hv=> .ret fun h0=>wR.sel h (hv h0)) fun _=>?_;refine .ite (fun _=>qG.bind (go_tot b (by omega) o.n o.extend q (by omega)) fun v hv=> .ret fun h0=>wR.sel h (hv h0)) fun _=>?_;refine .ite (fun _=>?_) fun _=>?_
 ·refine .bind (MO o.text) fun v hv=>?_;refine .ite (fun _=>hF (M9 h v.1 hv.1 he)) fun c=> .ret fun h0=>absurd h0 (by simpa using c)
 have:= @Mr;have:= @MJ;have:= @Gj;have:= @Yb;exact tW
structure MW (b:qa) (q:Sl qx) (ss:Sl qc) (env:Sl qt) (r r2:Sl qr) (n:Nat):Prop where
 Uu:wR ⟨b,q,ss⟩
 env:VR env
 behind: ∀s∈r.l,wR s
 ahead: ∀s∈r2.l,wR s
 len:r.l.length<=n/\r2.l.length<=n
 nb:r.nil=true->r.l=[]
 na:r2.nil=true->r2.l=[]
theorem MW.mono{b:qa}{q:Sl qx}{ss:Sl qc}{env:Sl qt}{r r2:Sl qr}{n:Nat}(h:MW b q ss env r r2 n):MW b q ss env r r2 (n+1):=⟨h.Uu,h.env,h.behind,h.ahead,by have:=h.len;omega,h.nb,h.na⟩
theorem aP{r:List qr}(h: ∀s∈r,wR s){x:qr}(hx:wR x): ∀s∈r++[x],wR s:=fun s hs=>by
 rcases List.mem_append.1 hs with hs|hs
 ·exact h s hs
 simp only[List.mem_singleton]at hs;subst hs;exact hx
theorem Az{b:qa}{q:Sl qx}{ss:Sl qc}{env:Sl qt}{r r2:Sl qr}{n:Nat}(h:MW b q ss env r r2 n)(hn:n<=50){o:gy}(ho:RY o):qG (hQ o b q ss env r r2) (fun v=>match v with
  | .inl y=>MW y.2.1 y.2.2.1 y.2.2.2.1 y.2.2.2.2 r r2 (n+1)
  | .inr (.inl y)=>MW y.2.1 y.2.2.1 y.2.2.2.1 env y.2.2.2.2.2 y.2.2.2.2.1 (n+1)
  | .inr (.inr (.inl y))=>MW y.2.1 y.2.2.1 y.2.2.2.1 env y.2.2.2.2.1 y.2.2.2.2.2 (n+1)
  | .inr (.inr (.inr y))=>MW y.2.1 y.2.2.1 y.2.2.2.1 env y.2.2.2.2 ⟨true,[]⟩ (n+1)):=by
 have hm:=h.mono;have hl:=h.len;have z1: ∀s∈([]:List qr),wR s:=by simp
 have swap: ∀{l:Sl qr},(l.nil=true->l.l=[])->(∀ s∈l.l,wR s)->l.l.length≠0-> ∃(k:Nat)(x:qr),l.l.length=k+1/\l.nil=false/\IntKind.i64.wrap ((l.l.length:Int)-1)=(k:Int)/\qi l.l (k:Int)=some x/\kx l.l (k:Int)=some (l.l.take k)/\wR x/\(∀ s∈l.l.take k,wR s)/\(l.l.take k).length=k\/100<l.l.length:=by
  intro l hnl hw hk;by_cases c:100<l.l.length
  ·exact⟨0,qr.mk [] ⟨true,[]⟩ ⟨true,[]⟩,.inr c⟩
  obtain⟨k,hk⟩: ∃k:Nat,l.l.length=k+1:=⟨l.l.length-1,by omega⟩;obtain⟨x,hx⟩:=gl (l:=l.l) (k:=k) (by omega);refine⟨k,x,.inl ⟨hk, ?_, ?_,gi hx,Xe _ _ (by omega),hw x (qX hx),fun s hs=>hw s (List.mem_of_mem_take hs),by simp;omega⟩⟩
  ·cases e:l.nil
   ·rfl
   rw[hnl e]at hk;simp at hk
  rw[wi (n:=(l.l.length:Int)-1)];omega
 unfold hQ;refine .ite (fun _=>?_) fun _=>?_
 ·refine .bind (set_tot o.name o.text h.env) fun v hv=>?_;refine .ite (fun c=> .ret ⟨h.Uu,hv (by simpa using c),h.behind,h.ahead,hm.len,h.nb,h.na⟩) fun _=> .ret hm
 refine .ite (fun _=>?_) fun _=>?_
 ·refine .ite (fun _=> .ret hm) fun c=>?_;obtain⟨k,x,⟨hk,g0,gw,g1,g2,g3,g4,g5⟩|hc⟩:=swap h.nb h.behind (by intro e;rw[e]at c;simp at c)
  ·rw[gw];refine .ite (fun e=>?_) fun e=>?_
   ·rw[if_pos (by rw[h.na e];rfl)];refine .zm qB ?_;rw[if_neg (by simp[g0])];exact .go g1 (qG.go g2 (.ret ⟨g3,h.env,g4,aP z1 h.Uu,by simp only[List.length_singleton];omega,by simp,by simp⟩))
   refine .zm qB ?_;rw[if_neg (by simp[g0])];exact .go g1 (qG.go g2 (.ret ⟨g3,h.env,g4,aP h.ahead h.Uu,by simp only[List.length_append,List.length_singleton];omega,by simp,by simp⟩))
  omega
 refine .ite (fun _=>?_) fun _=>?_
 ·refine .ite (fun _=> .ret hm) fun c=>?_;obtain⟨k,x,⟨hk,g0,gw,g1,g2,g3,g4,g5⟩|hc⟩:=swap h.na h.ahead (by intro e;rw[e]at c;simp at c)
  ·rw[gw];refine .ite (fun e=>?_) fun e=>?_
   ·rw[if_pos (by rw[h.nb e];rfl)];refine .zm qB ?_;rw[if_neg (by simp[g0])];exact .go g1 (qG.go g2 (.ret ⟨g3,h.env,aP z1 h.Uu,g4,by simp only[List.length_singleton];omega,by simp,by simp⟩))
   refine .zm qB ?_;rw[if_neg (by simp[g0])];exact .go g1 (qG.go g2 (.ret ⟨g3,h.env,aP h.behind h.Uu,g4,by simp only[List.length_append,List.length_singleton];omega,by simp,by simp⟩))
  omega
 refine .bind (Pv h.Uu h.env ho r r2) fun v hv=>?_;refine .ite (fun _=> .ret hm) fun c=>?_;have hw:=hv (by simpa using c);refine .ite (fun _=>?_) fun _=> .ret ⟨hw,h.env,h.behind,h.ahead,hm.len,h.nb,h.na⟩;refine .zm qB (qG.zm qB ?_);rw[if_neg (by simp;omega)];refine .ret ⟨hw,h.env,aP h.behind h.Uu,by simp, ?_,by simp,by simp⟩;simp only[List.length_append,List.length_singleton,List.length_nil];omega
theorem EL(n:Int)(hn:0<=n/\n<=1000)(ss:List qa)(hl:ss.length<=10):qG (fW n ss) (fun v=>v=false-> ∀s∈ss,(s.length:Int)<=n):=by
 have loop: ∀(r:List qa)(i:Nat)(m:Int),ss.drop i=r->0<=m->m<=n->qG (gB (m,(i:Int),ss)) (fun v=>match v with| .inl y=>y=true| .inr _=> ∀s∈r,(s.length:Int)<=n):=by
  intro r;induction r with
  |nil=>
   intro i m h _ _;have:=zc h;rw[gB.eq_1,if_neg (by simp;omega)];exact .ret (by simp)
  |cons x r ih=>
   intro i m h h0 h1;obtain⟨g1,g2,g3⟩:=zp h;rw[gB.eq_1,if_pos (by simp;omega),ws (by omega)];have:= @gi;have:= @wi;exact tW
 unfold fW;refine .bind (loop ss 0 n rfl hn.1 (by omega)) fun v hv=>?_;rcases v with v|v
 ·have hv' :v=true:=hv;exact .ret fun h=>by rw[hv']at h;cases h
 exact .ret fun _=>hv
theorem Gx(many n:Int)(hm:0<=many/\many<=100)(hn:0<=n/\n<=1000)(es:Sl qo):qG (sZ many n es) (fun v=>v=false->es.l.length<=many/\wu es.l<=n):=by
 unfold sZ;refine .ite (fun _=> .ret (by simp)) fun c=>?_;simp only[decide_eq_true_eq]at c;have loop: ∀(r:List qo)(i:Nat)(m:Int),es.l.drop i=r->0<=m->m<=n->qG (gC (m,es,(i:Int))) (fun v=>match v with| .inl y=>y=true| .inr _=>(wu r:Int)<=m):=by
  intro r;induction r with
  |nil=>
   intro i m h _ _;have:=zc h;rw[gC.eq_1,if_neg (by simp;omega)];exact .ret (by simpa[wu])
  |cons x r ih=>
   intro i m h h0 h1;obtain⟨g1,g2,g3⟩:=zp h;rw[gC.eq_1,if_pos (by simp;omega),ws (by omega)];refine .go (gi g1) ?_;refine .ite (fun _=> .ret rfl) fun c=>?_;simp only[decide_eq_true_eq]at c;rw[wi (n:=m-(x.text.length:Int))];refine .mono (ih (i+1) _ g2 (by omega) (by omega)) fun v hv=>?_;rcases v with v|v
   ·exact hv
   simp only[wu,List.map_cons,List.sum_cons]at hv |-
   push_cast
   omega
 refine .bind (loop es.l 0 n rfl hn.1 (by omega)) fun v hv=>?_;rcases v with v|v
 ·have hv' :v=true:=hv;exact .ret fun h=>by rw[hv']at h;cases h
 have hv' :(wu es.l:Int)<=n:=hv;exact .ret fun _=>⟨by omega,hv'⟩
theorem ops_tot(many n:Int)(hm:0<=many/\many<=50)(hn:0<=n/\n<=1000)(os:Sl gy):qG (iL many n os) (fun v=>v=false->os.l.length<=many/\ ∀o∈os.l,RY o):=by
 unfold iL;refine .ite (fun _=> .ret (by simp)) fun c=>?_;simp only[decide_eq_true_eq]at c;have l2: ∀(i:Nat)(x:gy),os.l[i]? =some x->x.edits.l.length<=10-> ∀(r:List qo)(k:Nat)(m:Int)(r0:List qa),x.edits.l.drop k=r->(wu r:Int)<=1000-> -5000+wu r<=m->m<=1000->qG (nr (m,os,(i:Int),(k:Int),r0)) (fun v=>v=m-wu r):=by
  intro i x hx hxl r;induction r with
  |nil=>
   intro k m r0 h _ _ _;have:=zc h;rw[nr.eq_1];refine .go (gi hx) ?_;rw[if_neg (by simp;omega)];exact .ret (by simp[wu])
  |cons e r ih=>
   intro k m r0 h h1 h2 h3;obtain⟨g1,g2,g3⟩:=zp h;have hs:(wu (e::r):Int)=e.text.length+wu r:=by simp[wu]
   rw[nr.eq_1];refine .go (gi hx) ?_;rw[if_pos (by simp;omega),ws (by omega)];refine .go (gi g1) ?_;rw[wi (n:=m-(e.text.length:Int))];exact .mono (ih (k+1) _ r0 g2 (by omega) (by omega) (by omega)) fun v hv=>by omega
 have loop: ∀(r:List gy)(i:Nat)(m:Int),os.l.drop i=r->0<=m->m<=n->qG (nq (m,os,(i:Int))) (fun v=>match v with| .inl y=>y=true| .inr _=> ∀o∈r,RY o):=by
  intro r;induction r with
  |nil=>
   intro i m h _ _;have:=zc h;rw[nq.eq_1,if_neg (by simp;omega)];exact .ret (by simp)
  |cons x r ih=>
   intro i m h h0 h1;obtain⟨g1,g2,g3⟩:=zp h;rw[nq.eq_1,if_pos (by simp;omega),ws (by omega)];refine .go (gi g1) ?_;refine .bind (EL m ⟨h0,by omega⟩ [x.name,x.text] (by simp)) fun v hv=>?_;refine .ite (fun _=> .ret rfl) fun c1=>?_;have DP:=hv (by simpa using c1);have hname:=DP x.name (by simp);have htext:=DP x.text (by simp);refine .ite (fun _=> .ret rfl) fun c2=>?_;refine .ite (fun _=> .ret rfl) fun c3=>?_;simp only[decide_eq_true_eq]at c2 c3;refine .bind (Gx 10 m (by omega) ⟨h0,by omega⟩ x.edits) fun u hu=>?_;refine .ite (fun _=> .ret rfl) fun c4=>?_;obtain⟨u1,u2⟩:=hu (by simpa using c4);rw[wi (n:=m-(x.name.length:Int)),wi (n:=m-(x.name.length:Int)-(x.text.length:Int))];refine .bind (l2 i x g1 (by omega) x.edits.l 0 _ _ rfl (by omega) (by omega) (by omega)) fun w hw=>?_;refine .ite (fun _=> .ret rfl) fun c5=>?_;simp only[decide_eq_true_eq]at c5;refine .mono (ih (i+1) w g2 (by omega) (by omega)) fun z hz=>?_;rcases z with z|z
   ·exact hz
   intro o ho;rcases List.mem_cons.1 ho with rfl|ho
   ·exact⟨by omega,by omega,by omega,by omega⟩
   exact hz o ho
 refine .bind (loop os.l 0 n rfl hn.1 (by omega)) fun v hv=>?_;rcases v with v|v
 ·have hv' :v=true:=hv;exact .ret fun h=>by rw[hv']at h;cases h
 exact .ret fun _=>⟨by omega,hv⟩
theorem well0:wR ⟨[],⟨false,[⟨0,0⟩]⟩,⟨true,[]⟩⟩:=by
 refine⟨⟨by simp,by simp,by simp,by simp,fun x hx=>?_,by simp[PQ],by simp,fun j s hs=>by simp at hs⟩,by simp,by simp,by simp⟩;simp only[List.mem_singleton]at hx;subst hx;exact⟨by decide,by decide⟩
theorem new_ok:aI=some (.inr (0,[],⟨false,[⟨0,0⟩]⟩,⟨true,[]⟩,⟨true,[]⟩)):=by
 unfold aI;rw[tc.eq_1,if_neg (by simp)];rfl
end Xr
namespace Xr
theorem Sp(os:Sl gy)(hl:os.l.length<=40)(hO: ∀o∈os.l,RY o)(t2:qr): ∀(r:List gy)(i:Nat)(b:qa)(q:Sl qx)(ss:Sl qc)(env:Sl qt)(r1 r2:Sl qr),os.l.drop i=r->MW b q ss env r1 r2 i->
  qG (ky (os,(i:Int),t2,b,q,ss,env,r1,r2)) (fun v=>wR ⟨v.1,v.2.1,v.2.2.1⟩):=by
 intro r;induction r with
 |nil=>
  intro i b q ss env r1 r2 h hw;have:=zc h;rw[ky.eq_1,if_neg (by simp;omega)];exact .ret hw.Uu
 |cons o r ih=>
  intro i b q ss env r1 r2 h hw;obtain⟨g1,g2,g3⟩:=zp h;rw[ky.eq_1,if_pos (by simp;omega),ws (by omega)];refine .go (gi g1) ?_;refine .bind (Az hw (by omega) (hO o (qX g1))) fun v hv=>?_;rcases v with y|y|y|y
  ·exact ih (i+1) _ _ _ _ _ _ g2 hv
  ·exact ih (i+1) _ _ _ _ _ _ g2 hv
  ·exact ih (i+1) _ _ _ _ _ _ g2 hv
  exact ih (i+1) _ _ _ _ _ _ g2 hv
theorem ND(os:Sl gy)(hl:os.l.length<=40)(hO: ∀o∈os.l,RY o):qG (cF os) wR:=by
 unfold cF;refine .go new_ok ?_;refine .bind (Sp os hl hO _ os.l 0 _ _ _ _ _ _ rfl ⟨well0,⟨by simp,by simp⟩,by simp,by simp,by simp,by simp,by simp⟩) fun v hv=> .ret hv
end Xr
namespace Xr
theorem Qp(x n:Int)(h0:0<n)(h1:n<=2^40):qG (pN x n) (fun v=>0<=v/\v<n):=by
 have hw:IntKind.u64.wrap n=n:=by
  simp only[IntKind.wrap,IntKind.bits,IntKind.signed];simp;omega
 have hx:0<=IntKind.u64.wrap x:=by
  simp only[IntKind.wrap,IntKind.bits,IntKind.signed];simp;omega
 unfold pN;rw[hw,if_pos (by omega)];have h2:=Int.tmod_nonneg n hx;have h3:=Int.tmod_lt_of_pos (IntKind.u64.wrap x) h0;rw[wi (n:=(IntKind.u64.wrap x).tmod n)];exact .ret ⟨h2,h3⟩
theorem X3(a b:ql):fj a b=some (decide (xo a b)):=rA a b
theorem Cn(s:qc)(qk:ql)(a:Nat)(i:qw)(hi:s.insts.l[a]? =some i)(hl:i.stops.l.length<=2^12)(KJ:Sl qw)(N2 Uq k0:Int)(b2:qw): ∀(r:List qu)(k:Nat),i.stops.l.drop k=r->
  ∃v:Int⊕Unit,jZ (k0,KJ,N2,Uq,i.stops,(i.stops.l.length:Int),(k:Int),s,qk,b2)=some v/\xY ((a:Int),(k:Int),s,qk)=some v/\ ∀y,v= .inl y->0<=y:=by
 intro r;induction r with
 |nil=>
  intro k h;have:=zc h;refine⟨.inr (), ?_, ?_,by simp⟩
  ·rw[jZ.eq_1,if_neg (by simp;omega)]
  rw[xY.eq_1,gi hi];simp only[xe,z7];rw[if_neg (by simp;omega)]
 |cons x r ih=>
  intro k h;obtain⟨g1,g2,g3⟩:=zp h;obtain⟨v,v1,v2,v3⟩:=ih (k+1) g2;by_cases c:((x.n==s.cur)&&(!x.qJ))=true/\xo qk x.span
  ·refine⟨.inl k, ?_, ?_,fun y hy=>by cases hy;omega⟩
   ·rw[jZ.eq_1,if_pos (by simp;omega),gi g1];simp only[xe,z7];rw[if_pos c.1,X3];simp[c.2]
   rw[xY.eq_1,gi hi];simp only[xe,z7];rw[if_pos (by simp;omega),gi g1];simp only[z7];rw[if_pos c.1,rA];simp[c.2]
  refine⟨v, ?_, ?_,v3⟩
  ·rw[jZ.eq_1,if_pos (by simp;omega),gi g1,ws (by omega),v1];simp only[xe,z7];by_cases c1:((x.n==s.cur)&&(!x.qJ))=true
   ·rw[if_pos c1,X3];have: ¬xo qk x.span:=fun h=>c ⟨c1,h⟩;simp[this]
   rw[if_neg c1]
  rw[xY.eq_1,gi hi];simp only[xe,z7];rw[if_pos (by simp;omega),gi g1,ws (by omega),v2];simp only[z7];by_cases c1:((x.n==s.cur)&&(!x.qJ))=true
  ·rw[if_pos c1,rA];have: ¬xo qk x.span:=fun h=>c ⟨c1,h⟩;simp[this]
  rw[if_neg c1]
theorem K9(s:qc)(hs:jX s)(qk:ql): ∃a k:Int,gA s qk=some (a,k)/\ko s qk=some (a,k)/\(a<0↔k<0):=by
 have loop: ∀(r:List qw)(a:Nat),s.insts.l.drop a=r-> ∃v:(Int×Int)⊕Unit,kR (s.insts,(s.insts.l.length:Int),(a:Int),s,qk)=some v/\jn ((a:Int),s,qk)=some v/\ ∀y,v= .inl y->0<=y.1/\0<=y.2:=by
  have hn:=hs.1;intro r;induction r with
  |nil=>
   intro a h;have:=zc h;refine⟨.inr (), ?_, ?_,by simp⟩
   ·rw[kR.eq_1,if_neg (by simp;omega)]
   rw[jn.eq_1,if_neg (by simp;omega)]
  |cons i r ih=>
   intro a h;obtain⟨g1,g2,g3⟩:=zp h;obtain⟨u,u1,u2,u3⟩:=Cn s qk a i g1 (hs.2 i (qX g1)) s.insts (s.insts.l.length:Int) (a:Int) (a:Int) i i.stops.l 0 rfl;obtain⟨v,v1,v2,v3⟩:=ih (a+1) g2;rw[show ((0:Nat):Int)=0 from rfl]at u1 u2;rcases u with y|y
   ·refine⟨.inl ((a:Int),y), ?_, ?_,fun z hz=>by cases hz;exact⟨by simp,u3 y rfl⟩⟩
    ·rw[kR.eq_1,if_pos (by simp;omega),gi g1];simp only[xe,z7,u1]
    rw[jn.eq_1,if_pos (by simp;omega),u2];simp only[xe,z7]
   refine⟨v, ?_, ?_,v3⟩
   ·rw[kR.eq_1,if_pos (by simp;omega),gi g1,ws (by omega)];simp only[xe,z7,u1,v1]
   rw[jn.eq_1,if_pos (by simp;omega),u2,ws (by omega)];simp only[xe,z7,v2]
 obtain⟨v,v1,v2,v3⟩:=loop s.insts.l 0 rfl;rw[show ((0:Nat):Int)=0 from rfl]at v1 v2;unfold gA ko;rw[v1,v2];rcases v with y|y
 ·have:=v3 y rfl;exact⟨y.1,y.2,rfl,rfl,by omega⟩
 exact⟨-1,-1,rfl,rfl,by omega⟩
theorem Br(s:qc)(hs:jX s)(es:Sl qo)(hl:es.l.length<2^60): ∃b:Bool,nL s es=some b/\ur s es=some b:=by
 have loop: ∀(d k:Nat),k+d=es.l.length-> ∃v:Bool⊕Unit,kS (es,(es.l.length:Int),(k:Int),s)=some v/\jo (es,(k:Int),s)=some v:=by
  intro d;induction d with
  |zero=>
   intro k h;refine⟨.inr (), ?_, ?_⟩
   ·rw[kS.eq_1,if_neg (by simp;omega)]
   rw[jo.eq_1,if_neg (by simp;omega)]
  |succ d ih=>
   intro k h;obtain⟨x,hx⟩:=gl (l:=es.l) (k:=k) (by omega);obtain⟨a,j,o1,o2,o3⟩:=K9 s hs x.span;obtain⟨v,v1,v2⟩:=ih (k+1) (by omega);by_cases c:a<0
   ·refine⟨.inl false, ?_, ?_⟩
    ·rw[kS.eq_1,if_pos (by simp;omega),gi hx];simp only[xe,z7,o1];rw[if_pos (by simpa using o3.1 c)]
    rw[jo.eq_1,if_pos (by simp;omega),gi hx];simp only[xe,z7,o2];rw[if_pos (by simpa using c)]
   refine⟨v, ?_, ?_⟩
   ·rw[kS.eq_1,if_pos (by simp;omega),gi hx,ws (by omega)];simp only[xe,z7,o1,v1];rw[if_neg (by simp only[decide_eq_true_eq];omega)]
   rw[jo.eq_1,if_pos (by simp;omega),gi hx,ws (by omega)];simp only[xe,z7,o2,v2];rw[if_neg (by simpa using c)]
 obtain⟨v,v1,v2⟩:=loop es.l.length 0 (by omega);rw[show ((0:Nat):Int)=0 from rfl]at v1 v2;unfold nL ur;rw[v1,v2];rcases v with y|y
 ·exact⟨y,rfl,rfl⟩
 exact⟨true,rfl,rfl⟩
theorem I9(n:Int)(hn:0<=n/\n<=2^30)(es:Sl qo)(hl:es.l.length<=100):qG (cG n es) (fun v=>v.l.length<=100):=by
 have loop: ∀(r:List qo)(i:Nat)(out:List qo),es.l.drop i=r->out.length<=i->i<=es.l.length->qG (uA (n,es,(i:Int),out)) (fun v=>v.length<=100):=by
  intro r;induction r with
  |nil=>
   intro i out h h1 h2;have:=zc h;rw[uA.eq_1,if_neg (by simp;omega)];exact .ret (by omega)
  |cons x r ih=>
   intro i out h h1 h2;obtain⟨g1,g2,g3⟩:=zp h;rw[uA.eq_1,if_pos (by simp;omega),ws (by omega)];refine .go (gi g1) ?_;rw[wi (n:=n+1)];refine .bind (Qp _ (n+1) (by omega) (by omega)) fun a _=>?_;refine .bind (Qp _ 6 (by omega) (by omega)) fun b _=>?_;refine .zm qB (ih (i+1) _ g2 (by simp;omega) (by omega))
 unfold cG;exact .bind (loop es.l 0 [] rfl (by simp) (by simp)) fun v hv=> .ret hv
theorem sp_in{st:qr}(h:wR st){x:qc}(hx:x∈st.qj.l){n:Int}{p:ql}(hp:p∈vU n x.insts.l):0<=p.qO/\p.qO<=p.to/\p.to<=65536:=by
 have ht:=h.may.text;obtain⟨i,hi,y,hy,rfl,_⟩:=OM hp;obtain⟨a,ha⟩:=jz hi;obtain⟨k,hk⟩:=jz hy;have hm:=(h.may.may x hx).may a i ha;have h1:=hm.inside k y hk;have h2:=hm.le k y hk;have h3:=hm.QN;omega
theorem PJ{st:qr}(h:wR st)(es:Sl qo)(hl:es.l.length<=100):qG (pO st es) (fun v=>v.l.length<=100):=by
 have ht:=h.may.text;have h8:=h.may.sA;unfold pO;refine .ite (fun _=>qG.bind (I9 _ ⟨by omega,by omega⟩ es hl) fun v hv=> .ret hv) fun c=>?_;have jv:st.qj.l.length≠0:=by intro e;rw[e]at c;simp at c
 rw[wi (n:=(st.qj.l.length:Int)-1),show(st.qj.l.length:Int)-1=((st.qj.l.length-1:Nat):Int)from by omega];obtain⟨x,hx⟩:=gl (l:=st.qj.l) (k:=st.qj.l.length-1) (by omega);have Tq:=qX hx;refine .go (gi hx) ?_;obtain⟨s1,s2⟩:=spl h x Tq x.cur;refine .go s1 ?_;have loop: ∀(r:List qo)(i:Nat)(qk:Int)(out:List qo),es.l.drop i=r->out.length<=i->i<=es.l.length->qG (kT (es,⟨(vU x.cur x.insts.l).isEmpty,vU x.cur x.insts.l⟩,qk,(i:Int),st,x,out)) (fun v=>v.length<=100):=by
  intro r;induction r with
  |nil=>
   intro i qk out h h1 h2;have:=zc h;rw[kT.eq_1,if_neg (by simp;omega)];exact .ret (by omega)
  |cons e r ih=>
   intro i qk out h0 h1 h2;obtain⟨g1,g2,g3⟩:=zp h0;rw[kT.eq_1];refine .ite (fun c=>?_) fun _=> .ret (by omega);simp only[zB,decide_eq_true_eq]at c;refine .go (gi g1) ?_;refine .bind (Qp _ _ (by simp only;omega) (by simp only;omega)) fun a ha=>?_;refine .bind (qG.get ha.1 ha.2) fun p hp=>?_;have hpi:=sp_in h Tq hp.2;rw[wi (n:=p.to-p.qO),wi (n:=p.to-p.qO+1)];refine .bind (Qp _ _ (by omega) (by omega)) fun b hb=>?_;rw[wi (n:=p.qO+b),wi (n:=p.to-(p.qO+b)),wi (n:=p.to-(p.qO+b)+1)];refine .bind (Qp _ _ (by omega) (by omega)) fun d hd=>?_;rw[ws (k:=i) (by omega)];refine .ite (fun _=>ih (i+1) _ _ g2 (by omega) (by omega)) fun _=>?_;exact .zm qB (ih (i+1) _ _ g2 (by simp;omega) (by omega))
 exact .bind (loop es.l 0 _ [] rfl (by simp) (by simp)) fun v hv=> .ret hv
theorem owns_L2(s:qc)(hs:jX s)(es ins:Sl qo)(hi:ins.l.length<=100)(j:Int)(qk:ql)(st:qr): ∀(d k:Nat),k+d=ins.l.length->jL (es,ins,j,(k:Int),qk,st,s)=some (.inr ()):=by
 intro d;induction d with
 |zero=>intro k h;rw[jL.eq_1,if_neg (by simp;omega)]
 |succ d ih=>
  intro k h;obtain⟨x,hx⟩:=gl (l:=ins.l) (k:=k) (by omega);obtain⟨a,b,o1,o2,_⟩:=K9 s hs x.span;rw[jL.eq_1,if_pos (by simp;omega),gi hx,ws (by omega)];simp only[xe,z7,o1,o2,ih (k+1) (by omega)];simp
theorem owns_L0{st:qr}(h:wR st)(es ins:Sl qo)(hi:ins.l.length<=100)(he:es.l.length<=100)(qk:ql): ∀(d k:Nat),k+d=st.qj.l.length->jK (es,ins,(k:Int),qk,st)=some (.inr ()):=by
 have h8:=h.may.sA;intro d;induction d with
 |zero=>intro k h;rw[jK.eq_1,if_neg (by simp;omega)]
 |succ d ih=>
  intro k hk;obtain⟨s,hs⟩:=gl (l:=st.qj.l) (k:=k) (by omega);have Qi:=h.small s (qX hs);obtain⟨a,b,o1,o2,_⟩:=K9 s Qi qk;obtain⟨p,p1,p2⟩:=Br s Qi es (by omega);obtain⟨q,q1,q2⟩:=Br s Qi ins (by omega);have Lr:=owns_L2 s Qi es ins hi (k:Int) qk st ins.l.length 0 (by omega);rw[show ((0:Nat):Int)=0 from rfl]at Lr;rw[jK.eq_1,if_pos (by simp;omega),gi hs,ws (by omega)];simp only[xe,z7,o1,o2,p1,p2,q1,q2,Lr,ih (k+1) (by omega)];simp
theorem cH(os:Sl gy)(qk:ql)(es:Sl qo):yg os qk es=some true:=by
 have key:qG (yg os qk es) (fun v=>v=true):=by
  unfold yg;refine .bind (ops_tot 6 120 (by omega) (by omega) os) fun v hv=>?_;refine .ite (fun _=>qG.go (a:=true) rfl (.ret rfl)) fun c=>?_;obtain⟨h1,h2⟩:=hv (by simpa using c);refine .bind (Gx 4 60 (by omega) (by omega) es) fun u hu=>?_;refine .ite (fun _=>qG.go (a:=true) rfl (.ret rfl)) fun c=>?_;obtain⟨h3,_⟩:=hu (by simpa using c);refine .bind (ND os (by omega) h2) fun st XF=>?_;refine .bind (PJ XF es (by omega)) fun ins hins=>?_;refine .go (owns_L0 XF es ins hins (by omega) qk st.qj.l.length 0 (by omega)) ?_;exact .go (a:=true) rfl (.ret rfl)
 obtain⟨v,h1,h2⟩:=key;rw[h1,h2]
end Xr
theorem cH(os:Sl gy)(qk:ql)(es:Sl qo):yg os qk es=some true:=Xr.cH os qk es
end Go.Proofs.YtmllebdamdnhoaaGreat
