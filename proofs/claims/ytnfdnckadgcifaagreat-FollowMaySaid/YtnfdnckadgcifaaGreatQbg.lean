/-
  Insertion sort, as the program does it: the same elements, in order.
-/
import Derived.Test.YtnfdnckadgcifaaGreatQbf
import Derived.Test.YtnfdnckadgcifaaGreatQbd
import Derived.Test.YtnfdnckadgcifaaGreatQbc
open Go.IntKind renaming i64->q?
open Go.Proofs.YtnfdnckadgcifaaGreat.qM renaming ite->x_,mono->U_,go->X',bind->G',zE->q0h
open Int renaming toNat_natCast->X?,add_assoc->G_
open List renaming length_cons->b?,mem_append->p?,getElem?_append_left->t?,length_append->s?,mem_singleton->c?,map_cons->d?,length_nil->f?,getElem?_cons_zero->a?,getElem?_cons_succ->i?,getElem?_append_right->J?,mem_cons->U?,mem_map->G?,length_pos_iff->M?,nil_append->L?,pairwise_cons->w!,length_singleton->y!,sum_cons->u!,pairwise_append->t!,take_of_length_le->o!,getElem?_set->T!,length_map->j_,append_assoc->v_,getElem?_set_self->d_,take_sublist_take_left->E_,set_append_right->R',Sublist->q1d,Perm->q1v
open Nat renaming strongRecOn->r?
open Relation renaming TransGen->S?
set_option linter.unusedSimpArgs false
set_option linter.unusedVariables false
namespace Go.Proofs.YtnfdnckadgcifaaGreat
open Go Go.Gm
theorem on_out10{A B C D E F G H I J:Type}{o:Option (A×B×C×D×E×F×G×H×I×J)}{Q:A×B×C×D×E×F×G×H×I×J->Prop}(h:qM o Q):
  qM (o>>=fun v=>some (v.1,v.2.1,v.2.2.1,v.2.2.2.1,v.2.2.2.2.1,v.2.2.2.2.2.1,v.2.2.2.2.2.2.1,v.2.2.2.2.2.2.2.1,v.2.2.2.2.2.2.2.2.1,v.2.2.2.2.2.2.2.2.2)) Q:=G' h fun v hv=> .ret hv
section
variable {env:Sl qx} {lead unit:qa} {P:List Pt} {ds:List Int} {nm:List qa}
def OfQ(env:Sl qx)(lead unit:qa)(P:List Pt)(ds:List Int)(nm:List qa)(i:Nat)(x:Pt)(ns:List Int)(ts:List qa)(v:qa×Int×Sl qx×qa×qa×List Pt×List Int×List qa×List Int×List qa):Prop:=
 v.1.length<=17592186044416/\(v.2.1=0-> ∃a b,v.2.2=(env,lead,unit,P,ds,nm,ns++a,ts++b)/\bu P (ns++a) (ts++b)/\(∀ m∈a,x.kind=1/\(m=x.n\/S? (Holds P) x.n m))/\E9 P (ns++a) (ts++b) i v.1)
def TextQ(env:Sl qx)(lead unit:qa)(P:List Pt)(ds:List Int)(nm:List qa)(n:Int)(ns:List Int)(ts:List qa)(v:qa×Int×Sl qx×qa×qa×List Pt×List Int×List qa×List Int×List qa):Prop:=
 v.2.1=0-> ∃a b,v.2.2=(env,lead,unit,P,ds,nm,ns++a,ts++b)/\bu P (ns++a) (ts++b)/\(∀ m∈a,S? (Holds P) n m)/\Txt P (ns++a) (ts++b) n v.1/\v.1.length<=65536
theorem XV(hP:Good P)(hN:UC P)(i:Nat)(x:Pt)(hx:P[i]? =some x)(ns:List Int)(ts:List qa)(hM:bu P ns ts)
  (htxt:x.kind=1->qM (yn (x.n,env,lead,unit,P,ds,nm,ns,ts)) (TextQ env lead unit P ds nm x.n ns ts)):
  qM (je ((i:Int),env,lead,unit,P,ds,nm,ns,ts)) (OfQ env lead unit P ds nm i x ns ts):=by have hl:=hP.len;have eo:=(qL hx).1;have SB:=zc hx;have hg:=hP.ok x SB;have bk:=hM.V1;have hlen:=hM.len;rw[je.eq_1];refine .go (a:=x) (by rw[xk eo];simpa[wK eo]using hx) ?_;refine .tI ?_ ?_<;>intro hT;have k1:=hT;refine .bind (Nt x.n ns ts o? hlen) fun v hv=>?_;refine .tI ?_ ?_<;>intro hT;(have Hh:=hT;have hn:x.n∉ns:=by rcases hv with ⟨_,h⟩|⟨k,t,rfl,_⟩;exact h;omega);refine .bind (htxt k1) fun w hw=>?_;refine .tI ?_ ?_<;>intro hT;exact .ret ⟨z?,fun h=>absurd h hT⟩;(have hw0:=hT;obtain⟨a,b,e,m1,m2,m3,m4⟩:=hw hw0;obtain⟨w1,w2,w3⟩:=w;simp only at e m3 m4 hw0;subst e;have hna:x.n∉ns++a:=by intro h;rcases p?.1 h with h|h;exact hn h;exact hN _ (m2 _ h));(have hM2:=m1.more hna (G?.2 ⟨x,SB,rfl⟩) m3 m4;have r2:=m1.V1;have l2:=m1.len;simp only;refine .zE (by simp only[qi,zU,decide_eq_true_eq];omega) ?_;refine .zE (by simp only[qi,zU,decide_eq_true_eq];omega) ?_;have e1:q?.wrap (((ts++b++[w1]).length:Int)-1)=((ts++b).length:Int):=by simp only[s?,b?,f?]at r2 l2 |-;rw[wr o? o?];omega);(rw[e1];refine .go (ZL (ts++b) [] w1) ?_;have hLook:=Qn.new l2 hna w1;have hadd: ∀m∈a++[x.n],x.kind=1/\(m=x.n\/S? (Holds P) x.n m):=by intro m hm;rcases p?.1 hm with hm|hm;exact⟨k1,.inr (m2 m hm)⟩;simp only[c?]at hm;exact⟨k1,.inl hm⟩);refine .tI ?_ ?_<;>intro hT;have ht:=hT;obtain⟨r,hr,hq⟩:=aF x.qU hg.qU w1 o? 20000;refine .go hr ?_;refine .ret ⟨?_,fun h0=>⟨a++[x.n],b++[w1],z?,by simpa using hM2,hadd,x,w1,hx,fun _=>by simpa using hLook,fun h=>absurd k1 h,fun h=>(by rw[ht]at h;cases h),fun _=>⟨r.2.1, ?_⟩⟩⟩;rcases hq with hq|hq;simp only;omega;simp only[hq];omega;rw[hr];simp only at h0 |-;rw[<- h0];have ht:=hT;exact .ret ⟨u?,fun h0=>⟨a++[x.n],b++[w1],z?,by simpa using hM2,hadd,x,w1,hx,fun _=>by simpa using hLook,fun h=>absurd k1 h,fun _=>rfl,fun h=>(by rw[ht]at h;cases h)⟩⟩;have Hh:=hT;rcases hv with ⟨rfl,_⟩|⟨k,t,rfl,hk,pd,hL⟩;omega;have ht65:=(hM.txt _ _ hL).2;refine .go (a:=t) (by rw[xk pd];simpa[wK pd]using hk) ?_;refine .tI ?_ ?_<;>intro hT;have ht:=hT;obtain⟨r,hr,hq⟩:=aF x.qU hg.qU t o? 20000;refine .go hr ?_;refine .ret ⟨?_,fun h0=>⟨[],[],z?,by simpa using hM,z?,x,t,hx,fun _=>by simpa using hL,fun h=>absurd k1 h,fun h=>(by rw[ht]at h;cases h),fun _=>⟨r.2.1, ?_⟩⟩⟩;rcases hq with hq|hq;simp only;omega;simp only[hq];omega;rw[hr];simp only at h0 |-;rw[<- h0];have ht:=hT;exact .ret ⟨u?,fun h0=>⟨[],[],z?,by simpa using hM,z?,x,t,hx,fun _=>by simpa using hL,fun h=>absurd k1 h,fun _=>rfl,fun h=>(by rw[ht]at h;cases h)⟩⟩;have k1:=hT;refine .tI ?_ ?_<;>intro hT;have ht:=hT;have htt:=hg.tt ht;obtain⟨r,hr,hq⟩:=aF x.qU hg.qU x.text htt 20000;refine .go hr ?_;refine .ret ⟨?_,fun h0=>⟨[],[],z?,by simpa using hM,z?,x,x.text,hx,fun h=>absurd h k1,fun _=>rfl,fun h=>(by rw[ht]at h;cases h),fun _=>⟨r.2.1, ?_⟩⟩⟩;rcases hq with hq|hq;simp only;omega;simp only[hq];omega;rw[hr];simp only at h0 |-;rw[<- h0];have ht:=hT;exact .ret ⟨hg.tl,fun h0=>⟨[],[],z?,by simpa using hM,z?,x,x.text,hx,fun h=>absurd h k1,fun _=>rfl,fun _=>rfl,fun h=>(by rw[ht]at h;cases h)⟩⟩
abbrev RowR:=(qa×Int×qa×Sl qx×qa×qa×List Pt×List Int×List qa×List Int×List qa)⊕(qa×Sl qx×qa×qa×List Pt×List Int×List qa×List Int×List qa)
def RowQ(env:Sl qx)(lead unit:qa)(P:List Pt)(ds:List Int)(nm:List qa)(i hi:Nat)(s:qa)(ns:List Int)(ts:List qa):RowR->Prop
 | .inl y=>y.2.1≠0
 | .inr y=> ∃a b t,y=(s++t,env,lead,unit,P,ds,nm,ns++a,ts++b)/\bu P (ns++a) (ts++b)/\(∀ m∈a,∃(j:Nat)(x:Pt),i<=j/\j<hi/\P[j]? =some x/\x.kind=1/\(m=x.n\/S? (Holds P) x.n m))/\mg P (ns++a) (ts++b) i hi t/\(s++t).length<=65536
theorem row2_tot(hP:Good P){up:Int}{i hi:Nat}(hc:nO P up i hi): ∀(s:qa)(ns:List Int)(ts:List qa),s.length<=65536->bu P ns ts->
  (∀(j:Nat)(x:Pt)(ns:List Int)(ts:List qa),i<=j->j<hi->P[j]? =some x->bu P ns ts->qM (je ((j:Int),env,lead,unit,P,ds,nm,ns,ts)) (OfQ env lead unit P ds nm j x ns ts))->
  qM (xY ((hi:Int),s,(i:Int),env,lead,unit,P,ds,nm,ns,ts)) (RowQ env lead unit P ds nm i hi s ns ts):=by induction hc with|nil up i=>intro s ns ts hs hM hof;rw[xY.eq_1,if_neg z?];exact .ret ⟨[],[],[],z?,by simpa using hM,z?,.nil _,by simpa using hs⟩|cons up i e hi x hx hu he xS hle hk hd ho hr _ Kj=>intro s ns ts hs hM hof;have eo:=(qL hx).1;rw[xY.eq_1,if_pos v?];refine .bind (hof i x ns ts (ju _) o? hx hM) fun v hv=>?_;refine .tI ?_ ?_<;>intro hT;exact .ret hT;have Hh:=hT;obtain⟨a,b,e1,m1,m2,m3⟩:=hv.2 Hh;obtain⟨v1,v2,v3⟩:=v;have Na:=hv.1;simp only at e1 m3 Hh Na;subst e1;simp only;refine .zE o? ?_;refine .tI ?_ ?_<;>intro hT;exact .ret (by simp[RowQ]);have hlen:=hT;refine .go (a:=x) (by rw[xk eo];simpa[wK eo]using hx) ?_;rw[he];refine(Kj (s++v1) (ns++a) (ts++b) o? m1 (fun j y ns ts h1 h2=>hof j y ns ts o? h2)).mono fun w hw=>?_;rcases w with w|w;exact hw;obtain⟨a2,b2,t,w1,w2,w3,w4,w5⟩:=hw;refine⟨a++a2,b++b2,v1++t, ?_, ?_, ?_, ?_, ?_⟩;rw[w1];simp;simpa using w2;intro m hm;rcases p?.1 hm with hm|hm;exact⟨i,x,ju _,o?,hx,m2 m hm⟩;obtain⟨j,y,j1,j2,j3⟩:=w3 m hm;exact⟨j,y,o?,j2,j3⟩;have:=mg.cons i e hi x v1 t hx he (m3.app a2 b2) w4;simpa using this;simpa using w5
theorem row1_tot(hP:Good P){up:Int}{i hi:Nat}(hc:nO P up i hi): ∀(s:qa)(ns:List Int)(ts:List qa),s.length<=65536->bu P ns ts->
  (∀(j:Nat)(x:Pt)(ns:List Int)(ts:List qa),i<=j->j<hi->P[j]? =some x->bu P ns ts->qM (je ((j:Int),env,lead,unit,P,ds,nm,ns,ts)) (OfQ env lead unit P ds nm j x ns ts))->
  qM (wz ((hi:Int),s,(i:Int),env,lead,unit,P,ds,nm,ns,ts)) (RowQ env lead unit P ds nm i hi s ns ts):=by induction hc with|nil up i=>intro s ns ts hs hM hof;rw[wz.eq_1,if_neg z?];exact .ret ⟨[],[],[],z?,by simpa using hM,z?,.nil _,by simpa using hs⟩|cons up i e hi x hx hu he xS hle hk hd ho hr _ Kj=>intro s ns ts hs hM hof;have eo:=(qL hx).1;rw[wz.eq_1,if_pos v?];refine .bind (hof i x ns ts (ju _) o? hx hM) fun v hv=>?_;refine .tI ?_ ?_<;>intro hT;exact .ret hT;have Hh:=hT;obtain⟨a,b,e1,m1,m2,m3⟩:=hv.2 Hh;obtain⟨v1,v2,v3⟩:=v;have Na:=hv.1;simp only at e1 m3 Hh Na;subst e1;simp only;refine .zE o? ?_;refine .tI ?_ ?_<;>intro hT;exact .ret (by simp[RowQ]);have hlen:=hT;refine .go (a:=x) (by rw[xk eo];simpa[wK eo]using hx) ?_;rw[he];refine(Kj (s++v1) (ns++a) (ts++b) o? m1 (fun j y ns ts h1 h2=>hof j y ns ts o? h2)).mono fun w hw=>?_;rcases w with w|w;exact hw;obtain⟨a2,b2,t,w1,w2,w3,w4,w5⟩:=hw;refine⟨a++a2,b++b2,v1++t, ?_, ?_, ?_, ?_, ?_⟩;rw[w1];simp;simpa using w2;intro m hm;rcases p?.1 hm with hm|hm;exact⟨i,x,ju _,o?,hx,m2 m hm⟩;obtain⟨j,y,j1,j2,j3⟩:=w3 m hm;exact⟨j,y,o?,j2,j3⟩;have:=mg.cons i e hi x v1 t hx he (m3.app a2 b2) w4;simpa using this;simpa using w5
theorem text_tot(hP:Good P)(hN:UC P): ∀(M:Nat)(n:Int),mu P n=M-> ∀(ns:List Int)(ts:List qa),bu P ns ts->qM (yn (n,env,lead,unit,P,ds,nm,ns,ts)) (TextQ env lead unit P ds nm n ns ts):=by
 have hl:=hP.len;intro M;induction M using r? with
  |_ M ih=>
   intro n hn ns ts hM;rw[yn.eq_1];refine .bind (QU n P ds nm hl) fun v hv=>?_;refine .tI ?_ ?_<;>intro hT;have Hh:=hT;rcases hv with ⟨_,h⟩|⟨d,x,rfl,_⟩;exact .ret fun _=>⟨[],[],z?,by simpa using hM,z?,.inl ⟨rfl,h⟩,z?⟩;omega;have Hh:=hT;rcases hv with ⟨rfl,_⟩|⟨d,x,rfl,hd,x1,x2,x3⟩;omega;have hdl:=(qL hd).1;obtain⟨e,he,hc,_,_⟩:=hP.inner hd;refine .go (a:=x) (by rw[xk hdl];simpa[wK hdl]using hd) ?_;refine .tI ?_ ?_<;>intro hT;have Eg:=hT;refine .bind .get fun o _=>?_;refine .tI ?_ ?_<;>intro hT;(exact .ret fun h=>by simp at h);have hlen:=hT;refine .ret fun _=>⟨[],[],z?,by simpa using hM,z?,.inr ⟨d,e,x,hd,x1,x2,x3,he,.inl ?_⟩,u?⟩;intro h;rw[h]at Eg;simp at Eg
   have Eg:=hT;have hee:=hP.end_ hd;rw[wr (n:=(d:Int)+1) o? o?,show((d:Int)+1)=((d+1:Nat):Int) by omega,he];have dm: ∀(j:Nat)(y:Pt),d+1<=j->j<e->P[j]? =some y->y.kind=1->Holds P n y.n:=fun j y h1 h2 h3 h4=>⟨d,j,x,y,hd,x1,x2,x3,o?,o?,h3,h4,rfl⟩;have ep:=row2_tot (env:=env) (lead:=lead) (unit:=unit) (ds:=ds) (nm:=nm) hP hc [] ns ts z? hM (fun j y ns ts h1 h2 h3 h4=>
    XV hP hN j y h3 ns ts h4 fun hk=>ih (mu P y.n) (by rw[<- hn];exact mu_lt hN (dm j y h1 h2 h3 hk)) y.n rfl ns ts h4)
   refine on_out10 (o:=ud (((d+1:Nat):Int),(e:Int),env,lead,unit,P,ds,nm,ns,ts)) ?_;rw[ud.eq_1];refine .bind ep fun w hw=>?_;rcases w with w|w;exact .ret fun h=>absurd h hw;obtain⟨a,b,t,rfl,w2,w3,w4,w5⟩:=hw;refine .ret fun _=>⟨a,b,rfl,w2,fun m hm=>?_,.inr ⟨d,e,x,hd,x1,x2,x3,he,.inr (by simpa using w4)⟩,by simpa using w5⟩;obtain⟨j,y,j1,j2,j3,j4,j5⟩:=w3 m hm;have h:=dm j y j1 j2 j3 j4;rcases j5 with rfl|j5;exact .single h;exact S?.trans (.single h) j5
end
set_option maxHeartbeats 1000000
inductive iY (H:Int->Int->Prop):Int->Int->Int->Nat->List qt->Prop
 |nil (up lo hi:Int) (b:Nat) (h:lo<=hi):iY H up lo hi b []
 |cons (up lo hi:Int) (b:Nat) (x:qt) (qD rest:List qt) (hu:x.up=up) (h1:lo<=x.span.qO) (h2:x.span.qO<=x.span.to) (hH: ∀y∈qD,H x.n y.n)
   (hk:iY H (b:Int) x.span.qO x.span.to (b+1) qD) (hr:iY H up x.span.to hi (b+1+qD.length) rest):iY H up lo hi b (x::(qD++rest))
theorem iY.le{H:Int->Int->Prop}{up lo hi:Int}{b:Nat}{l:List qt}(h:iY H up lo hi b l):lo<=hi:=by induction h with|nil _ _ _ _ h=>exact h|cons _ _ _ _ _ _ _ _ h1 h2 _ _ _ _ ih=>omega
theorem iY.mono{H:Int->Int->Prop}{up lo hi:Int}{b:Nat}{l:List qt}(h:iY H up lo hi b l){uj:Int}(hh:hi<=uj):iY H up lo uj b l:=by induction h with|nil up lo hi b h=>exact .nil _ _ _ _ o?|cons up lo hi b x qD rest hu h1 h2 hH hk _ _ ih=>exact .cons up lo uj b x qD rest hu h1 h2 hH hk (ih hh)
theorem iY.low{H:Int->Int->Prop}{up lo hi:Int}{b:Nat}{l:List qt}(h:iY H up lo hi b l){lo' :Int}(hh:lo' <=lo):iY H up lo' hi b l:=by cases h with|nil up lo hi b h=>exact .nil _ _ _ _ o?|cons up lo hi b x qD rest hu h1 h2 hH hk hr=>exact .cons up lo' hi b x qD rest hu o? h2 hH hk hr
theorem iY.Ga{H:Int->Int->Prop}{up lo hi:Int}{b:Nat}{l:List qt}(h:iY H up lo hi b l)(x:qt)(hu:x.up=up)(h1:x.span.qO=hi)(h2:x.span.to=hi):iY H up lo hi b (l++[x]):=by induction h with|nil up lo hi b h=>exact .cons up lo hi b x [] [] hu o? o? z? (.nil _ _ _ _ o?) (.nil _ _ _ _ o?)|cons up lo hi b y qD rest hu' h1' h2' hH hk _ _ ih=>have:=iY.cons up lo hi b y qD (rest++[x]) hu' h1' h2' hH hk (ih hu h1 h2);simpa using this
def lv(P:List Pt)(j:Nat):Nat:=(P.take j).countP (fun x=>x.kind==1)
theorem lx{P:List Pt}{i:Nat}{x:Pt}(h:P[i]? =some x):lv P (i+1)=lv P i+if x.kind=1 then 1 else 0:=by obtain⟨hl,rfl⟩:=qL h;unfold lv;rw[List.take_succ_eq_append_getElem hl,List.countP_append];exact tW
section
variable {env:Sl qx} {lead unit:qa} {P:List Pt} {ds:List Int} {nm:List qa} {ns:List Int} {ts:List qa}
theorem SU(hP:Good P)(hM:bu P ns ts)(i:Nat)(t:qa)(hv:E9 P ns ts i t):je ((i:Int),env,lead,unit,P,ds,nm,ns,ts)=some (t,0,env,lead,unit,P,ds,nm,ns,ts):=by
 have hl:=hP.len;have bk:=hM.V1;have hlen:=hM.len;obtain⟨x,b,hx,h1,h2,h3,h4⟩:=hv;have eo:=(qL hx).1;have Gv:qh P (i:Int)=some x:=by rw[xk eo];simpa[wK eo]using hx
 rw[je.eq_1,Gv];simp only[zP,qV];by_cases k1:x.kind=1;have hL:=h1 k1;obtain⟨v,ZQ,Ei⟩:=Nt x.n ns ts o? hlen;rcases Ei with ⟨_,hn⟩|⟨k,t',rfl,hk,pd,hL'⟩;obtain⟨k,a1,_⟩:=hL;exact absurd (zc a1) hn;(have:=hL.one hL';subst this;have MP:qh ts (k:Int)=some b:=by rw[xk pd];simpa[wK pd]using hk);exact tW;have hb:=h2 k1;subst hb;rw[if_neg (by simp[k1])];cases ht:x.qQ;rw[if_neg z?,h3 ht];obtain⟨l,hl⟩:=h4 ht;rw[if_pos rfl,hl];rfl
theorem Nk(hP:Good P)(hM:bu P ns ts){i:Nat}{x:Pt}{t:qa}(hx:P[i]? =some x)(hk:x.kind=1)(hd:x.jg=true)(hv:E9 P ns ts i t){e:Nat}(he:x.end_=(e:Int))(ho:x.opts.l≠[]->e=i+1): ∃u,mg P ns ts (i+1) e u/\u.length<=t.length:=by obtain⟨y,b,h0,h1,_,h3,_⟩:=hv;rw[hx]at h0;cases h0;have ht:=h3 ((hP.ok x (zc hx)).dt hd);subst ht;rcases(hM.txt _ _ (h1 hk)).1 with ⟨_,h⟩|⟨d,e',y,a1,a2,a3,a4,a5,a6⟩;exact absurd rfl (h x (zc hx) hk hd);have:d=i:=Ke hP.un a1 hx a3 hd a4;subst this;rw[hx]at a1;cases a1;have:e' =e:=o?;subst this;rcases a6 with a6|a6;rw[ho a6];exact⟨[],.nil _,Nat.zero_le _⟩;exact⟨_,a6,ju _⟩
structure It (P:List Pt) (qo:Int) (i hi:Nat) (W:qa) (out:List qt) (zk:List Int) (Xg:Int) (l:List qt) (pl:List Int):Prop where
 NX:pl.length=zk.length
 sk: ∀j,j<i->pl[j]? =zk[j]?
 MV:iY (Holds P) Xg qo (qo+W.length) out.length l
 mem: ∀y∈l,∃(j:Nat)(p:Pt),i<=j/\j<hi/\P[j]? =some p/\p.kind=1/\p.n=y.n/\p.qU=y.qU/\p.opts=y.opts
 len:l.length+lv P i<=lv P hi
theorem RE(hP:Good P)(hM:bu P ns ts){up:Int}{i hi:Nat}(hc:nO P up i hi): ∀(qo:Int)(W:qa)(out:List qt)(zk:List Int)(Xg:Int),mg P ns ts i hi W->0<=qo->qo+W.length<=65536->hi<=P.length->zk.length=P.length->out.length+hi<=P.length+i->
  ((up= -1/\Xg= -1)\/ ∃u:Nat,up=u/\u<i/\zk[u]? =some Xg)->
  qM (ze ((hi:Int),qo,(i:Int),env,lead,unit,out,zk,P,ds,nm,ns,ts)) (fun v=> ∃l pl,v=(qo+W.length,env,lead,unit,out++l,pl,P,ds,nm,ns,ts)/\It P qo i hi W out zk Xg l pl):=by
 have hPl:=hP.len;induction hc with
  |nil up i=>(intro qo W out zk Xg hR h0 h1 hhi dg Eg Xj;have hT0:W=[]:=by cases hR with|nil=>rfl|cons _ e _ x t u hx he _ hr=>(have h3:=(hP.end_ hx).1;have h4: ∀{a b:Nat}{t:qa},mg P ns ts a b t->a<=b:=by intro a b t h;induction h with|nil=>omega|cons a e b x t u hx he _ _ ih=>have:=(hP.end_ hx).1;omega);have:=h4 hr;omega);subst hT0;rw[ze.eq_1,if_neg z?];exact .ret ⟨[],zk,z?,rfl,fun _ _=>rfl,.nil _ _ _ _ z?,z?,z?⟩
  |cons up i e hi x hx hu he xS hle hk hd ho hr Gx Kj=>
   (intro qo W out zk Xg hR h0 h1 hhi dg Eg Xj;have eo:=(qL hx).1;have Gv:qh P (i:Int)=some x:=by rw[xk eo];simpa[wK eo]using hx);(obtain⟨t,u,hTu,hv,hru⟩: ∃t u,W=t++u/\E9 P ns ts i t/\mg P ns ts e hi u:=by cases hR with|nil=>omega|cons _ e' _ y t u hy hye hv hr2=>rw[hx]at hy;cases hy;have:e' =e:=o?;subst this;exact⟨t,u,rfl,hv,hr2⟩);subst hTu;simp only[s?]at h1;have Sp:=lx hx;have hchi:lv P (i+1)<=lv P e:=by unfold lv;exact q1d.countP_le (E_ o?)
   rw[ze.eq_1,if_pos v?];refine .go Gv ?_;refine .go (SU hP hM i t hv) ?_;simp only;have ew:q?.wrap (qo+(t.length:Int))=qo+t.length:=wr o? o?;rw[ew];have behind: ∀(l:List qt)(pl:List Int),It P qo i e t out zk Xg l pl->l.length<=e-i->
     qM (qh P (i:Int)>>=fun y=>ze ((hi:Int),qo+t.length,y.end_,env,lead,unit,out++l,pl,P,ds,nm,ns,ts)) (fun v=> ∃l pl,v=(qo+(t++u).length,env,lead,unit,out++l,pl,P,ds,nm,ns,ts)/\It P qo i hi (t++u) out zk Xg l pl):=by
    intro l pl h Fa;refine .go Gv ?_;rw[he];refine(Kj (qo+t.length) u (out++l) pl Xg hru o? o? hhi (h.NX.trans dg) v? ?_).mono fun v hv=>?_
    ·rcases Xj with Xj|⟨w,w1,w2,w3⟩
     ·exact .inl Xj
     exact .inr ⟨w,w1,o?,by rw[h.sk w w2];exact w3⟩
    obtain⟨l2,pl2,rfl,q⟩:=hv;refine⟨l++l2,pl2,by simp[G_],q.NX.trans h.NX,fun j hj=>(q.sk j o?).trans (h.sk j hj), ?_, ?_, ?_⟩
    ·have h2:=q.MV;have h1:=h.MV;have app: ∀{up lo hi:Int}{b:Nat}{l:List qt},iY (Holds P) up lo hi b l-> ∀{MQ:Int}{r:List qt},iY (Holds P) up hi MQ (b+l.length) r->iY (Holds P) up lo MQ b (l++r):=by
      intro up lo hi b l hl;induction hl with
      |nil up lo hi b h=>intro MQ r hr;simpa using hr.low h
      |cons up lo hi b x qD rest hu h1 h2 hH hk _ _ ih=>
       intro MQ r hr;have e1:b+(x::(qD++rest)).length=b+1+qD.length+rest.length:=v?;rw[e1]at hr;have:=iY.cons up lo MQ b x qD (rest++r) hu h1 h2 hH hk (ih hr);simpa using this
     simp only[s?]at h2;have:=app h1 h2;simpa[G_]using this
    ·intro y hy;rcases p?.1 hy with hy|hy
     ·obtain⟨j,p,j1,j2,j3⟩:=h.mem y hy;exact⟨j,p,j1,o?,j3⟩
     obtain⟨j,p,j1,j2,j3⟩:=q.mem y hy;exact⟨j,p,o?,j2,j3⟩
    have:=q.len;have:=h.len;simp only[s?];omega
   by_cases k1:x.kind=1
   ·rw[if_pos k1]at Sp;rw[if_pos (by simp[k1])];have stop: ∀(S:qt),S.up=Xg->S.span.qO=qo->S.span.to=qo+t.length->S.n=x.n->S.qU=x.qU->S.opts=x.opts->
      qM (qh zk (i:Int)>>=fun _=>if qi (out.length+1) 200=true then
       if x.jg=true then
        zL (q?.wrap ((i:Int)+1),x.end_,qo,env,lead,unit,out++[S],zk.set (i:Int).toNat (out.length:Int),P,ds,nm,ns,ts)>>=fun v=>
        qh v.2.2.2.2.2.2.1 (i:Int)>>=fun y=>
        ze ((hi:Int),qo+t.length,y.end_,v.2.1,v.2.2.1,v.2.2.2.1,v.2.2.2.2.1,v.2.2.2.2.2.1,v.2.2.2.2.2.2.1,v.2.2.2.2.2.2.2.1,v.2.2.2.2.2.2.2.2.1,v.2.2.2.2.2.2.2.2.2.1,v.2.2.2.2.2.2.2.2.2.2)
       else
        qh P (i:Int)>>=fun y=>ze ((hi:Int),qo+t.length,y.end_,env,lead,unit,out++[S],zk.set (i:Int).toNat (out.length:Int),P,ds,nm,ns,ts)
       else none) (fun v=> ∃l pl,v=(qo+(t++u).length,env,lead,unit,out++l,pl,P,ds,nm,ns,ts)/\It P qo i hi (t++u) out zk Xg l pl):=by
     intro S s1 s2 s3 s4 s5 s6;refine .bind .get fun _ _=>?_;refine .zE (by simp only[qi,zU,decide_eq_true_eq];omega) ?_;rw[X?];have pf: ∀j,j<i->(zk.set i (out.length:Int))[j]? =zk[j]? :=fun j hj=>by rw[T!];rw[if_neg o?]
     cases N3:x.jg
     ·rw[if_neg z?];refine behind [S] _ ⟨z?,pf, ?_, ?_,v?⟩ v?
      ·exact .cons Xg qo _ out.length S [] [] s1 o? o? z? (.nil _ _ _ _ o?) (.nil _ _ _ _ o?)
      intro y hy;simp only[c?]at hy;subst hy;exact⟨i,x,ju _,xS,hx,k1,s4.symm,s5.symm,s6.symm⟩
     rw[if_pos rfl];obtain⟨w,w1,w2⟩:=Nk hP hM hx k1 N3 hv he ho;have Sr:=Gx qo w (out++[S]) (zk.set i (out.length:Int)) (out.length:Int) w1 h0 o? o? (by simpa using dg) v? (.inr ⟨i,rfl,o?,d_ o?⟩);have hk3:qM (zL (((i+1:Nat):Int),x.end_,qo,env,lead,unit,out++[S],zk.set i (out.length:Int),P,ds,nm,ns,ts)) (fun v=> ∃l pl,v=(qo+w.length,env,lead,unit,out++[S]++l,pl,P,ds,nm,ns,ts)/\It P qo (i+1) e w (out++[S]) (zk.set i (out.length:Int)) (out.length:Int) l pl):=by
      rw[zL.eq_1,he];exact .bind Sr fun v hv=> .ret hv
     rw[wr (n:=(i:Int)+1) o? o?,show((i:Int)+1)=((i+1:Nat):Int) by omega];refine .bind hk3 fun v hv=>?_;obtain⟨l,pl,rfl,q⟩:=hv;have e1:out++[S]++l=out++(S::l):=z?;simp only[e1];have hql:=q.len;have Xi:lv P e<=lv P (i+1)+(e-(i+1)):=by
      have: ∀d,lv P (i+1+d)<=lv P (i+1)+d:=by
       intro d;induction d with
       |zero=>simp
       |succ d ih=>
        by_cases F6:i+1+d<P.length
        ·have:=lx (wK F6);rw[show i+1+(d+1)=i+1+d+1 by omega,this];split<;>omega
        have e2:lv P (i+1+(d+1))=lv P (i+1+d):=by unfold lv;rw[o! o?,o! o?]
        omega
      have:=this (e-(i+1));rw[show i+1+(e-(i+1))=e by omega]at this;exact this
     refine behind (S::l) pl ⟨by simpa using q.NX,fun j hj=>(q.sk j o?).trans (pf j hj), ?_, ?_,v?⟩ v?
     ·have F9:iY (Holds P) (out.length:Int) S.span.qO S.span.to (out.length+1) l:=by
       rw[s2,s3];have:=q.MV;simp only[s?,b?,f?]at this;exact this.mono o?
      have:=iY.cons Xg qo (qo+t.length) out.length S l [] s1 o? o? (fun y hy=>?_) F9 (.nil _ _ _ _ o?)
      ·simpa using this
      obtain⟨j,p,j1,j2,j3,j4,j5,_⟩:=q.mem y hy;rw[s4];exact⟨i,j,x,p,hx,k1,N3,rfl,o?,o?,j3,j4,j5⟩
     intro y hy;rcases U?.1 hy with rfl|hy
     ·exact⟨i,x,ju _,xS,hx,k1,s4.symm,s5.symm,s6.symm⟩
     obtain⟨j,p,j1,j2,j3⟩:=q.mem y hy;exact⟨j,p,o?,j2,j3⟩
    rcases Xj with ⟨u1,u2⟩|⟨w,w1,w2,w3⟩;rw[if_neg v?];exact stop _ u2.symm rfl rfl rfl rfl rfl;rw[if_pos v?];have hwl:=(qL w3).1;refine .go (a:=Xg) (by rw[hu,w1,xk hwl];simpa[wK hwl]using w3) ?_;exact stop _ rfl rfl rfl rfl rfl rfl
   rw[if_neg k1]at Sp;rw[if_neg (by simp[k1])];have hde:e=i+1:=hd ((hP.ok x (zc hx)).other k1).1;have:=behind [] zk ⟨rfl,fun _ _=>rfl,.nil _ _ _ _ o?,z?,v?⟩ z?;simpa using this
end
section
variable {env:Sl qx} {lead unit:qa} {P:List Pt} {ds:List Int} {nm:List qa} {ns:List Int} {ts:List qa}
theorem RD(hP:Good P)(hM:bu P ns ts){up:Int}{i hi:Nat}(hc:nO P up i hi): ∀(qo:Int)(W:qa)(out:List qt)(zk:List Int)(Xg:Int),mg P ns ts i hi W->0<=qo->qo+W.length<=65536->hi<=P.length->zk.length=P.length->out.length+hi<=P.length+i->
  ((up= -1/\Xg= -1)\/ ∃u:Nat,up=u/\u<i/\zk[u]? =some Xg)->
  qM (zB ((hi:Int),qo,(i:Int),env,lead,unit,zk,P,ds,nm,ns,ts,out)) (fun v=> ∃l pl,v=(qo+W.length,env,lead,unit,pl,P,ds,nm,ns,ts,out++l)/\It P qo i hi W out zk Xg l pl):=by
 have hPl:=hP.len;induction hc with
  |nil up i=>(intro qo W out zk Xg hR h0 h1 hhi dg Eg Xj;have hT0:W=[]:=by cases hR with|nil=>rfl|cons _ e _ x t u hx he _ hr=>(have h3:=(hP.end_ hx).1;have h4: ∀{a b:Nat}{t:qa},mg P ns ts a b t->a<=b:=by intro a b t h;induction h with|nil=>omega|cons a e b x t u hx he _ _ ih=>have:=(hP.end_ hx).1;omega);have:=h4 hr;omega);subst hT0;rw[zB.eq_1,if_neg z?];exact .ret ⟨[],zk,z?,rfl,fun _ _=>rfl,.nil _ _ _ _ z?,z?,z?⟩
  |cons up i e hi x hx hu he xS hle hk hd ho hr Gx Kj=>
   (intro qo W out zk Xg hR h0 h1 hhi dg Eg Xj;have eo:=(qL hx).1;have Gv:qh P (i:Int)=some x:=by rw[xk eo];simpa[wK eo]using hx);(obtain⟨t,u,hTu,hv,hru⟩: ∃t u,W=t++u/\E9 P ns ts i t/\mg P ns ts e hi u:=by cases hR with|nil=>omega|cons _ e' _ y t u hy hye hv hr2=>rw[hx]at hy;cases hy;have:e' =e:=o?;subst this;exact⟨t,u,rfl,hv,hr2⟩);subst hTu;simp only[s?]at h1;have Sp:=lx hx;have hchi:lv P (i+1)<=lv P e:=by unfold lv;exact q1d.countP_le (E_ o?)
   rw[zB.eq_1,if_pos v?];refine .go Gv ?_;refine .go (SU hP hM i t hv) ?_;simp only;have ew:q?.wrap (qo+(t.length:Int))=qo+t.length:=wr o? o?;rw[ew];have behind: ∀(l:List qt)(pl:List Int),It P qo i e t out zk Xg l pl->l.length<=e-i->
     qM (qh P (i:Int)>>=fun y=>zB ((hi:Int),qo+t.length,y.end_,env,lead,unit,pl,P,ds,nm,ns,ts,out++l)) (fun v=> ∃l pl,v=(qo+(t++u).length,env,lead,unit,pl,P,ds,nm,ns,ts,out++l)/\It P qo i hi (t++u) out zk Xg l pl):=by
    intro l pl h Fa;refine .go Gv ?_;rw[he];refine(Kj (qo+t.length) u (out++l) pl Xg hru o? o? hhi (h.NX.trans dg) v? ?_).mono fun v hv=>?_
    ·rcases Xj with Xj|⟨w,w1,w2,w3⟩
     ·exact .inl Xj
     exact .inr ⟨w,w1,o?,by rw[h.sk w w2];exact w3⟩
    obtain⟨l2,pl2,rfl,q⟩:=hv;refine⟨l++l2,pl2,by simp[G_],q.NX.trans h.NX,fun j hj=>(q.sk j o?).trans (h.sk j hj), ?_, ?_, ?_⟩
    ·have h2:=q.MV;have h1:=h.MV;have app: ∀{up lo hi:Int}{b:Nat}{l:List qt},iY (Holds P) up lo hi b l-> ∀{MQ:Int}{r:List qt},iY (Holds P) up hi MQ (b+l.length) r->iY (Holds P) up lo MQ b (l++r):=by
      intro up lo hi b l hl;induction hl with
      |nil up lo hi b h=>intro MQ r hr;simpa using hr.low h
      |cons up lo hi b x qD rest hu h1 h2 hH hk _ _ ih=>
       intro MQ r hr;have e1:b+(x::(qD++rest)).length=b+1+qD.length+rest.length:=v?;rw[e1]at hr;have:=iY.cons up lo MQ b x qD (rest++r) hu h1 h2 hH hk (ih hr);simpa using this
     simp only[s?]at h2;have:=app h1 h2;simpa[G_]using this
    ·intro y hy;rcases p?.1 hy with hy|hy
     ·obtain⟨j,p,j1,j2,j3⟩:=h.mem y hy;exact⟨j,p,j1,o?,j3⟩
     obtain⟨j,p,j1,j2,j3⟩:=q.mem y hy;exact⟨j,p,o?,j2,j3⟩
    have:=q.len;have:=h.len;simp only[s?];omega
   by_cases k1:x.kind=1
   ·rw[if_pos k1]at Sp;rw[if_pos (by simp[k1])];have stop: ∀(S:qt),S.up=Xg->S.span.qO=qo->S.span.to=qo+t.length->S.n=x.n->S.qU=x.qU->S.opts=x.opts->
      qM (qh zk (i:Int)>>=fun _=>if qi (out.length+1) 200=true then
       if x.jg=true then
        zL (q?.wrap ((i:Int)+1),x.end_,qo,env,lead,unit,out++[S],zk.set (i:Int).toNat (out.length:Int),P,ds,nm,ns,ts)>>=fun v=>
        qh v.2.2.2.2.2.2.1 (i:Int)>>=fun y=>
        zB ((hi:Int),qo+t.length,y.end_,v.2.1,v.2.2.1,v.2.2.2.1,v.2.2.2.2.2.1,v.2.2.2.2.2.2.1,v.2.2.2.2.2.2.2.1,v.2.2.2.2.2.2.2.2.1,v.2.2.2.2.2.2.2.2.2.1,v.2.2.2.2.2.2.2.2.2.2,v.2.2.2.2.1)
       else
        qh P (i:Int)>>=fun y=>zB ((hi:Int),qo+t.length,y.end_,env,lead,unit,zk.set (i:Int).toNat (out.length:Int),P,ds,nm,ns,ts,out++[S])
       else none) (fun v=> ∃l pl,v=(qo+(t++u).length,env,lead,unit,pl,P,ds,nm,ns,ts,out++l)/\It P qo i hi (t++u) out zk Xg l pl):=by
     intro S s1 s2 s3 s4 s5 s6;refine .bind .get fun _ _=>?_;refine .zE (by simp only[qi,zU,decide_eq_true_eq];omega) ?_;rw[X?];have pf: ∀j,j<i->(zk.set i (out.length:Int))[j]? =zk[j]? :=fun j hj=>by rw[T!];rw[if_neg o?]
     cases N3:x.jg
     ·rw[if_neg z?];refine behind [S] _ ⟨z?,pf, ?_, ?_,v?⟩ v?
      ·exact .cons Xg qo _ out.length S [] [] s1 o? o? z? (.nil _ _ _ _ o?) (.nil _ _ _ _ o?)
      intro y hy;simp only[c?]at hy;subst hy;exact⟨i,x,ju _,xS,hx,k1,s4.symm,s5.symm,s6.symm⟩
     rw[if_pos rfl];obtain⟨w,w1,w2⟩:=Nk hP hM hx k1 N3 hv he ho;have Sr:=RE (env:=env) (lead:=lead) (unit:=unit) (ds:=ds) (nm:=nm) hP hM hk qo w (out++[S]) (zk.set i (out.length:Int)) (out.length:Int) w1 h0 o? o? (by simpa using dg) v? (.inr ⟨i,rfl,o?,d_ o?⟩);have hk3:qM (zL (((i+1:Nat):Int),x.end_,qo,env,lead,unit,out++[S],zk.set i (out.length:Int),P,ds,nm,ns,ts)) (fun v=> ∃l pl,v=(qo+w.length,env,lead,unit,out++[S]++l,pl,P,ds,nm,ns,ts)/\It P qo (i+1) e w (out++[S]) (zk.set i (out.length:Int)) (out.length:Int) l pl):=by
      rw[zL.eq_1,he];exact .bind Sr fun v hv=> .ret hv
     rw[wr (n:=(i:Int)+1) o? o?,show((i:Int)+1)=((i+1:Nat):Int) by omega];refine .bind hk3 fun v hv=>?_;obtain⟨l,pl,rfl,q⟩:=hv;have e1:out++[S]++l=out++(S::l):=z?;simp only[e1];have hql:=q.len;have Xi:lv P e<=lv P (i+1)+(e-(i+1)):=by
      have: ∀d,lv P (i+1+d)<=lv P (i+1)+d:=by
       intro d;induction d with
       |zero=>simp
       |succ d ih=>
        by_cases F6:i+1+d<P.length
        ·have:=lx (wK F6);rw[show i+1+(d+1)=i+1+d+1 by omega,this];split<;>omega
        have e2:lv P (i+1+(d+1))=lv P (i+1+d):=by unfold lv;rw[o! o?,o! o?]
        omega
      have:=this (e-(i+1));rw[show i+1+(e-(i+1))=e by omega]at this;exact this
     refine behind (S::l) pl ⟨by simpa using q.NX,fun j hj=>(q.sk j o?).trans (pf j hj), ?_, ?_,v?⟩ v?
     ·have F9:iY (Holds P) (out.length:Int) S.span.qO S.span.to (out.length+1) l:=by
       rw[s2,s3];have:=q.MV;simp only[s?,b?,f?]at this;exact this.mono o?
      have:=iY.cons Xg qo (qo+t.length) out.length S l [] s1 o? o? (fun y hy=>?_) F9 (.nil _ _ _ _ o?)
      ·simpa using this
      obtain⟨j,p,j1,j2,j3,j4,j5,_⟩:=q.mem y hy;rw[s4];exact⟨i,j,x,p,hx,k1,N3,rfl,o?,o?,j3,j4,j5⟩
     intro y hy;rcases U?.1 hy with rfl|hy
     ·exact⟨i,x,ju _,xS,hx,k1,s4.symm,s5.symm,s6.symm⟩
     obtain⟨j,p,j1,j2,j3⟩:=q.mem y hy;exact⟨j,p,o?,j2,j3⟩
    rcases Xj with ⟨u1,u2⟩|⟨w,w1,w2,w3⟩;rw[if_neg v?];exact stop _ u2.symm rfl rfl rfl rfl rfl;rw[if_pos v?];have hwl:=(qL w3).1;refine .go (a:=Xg) (by rw[hu,w1,xk hwl];simpa[wK hwl]using w3) ?_;exact stop _ rfl rfl rfl rfl rfl rfl
   rw[if_neg k1]at Sp;rw[if_neg (by simp[k1])];have hde:e=i+1:=hd ((hP.ok x (zc hx)).other k1).1;have:=behind [] zk ⟨rfl,fun _ _=>rfl,.nil _ _ _ _ o?,z?,v?⟩ z?;simpa using this
theorem Ly(hP:Good P): ∀(q:List Pt)(k:Nat)(m:Int),P.drop k=q->0<=m->m<=k->qM (yT (m,(k:Int),env,lead,unit,P,ds,nm)) (fun v=>v+lv P k=m+lv P P.length):=by have hl:=hP.len;intro q;induction q with|nil=>(intro k m hk h0 h1;rw[yT.eq_1,if_neg (by simpa using yx hk)];have:=vV hk;refine .ret ?_;have:lv P k=lv P P.length:=by unfold lv;rw[o! this,o! (ju _)]);omega|cons x q ih=>intro k m hk h0 h1;obtain⟨a1,a2,a3,a4⟩:=vn hk;obtain⟨b1,_,_⟩:=drop_cons hk;have hc:=lx b1;rw[yT.eq_1,if_pos (by simpa using a1),l9 o? a1];have:= @wr;exact tW
theorem zero_tot(s:qa)(pl:List Int)(st:List qt)(hs:st.length<=40000000): ∀(q:List qt)(k:Nat)(z:Bool),st.drop k=q->(z=true-> ∃x∈st,x.n=0/\x.qQ=false)->
  qM (vC (s,z,(k:Int),env,lead,unit,P,ds,nm,ns,ts,pl,st)) (fun v=>v=true-> ∃x∈st,x.n=0/\x.qQ=false):=by intro q;induction q with|nil=>intro k z hk hz;rw[vC.eq_1,if_neg (by simpa using yx hk)];exact .ret hz|cons x q ih=>intro k z hk hz;obtain⟨a1,a2,a3,a4⟩:=vn hk;rw[vC.eq_1,if_pos (by simpa using a1),l9 o? a1];exact tW
end
structure Ph (s:qa) (st:List qt):Prop where
 len:s.length<=65536
 MV: ∃H:Int->Int->Prop,iY H (-1) 0 s.length 0 st/\ ∀n,¬ S? H n n
 many:0<st.length/\st.length<=257
 n: ∀x∈st,0<=x.n/\x.n<=100000000
 qU: ∀x∈st,yP x.qU<=1000000000/\(∀ o∈x.opts.l,o.length<=17592186044416)/\Uv x.opts=0/\x.opts.l.length<=8192002
 free: ∃x∈st,x.qQ=false
theorem Pj{env:Sl qx}{lead unit:qa}(hE:GX env lead unit)(l:Sl qA)(hl:qR (l.l.map pQ)<=8192002):qM (fM l env lead unit) (fun r=>r.2.2=0->Ph r.1 r.2.1.l):=by
 unfold fM;refine .bind (Yj l o?) fun v hv=>?_;refine .tI ?_ ?_<;>intro hT;exact .ret z?;have hS:=hv hT;refine .bind (Tc hE l hl hS (-1)) fun k hk=>?_;obtain⟨e1,e2,e3,⟨t,t1,t2,t3⟩,hI,_⟩:=hk;obtain⟨k1,k2,k3,r,kd,kn⟩:=k;simp only at e1 e2 e3 t1 hI;subst e1 e2 e3;simp only[List.nil_append]at t1;subst t1;simp only[List.length_nil]at t2;refine .bind (Hv r kd kn t2 hI o?) fun P hP=>?_;refine .bind (Tj P kd kn hP) fun w hw=>?_;refine .tI ?_ ?_<;>intro hT;exact .ret z?;have hN:=hw hT;have hPl:=hP.len;have OP:=Ly (env:=k1) (lead:=k2) (unit:=k3) (ds:=kd) (nm:=kn) hP P 0 0 rfl o? o?;refine .bind OP fun m hm=>?_;refine .tI ?_ ?_<;>intro hT;exact .ret z?;have hm256:=hT;have hcnt:lv P P.length<=256:=by (have:lv P 0=0:=by simp[lv]);omega
 have hM0:bu P [] []:=⟨rfl,z?,z?,fun n t h=>by obtain⟨k,h,_⟩:=h;simp at h⟩;have ep:=row1_tot (env:=k1) (lead:=k2) (unit:=k3) (ds:=kd) (nm:=kn) hP hP.chain [] [] [] z? hM0 (fun j y ns ts h1 h2 h3 h4=>
  XV hP hN j y h3 ns ts h4 fun _=>text_tot hP hN _ y.n rfl ns ts h4)
 have Sy:qM (mN (0:Int) (P.length:Int) k1 k2 k3 P kd kn) (fun v=>v.2.1=0-> ∃ns ts,v=(v.1,0,k1,k2,k3,P,kd,kn,ns,ts)/\bu P ns ts/\mg P ns ts 0 P.length v.1/\v.1.length<=65536):=by unfold mN;refine .bind ep fun w hw=>?_;rcases w with w|w;exact .ret fun h=>absurd h hw;obtain⟨a,b,t,rfl,w2,w3,w4,w5⟩:=hw;exact .ret fun _=>⟨a,b,z?,by simpa using w2,by simpa using w4,by simpa using w5⟩
 refine .bind Sy fun y hy=>?_;refine .tI ?_ ?_<;>intro hT;exact .ret fun h=>absurd h hT;obtain⟨ns,ts,e,y2,y3,y4⟩:=hy hT;rw[e];simp only;generalize y.1=s at y3 y4 |-;refine .zE o? ?_;refine .zE (by simp only[qi,zU,decide_eq_true_eq];omega) ?_;have Wo:=RD (env:=k1) (lead:=k2) (unit:=k3) (ds:=kd) (nm:=kn) hP y2 hP.chain 0 s [] (List.replicate P.length 0) (-1) y3 o? o? (ju _) z? z? (.inl ⟨rfl,rfl⟩);have hst2:qM (bF (0:Int) (P.length:Int) (0:Int) k1 k2 k3 (List.replicate P.length 0) P kd kn ns ts) (fun v=> ∃l pl,v=((0:Int)+s.length,k1,k2,k3,pl,P,kd,kn,ns,ts,[]++l)/\It P 0 0 P.length s [] (List.replicate P.length 0) (-1) l pl):=by unfold bF;exact .bind Wo fun v hv=> .ret hv
 rw[show (P.length:Int).toNat=P.length by simp];refine .bind hst2 fun z hz=>?_;obtain⟨st,pl,rfl,q⟩:=hz;simp only[List.nil_append];have hql:=q.len;have hc0:lv P 0=0:=by simp[lv]
 have hnn: ∀x∈st,0<=x.n/\x.n<=100000000:=by intro x hx;obtain⟨j,p,_,_,j3,_,j5,_⟩:=q.mem x hx;rw[<- j5];exact hP.n p (zc j3)
 have hff: ∀x∈st,yP x.qU<=1000000000/\(∀ o∈x.opts.l,o.length<=17592186044416)/\Uv x.opts=0/\x.opts.l.length<=8192002:=by intro x hx;obtain⟨j,p,_,_,j3,_,_,j6,j7⟩:=q.mem x hx;have:=hP.ok p (zc j3);rw[<- j6,<- j7];exact⟨this.qU,this.ol⟩
 have F9:iY (Holds P) (-1) 0 s.length 0 st:=by have:=q.MV;simpa using this
 refine .bind (zero_tot s pl st o? st 0 false rfl z?) fun z hz=>?_;refine .tI ?_ ?_<;>intro hT;refine .zE (by simp only[qi,zU,decide_eq_true_eq];omega) ?_;refine .ret fun _=>⟨y4,⟨Holds P,F9.Ga _ rfl rfl rfl,hN⟩,v?,fun x hx=>?_,fun x hx=>?_,⟨_,List.mem_append_right _ (List.mem_singleton.2 rfl),rfl⟩⟩;rcases List.mem_append.1 hx with hx|hx;exact hnn x hx;simp only[List.mem_singleton]at hx;subst hx;simp;rcases List.mem_append.1 hx with hx|hx;exact hff x hx;simp only[List.mem_singleton]at hx;subst hx;refine⟨?_,by simp[dG]⟩;simp[yP,yL,dG,Zf,qR];obtain⟨x,hx,_,h0⟩:=hz hT;refine .ret fun _=>⟨y4,⟨Holds P,F9,hN⟩,⟨List.length_pos_of_mem hx,u?⟩,hnn,hff,⟨x,hx,h0⟩⟩
namespace Xr
theorem La{x z:qt}{qD rest:List qt}{k:Nat}(h:(x::(qD++rest))[k]? =some z):(k=0/\z=x)\/(∃ i,k=i+1/\qD[i]? =some z)\/(∃ i,k=i+1+qD.length/\rest[i]? =some z):=by cases k with|zero=>simp at h;exact .inl ⟨rfl,h.symm⟩|succ k=>simp only[i?]at h;by_cases hk:k<qD.length;rw[t? hk]at h;exact .inr (.inl ⟨k,rfl,h⟩);rw[J? o?]at h;exact .inr (.inr ⟨k-qD.length,o?,h⟩)
theorem idx_k{x z:qt}{qD rest:List qt}{i:Nat}(h:qD[i]? =some z):(x::(qD++rest))[i+1]? =some z:=by have hi:=(qL h).1;simp only[i?];rw[t? hi];exact h
theorem idx_r{x z:qt}{qD rest:List qt}{i:Nat}(h:rest[i]? =some z):(x::(qD++rest))[i+1+qD.length]? =some z:=by rw[show i+1+qD.length=(qD.length+i)+1 by omega];simp only[i?];rw[J? o?];simpa using h
structure LayIn (up lo hi:Int) (b:Nat) (l:List qt) (k:Nat) (x:qt):Prop where
 lo:lo<=x.span.qO
 le:x.span.qO<=x.span.to
 hi:x.span.to<=hi
 ins:x.up=up\/ ∃(q:Nat)(y:qt),x.up=((b+q:Nat):Int)/\q<k/\l[q]? =some y/\y.span.qO<=x.span.qO/\x.span.to<=y.span.to
 Pb: ∀(j:Nat)(y:qt),j<k->l[j]? =some y->y.up=x.up->y.span.to<=x.span.qO
 pre: ∀(j:Nat)(y:qt),j<k->x.up<((b+j:Nat):Int)->l[j]? =some y->x.up<=y.up
theorem LayX.yB{H:Int->Int->Prop}{up lo hi:Int}{b:Nat}{l:List qt}(h:iY H up lo hi b l):up<b-> ∀(k:Nat)(x:qt),l[k]? =some x->LayIn up lo hi b l k x:=by induction h with|nil=>intro _ k x hx;simp at hx|cons up lo hi b x qD rest hu h1 h2 hH hk hr Gx Kj=>(intro hub k z hz;have Gx:=Gx o?;have Kj:=Kj o?;have pd: ∀(i:Nat)(y:qt),qD[i]? =some y->i<qD.length:=fun i y h=>(qL h).1;have hrle:=hr.le;have kup: ∀(i:Nat)(y:qt),qD[i]? =some y->(b:Int)<=y.up/\y.up<b+1+qD.length:=by intro i y h;have:=pd i y h;rcases(Gx i y h).ins with e|⟨q,w,e,q1,_⟩<;>omega);(have rup: ∀(i:Nat)(y:qt),rest[i]? =some y->y.up=up\/(b:Int)+1+qD.length<=y.up:=by intro i y h;rcases(Kj i y h).ins with e|⟨q,w,e,q1,_⟩;exact .inl e;right;omega);rcases La hz with ⟨rfl,rfl⟩|⟨i,rfl,hi⟩|⟨i,rfl,hi⟩;exact⟨h1,h2,hrle,.inl hu,fun j y hj=>o?,fun j y hj=>o?⟩;have q:=Gx i z hi;refine⟨by have:=q.lo;omega,q.le,by have:=q.hi;omega, ?_, ?_, ?_⟩;rcases q.ins with e|⟨p,y,e,p1,p2,p3⟩;exact .inr ⟨0,x,by simpa using e,o?,z?,q.lo,q.hi⟩;exact .inr ⟨p+1,y,by rw[e];omega,o?,idx_k p2,p3⟩;intro j y hj hy Xj;rcases La hy with ⟨rfl,rfl⟩|⟨i',rfl,uj⟩|⟨i',rfl,uj⟩;have:=kup i z hi;omega;exact q.Pb i' y o? uj Xj;have:=pd i z hi;omega;intro j y hj hz2 hy;have hzu:=kup i z hi;rcases La hy with ⟨rfl,rfl⟩|⟨i',rfl,uj⟩|⟨i',rfl,uj⟩;omega;exact q.pre i' y o? o? uj;have:=pd i z hi;omega;have q:=Kj i z hi;refine⟨by have:=q.lo;omega,q.le,q.hi, ?_, ?_, ?_⟩;rcases q.ins with e|⟨p,y,e,p1,p2,p3⟩;exact .inl e;exact .inr ⟨p+1+qD.length,y,by rw[e];omega,o?,idx_r p2,p3⟩;intro j y hj hy Xj;rcases La hy with ⟨rfl,rfl⟩|⟨i',rfl,uj⟩|⟨i',rfl,uj⟩;exact q.lo;have a1:=kup i' y uj;have a2:=rup i z hi;omega;exact q.Pb i' y o? uj Xj;intro j y hj hz2 hy;have hzu:=rup i z hi;rcases La hy with ⟨rfl,rfl⟩|⟨i',rfl,uj⟩|⟨i',rfl,uj⟩;omega;have a1:=kup i' y uj;have a2:=pd i' y uj;omega;exact q.pre i' y o? o? uj
def Ze(a:Int)(x:qt):qt:={ x with span:=⟨x.span.qO+a,x.span.to+a⟩ }
theorem LayX.shift{H:Int->Int->Prop}{up lo hi:Int}{b:Nat}{l:List qt}(h:iY H up lo hi b l)(a:Int):iY H up (lo+a) (hi+a) b (l.map (Ze a)):=by induction h with|nil up lo hi b h=>exact .nil _ _ _ _ o?|cons up lo hi b x qD rest hu h1 h2 hH hk hr Gx Kj=>rw[d?,List.map_append];refine .cons up (lo+a) (hi+a) b (Ze a x) _ _ hu ?_ ?_ (fun y hy=>?_) Gx ?_;simp only[Ze];omega;simp only[Ze];omega;obtain⟨z,hz,rfl⟩:=G?.1 hy;exact hH z hz;simp only[j_];exact Kj
theorem lay_may{H:Int->Int->Prop}{i:qu}{n:Int}(h:iY H (-1) i.span.qO i.span.to 0 i.stops.l)(h0:0<=i.span.qO)(h1:i.span.to<=n):Vx i n:=by have dm:=fun k x hx=>LayX.yB h o? k x hx;have xS: ∀{k:Nat}{x:qt},i.stops.l[k]? =some x->k<i.stops.l.length:=fun h=>(qL h).1;refine⟨⟨h0,Go.Proofs.YtnfdnckadgcifaaGreat.iY.le h,h1⟩,fun k x hx=>?_,fun k x hx=>(dm k x hx).le,fun k x hx _=>⟨(dm k x hx).lo,(dm k x hx).hi⟩,fun k x hx p y hp hy=>?_,fun k x hx=>(dm k x hx).Pb,fun k x hx q y hq hu hy=>(dm k x hx).pre q y hq o? hy⟩;rcases(dm k x hx).ins with e|⟨q,y,e,q1,_⟩<;>omega;rcases(dm k x hx).ins with e|⟨q,z,e,q1,q2,q3,q4⟩;omega;have:q=p:=o?;subst this;rw[hy]at q2;cases q2;exact⟨q3,q4⟩
end Xr
namespace Xr
theorem UT{st:qq}(h:yw st)(k:Int):qM (s7 st k) (fun v=>v.2=0->yw v.1):=by
 have hl:=h.may.sm;unfold s7;refine WB h ?_;rw[if_neg z?];refine .ite (fun _=> .ret fun h0=>absurd h0 (by decide)) fun c=>?_;have jZ:st.qf.l≠[]:=by intro e;rw[e]at c;simp at c
 have tJ:=M?.2 jZ;rw[wi (n:=(st.qf.l.length:Int)-1),show(st.qf.l.length:Int)-1=((st.qf.l.length-1:Nat):Int)from o?];obtain⟨x,hx⟩:=gl (l:=st.qf.l) (k:=st.qf.l.length-1) o?;refine .go (gi hx) ?_;refine .bind (Dy h k _ x (zc hx) _ x.insts.l 0 false [] rfl z? z? (by simp[vh])) fun v hv=>?_;refine .ite (fun _=> .ret fun h0=>absurd h0 (by decide)) fun _=>?_;refine .ite (fun _=> .ret fun h0=>absurd h0 (by decide)) fun _=>?_;have Ei:v.2.length*17592186044416<=4096*17592186044416:=mulR _ hv.1;refine .bind (BL st h ⟨v.2.isEmpty,v.2⟩ (by have:=hv.1;simp only;omega) (by have:=hv.2;simp only;omega)) fun w hw=>?_;refine .ite (fun c2=> .ret fun h0=>absurd h0 (by simpa using c2)) fun c2=>?_;rcases hw with hw|⟨_,hw,hless⟩;exact absurd (by simpa using c2) hw;refine .ite (fun _=> .ret fun _=>hw) fun c3=>?_;have hlen:w.1.qf.l.length=st.qf.l.length:=by have:=hless.1;simp only[decide_eq_true_eq]at c3;omega
 refine .bind (QV hw x.cur (fun y hy L7=>?_) (by intro e;rw[e]at hlen;simp at hlen;omega)) fun u hu=> .ret hu;obtain⟨s,s1,s2⟩:=hless.2 _ y L7;rw[hlen,hx]at s1;cases s1;rw[<- s2];exact hw.KZ y hy
structure UB (env:Sl qx):Prop where
 len:env.l.length<=64
 val: ∀p∈env.l,p.value.length<=65536
theorem Si(name:qa)(env:Sl qx)(h:UB env):qM (u9 name env) (fun v=>v.1.length<=65536):=by
 have hl:=h.len;have loop: ∀(d k:Nat),k+d=env.l.length->qM (vB (name,env,(k:Int))) (fun v=>match v with| .inl y=>y.1.length<=65536| .inr _=>True):=by intro d;induction d with|zero=>intro k h;rw[vB.eq_1,if_neg v?];exact .ret trivial|succ d ih=>intro k hk;obtain⟨x,hx⟩:=gl (l:=env.l) (k:=k) o?;rw[vB.eq_1,if_pos v?,ws o?];refine .go (gi hx) ?_;exact .ite (fun _=> .ret (h.val x (zc hx))) fun _=>ih (k+1) o?
 unfold u9;refine .bind (loop env.l.length 0 o?) fun v hv=>?_;exact tW
theorem Nm(s:qa)(hs:s.length<=2^28)(c:UInt8):qM (wx s c) (fun v=> -1<=v/\v<s.length):=by
 have loop: ∀k:Nat,k<=s.length->qM (gT (s,c,(k:Int)-1)) (fun v=> -1<=v/\v<s.length):=by intro k;induction k with|zero=>intro _;rw[gT.eq_1,if_neg z?];exact .ret ⟨o?,o?⟩|succ k ih=>intro h;obtain⟨b,hb⟩:=gl (l:=s) (k:=k) o?;rw[show ((k+1:Nat):Int)-1=(k:Int)from o?,gT.eq_1,if_pos z?,wi (n:=(k:Int)-1)];have:= @gi;exact tW
 unfold wx;have:= @wi;exact tW
theorem PT(n:Int)(h0:0<=n)(h1:n<=2^28):qM (kc n) (fun v=>v.length<=n+1):=by
 have loop: ∀(m:Nat)(n:Int)(s r:qa),m=n.toNat->0<=n->n<=2^28->(s.length:Int)+n<=2^29->qM (uZ (n,s,r)) (fun v=>(v.length:Int)<=s.length+n):=by intro m;induction m using r? with|_ m ih=>intro n s r hm h0 h1 hs;rw[uZ.eq_1];have:= @wi;exact tW
 unfold kc;exact tW
section
variable (s:qa) (hs:s.length<=65536) (env:Sl qx) (line:Int) (x:qm) (sp:qk) (r2 out r4:List qx)
include hs
theorem placeA(b:Int): ∀k:Nat,k<=s.length->qM (uz (s,env,line,(k:Int),b,x,sp,r2,out,r4)) (fun v=>0<=v/\v<=k):=by intro k;induction k with|zero=>intro _;rw[uz.eq_1,if_neg z?];exact .ret ⟨o?,o?⟩|succ k ih=>intro h;obtain⟨c,hc⟩:=gl (l:=s) (k:=k) o?;rw[uz.eq_1,if_pos (by simp only[decide_eq_true_eq];omega),wi (n:=((k+1:Nat):Int)-1),show((k+1:Nat):Int)-1=(k:Int)from o?];refine .go (gi hc) ?_;refine .bind (da c) fun v _=>?_;exact .ite (fun _=>U_ (ih o?) fun v hv=>⟨hv.1,o?⟩) fun _=> .ret ⟨o?,o?⟩
theorem placeA2(b:Int): ∀k:Nat,k<=s.length->qM (wV (s,env,line,(k:Int),b,x,sp,r2,out)) (fun v=>0<=v/\v<=k):=by intro k;induction k with|zero=>intro _;rw[wV.eq_1,if_neg z?];exact .ret ⟨o?,o?⟩|succ k ih=>intro h;obtain⟨c,hc⟩:=gl (l:=s) (k:=k) o?;rw[wV.eq_1,if_pos (by simp only[decide_eq_true_eq];omega),wi (n:=((k+1:Nat):Int)-1),show((k+1:Nat):Int)-1=(k:Int)from o?];refine .go (gi hc) ?_;refine .bind (da c) fun v _=>?_;exact .ite (fun _=>U_ (ih o?) fun v hv=>⟨hv.1,o?⟩) fun _=> .ret ⟨o?,o?⟩
theorem placeB(a:Int): ∀(d k:Nat),k+d=s.length->qM (uA (s,env,line,a,(k:Int),x,sp,r2,out,r4)) (fun v=>k<=v/\v<=s.length):=by intro d;induction d with|zero=>intro k h;rw[uA.eq_1,if_neg v?];exact .ret ⟨o?,o?⟩|succ d ih=>intro k h;obtain⟨c,hc⟩:=gl (l:=s) (k:=k) o?;rw[uA.eq_1,if_pos v?,ws o?];refine .go (gi hc) ?_;refine .bind (da c) fun v _=>?_;exact .ite (fun _=>U_ (ih (k+1) o?) fun v hv=>⟨o?,hv.2⟩) fun _=> .ret ⟨o?,o?⟩
theorem placeB2(a:Int): ∀(d k:Nat),k+d=s.length->qM (wW (s,env,line,a,(k:Int),x,sp,r2,out)) (fun v=>k<=v/\v<=s.length):=by intro d;induction d with|zero=>intro k h;rw[wW.eq_1,if_neg v?];exact .ret ⟨o?,o?⟩|succ d ih=>intro k h;obtain⟨c,hc⟩:=gl (l:=s) (k:=k) o?;rw[wW.eq_1,if_pos v?,ws o?];refine .go (gi hc) ?_;refine .bind (da c) fun v _=>?_;exact .ite (fun _=>U_ (ih (k+1) o?) fun v hv=>⟨o?,hv.2⟩) fun _=> .ret ⟨o?,o?⟩
end
section
def UG(l:List qx):Prop:= ∀p∈l,p.value.length<=1048576
theorem rn{p:qx}{l:List qx}(h:p.value.length<=1048576)(hl:UG l):UG (p::l):=fun q hq=>by rcases U?.1 hq with rfl|hq;exact h;exact hl q hq
variable {s:qa} (hs:s.length<=65536) {env:Sl qx} (he:UB env)
include hs he
theorem NW(x:qm)(h0:0<=(vq x).qO)(h1:(vq x).to<=s.length):qM (cQ s x env) (fun v=>v.1.l.length<=100/\UG v.1.l):=by
 have MO:=he.len;have hE:UG env.l:=fun p hp=>by have:=he.val p hp;omega
 have hx:=lT x;obtain⟨k,hk⟩: ∃k:Nat,x.head=k:=⟨x.head.toNat,o?⟩;have hA:=PB s o? x.head;unfold cQ;refine .go (JD x) ?_;rw[if_neg v?];have lines: ∀{β:Type}{Q:β->Prop}{f:(Int×Int)->qa->Option β},(∀ v r,0<=v.1->v.1<=65536->r.length<=65536->qM (f v r) Q)->qM (dB s x.head>>=fun v=>uN s v.1>>=fun a=>sa s v.1>>=fun b=>kH s a.1 b.1>>=fun r=>f v r) Q:=by intro β Q f hf;refine .bind hA fun v hv=>?_;obtain⟨a,b,c,g1,g2,g3,g4,g5,_⟩:=Q6 s o? v.1;refine .go g1 (X' g2 ?_);refine .bind (qM.kH u? u? u?) fun r hr=>?_;have hb:=Vi s x.head.toNat;have hb2:=PE s;have:=hr.2;simp only at this;refine hf v r ?_ ?_ o?<;>rcases hv with ⟨_,_,_,hv⟩|⟨_,hv,_⟩<;>omega
 have ZI: ∀(n:Nat)(l0:List qx),n<=36->l0.length<=36->UG l0->qM (if qi (n+env.l.length) 32=true then some ((⟨false,l0++env.l⟩:Sl qx),(0:Int))else none) (fun v=>v.1.l.length<=100/\UG v.1.l):=by intro n l0 hn hl hv;refine .zE qH (.ret ⟨v?,fun p hp=>?_⟩);rcases p?.1 hp with hp|hp;exact hv p hp;exact hE p hp
 have SY: ∀(m n:Nat)(l0:List qx)(L:qa->qa->qa->List qx),m<=36->n<=36->l0.length<=36->UG l0->(∀ a b c:qa,a.length<=65536->b.length<=65536->c.length<=65536->(L a b c).length<=36/\UG (L a b c))-> ∀v:qa×Bool,v.1.length<=65536->
   qM (if v.2=true then wx v.1 47>>=fun a=>mj v.1 (q?.wrap (a+(1:Int)))>>=fun r=>wx r 46>>=fun b=>if(decide (b>(0:Int)))=true then we r b>>=fun r1=>we v.1 (if (0:Int)>a then(0:Int)else a)>>=fun r2=>if qi n 32=true then if qi (n+env.l.length) 32=true then some ((⟨false,L r r1 r2++env.l⟩:Sl qx),(0:Int))else none else none else we v.1 (if (0:Int)>a then(0:Int)else a)>>=fun r2=>if qi n 32=true then if qi (n+env.l.length) 32=true then some ((⟨false,L r r r2++env.l⟩:Sl qx),(0:Int))else none else none else if qi (m+env.l.length) 32=true then some ((⟨false,l0++env.l⟩:Sl qx),(0:Int))else none) (fun v=>v.1.l.length<=100/\UG v.1.l):=by
  intro m n l0 L hm hn hl hv hL v ZQ;refine .ite (fun _=>?_) fun _=>ZI m l0 hm hl hv;refine .bind (Nm v.1 o? 47) fun a ha=>?_;rw[wi (n:=a+1)];refine .bind .mj fun r hr=>?_;have Sx:=hr.2;refine .bind (Nm r o? 46) fun b hb=>?_;have dir:qM (we v.1 (if (0:Int)>a then(0:Int)else a)) (fun z=>z.length<=65536):=U_ (qM.we (by split<;>omega) (by split<;>omega)) fun z hz=>by have:=hz.2;split at this<;>omega
  refine .ite (fun c=>?_) fun _=>?_
  ·simp only[decide_eq_true_eq]at c;refine .bind .we fun r1 h1=>?_;have h1l:=h1.2;refine .bind dir fun r2 h2=>q0h qH ?_;exact ZI n _ hn (hL r r1 r2 o? o? h2).1 (hL r r1 r2 o? o? h2).2
  refine .bind dir fun r2 h2=>q0h qH ?_;exact ZI n _ hn (hL r r r2 o? o? h2).1 (hL r r r2 o? o? h2).2
 have dig: ∀n:Int,0<=n->n<=65537->qM (kc n) (fun v=>v.length<=65538):=fun n a b=>U_ (PT n a o?) fun v hv=>o?;have get:=fun n=>Si n env he;rw[hk]at lines |-;refine .ite (fun c=>?_) fun c=>?_;{simp only[decide_eq_true_eq]at c;refine .bind .kH fun r7 h7=>q0h qH ?_;have h7l:=h7.2;refine lines fun v r Hh ZQ hr=>?_;refine .zE qH ?_;refine .bind (placeA s hs env _ x _ _ _ _ _ k o?) fun a ha=>?_;refine .bind (placeB s hs env _ x _ _ _ _ a (s.length-k) k o?) fun b hb=>?_;rw[wi (n:=v.1+1)];refine .ite (fun c2=>?_) fun c2=>?_;{simp only[decide_eq_true_eq]at c2;refine .bind .kH fun w hw=>?_;have hwl:=hw.2;refine .zE qH ?_;refine .bind (dig _ Hh o?) fun d1 h1=>?_;refine .bind (dig _ o? o?) fun d2 h2=>?_;refine .zE qH ?_;refine .bind (get _) fun g hg=>?_;exact SY _ _ _ (fun a b c=>_) (by omega) (by omega) (by simp) (by repeat (first|refine rn (by simp only;omega) ?_|exact fun p hp=>absurd hp (by simp))) (fun a b c ha hb hc=>⟨by simp,(by repeat (first|refine rn (by simp only;omega) ?_|exact fun p hp=>absurd hp (by simp)))⟩) g hg};refine .bind (dig _ Hh o?) fun d1 h1=>?_;refine .bind (dig _ o? o?) fun d2 h2=>?_;refine .zE qH ?_;refine .bind (get _) fun g hg=>?_;exact SY _ _ _ (fun a b c=>_) (by omega) (by omega) (by simp) (by repeat (first|refine rn (by simp only;omega) ?_|exact fun p hp=>absurd hp (by simp))) (fun a b c ha hb hc=>⟨by simp,(by repeat (first|refine rn (by simp only;omega) ?_|exact fun p hp=>absurd hp (by simp)))⟩) g hg};skip;refine lines fun v r Hh ZQ hr=>?_;refine .zE qH ?_;refine .bind (placeA2 s hs env _ x _ _ _ _ k o?) fun a ha=>?_;refine .bind (placeB2 s hs env _ x _ _ _ a (s.length-k) k o?) fun b hb=>?_;rw[wi (n:=v.1+1)];refine .ite (fun c2=>?_) fun c2=>?_;{simp only[decide_eq_true_eq]at c2;refine .bind .kH fun w hw=>?_;have hwl:=hw.2;refine .zE qH ?_;refine .bind (dig _ Hh o?) fun d1 h1=>?_;refine .bind (dig _ o? o?) fun d2 h2=>?_;refine .zE qH ?_;refine .bind (get _) fun g hg=>?_;exact SY _ _ _ (fun a b c=>_) (by omega) (by omega) (by simp) (by repeat (first|refine rn (by simp only;omega) ?_|exact fun p hp=>absurd hp (by simp))) (fun a b c ha hb hc=>⟨by simp,(by repeat (first|refine rn (by simp only;omega) ?_|exact fun p hp=>absurd hp (by simp)))⟩) g hg};refine .bind (dig _ Hh o?) fun d1 h1=>?_;refine .bind (dig _ o? o?) fun d2 h2=>?_;refine .zE qH ?_;refine .bind (get _) fun g hg=>?_;exact SY _ _ _ (fun a b c=>_) (by omega) (by omega) (by simp) (by repeat (first|refine rn (by simp only;omega) ?_|exact fun p hp=>absurd hp (by simp))) (fun a b c ha hb hc=>⟨by simp,(by repeat (first|refine rn (by simp only;omega) ?_|exact fun p hp=>absurd hp (by simp)))⟩) g hg
end
end Xr
namespace Xr
theorem T8(s:qa)(hs:s.length<=65536)(line:Int):qM (cY s line) (fun v=>v.1.length<=65536):=by
 have loop: ∀(f:Int)(d k:Nat),k+d=s.length->qM (vQ (s,f,(k:Int))) (fun v=>k<=v/\v<=s.length):=by intro f d;induction d with|zero=>intro k h;rw[vQ.eq_1,if_neg v?];exact .ret ⟨o?,o?⟩|succ d ih=>intro k h;obtain⟨b,hb⟩:=gl (l:=s) (k:=k) o?;have k1:=ih (k+1) o?;rw[vQ.eq_1,if_pos v?,ws o?];refine .go (gi hb) ?_;exact .ite (fun _=>U_ k1 fun v hv=>⟨o?,hv.2⟩) fun _=>x_ (fun _=>U_ k1 fun v hv=>⟨o?,hv.2⟩) fun _=> .ret ⟨o?,o?⟩
 unfold cY;obtain⟨a,b,c,g1,_,g3,g4,g5,_⟩:=Q6 s o? line;refine .go g1 ?_;refine .ite (fun _=> .ret z?) fun _=>?_;obtain⟨k,rfl⟩: ∃k:Nat,a=k:=⟨a.toNat,o?⟩;refine .bind (loop k (s.length-k) k o?) fun v hv=>?_;refine .bind (qM.kH u? u? o?) fun r hr=> .ret ?_;have:=hr.2;simp only at this |-;omega
structure Yi (q:List qm) (es:List qz) (bq:List (Sl qt)):Prop where
 le:es.length=bq.length
 each: ∀(j:Nat) e,es[j]? =some e-> ∃x m,q[j]? =some x/\bq[j]? =some m/\e.span=vq x/\Ph e.text m.l
theorem Yi.Ga{q:List qm}{es:List qz}{bq:List (Sl qt)}(h:Yi q es bq){x:qm}(hx:q[es.length]? =some x){t:qa}{m:Sl qt}(hm:Ph t m.l):Yi q (es++[⟨vq x,t⟩]) (bq++[m]):=by have hle:=h.le;refine⟨by simp[hle],fun j e he=>?_⟩;by_cases c:j<es.length;rw[t? c]at he;obtain⟨y,z,a,b,c1,d⟩:=h.each j e he;exact tW;exact tW
theorem Fo{st:qq}(h:yw st)(l:Sl qA)(hl:qR (l.l.map pQ)<=8192002){env:Sl qx}(he:UB env)(unit:qa)(hu:unit.length<=65536)(t6:qq): ∀(r:List qm)(i:Nat)(es:List qz)(bq:List (Sl qt)),st.zC.l.drop i=r->es.length=i->Yi st.zC.l es bq->
  qM (yp (l,env,unit,(i:Int),st,t6,es,bq)) (fun v=>match v with| .inl y=>y.1≠0| .inr y=>y.1.length=st.zC.l.length/\Yi st.zC.l y.1 y.2):=by have h64:=h.may.K6;have ht:=h.may.text;intro r;induction r with|nil=>(intro i es bq h0 h1 h2;have:=zt h0;rw[yp.eq_1,if_neg v?];refine .ret ⟨?_,h2⟩;cases df:es.length with|zero=>omega|succ k=>obtain⟨e,hee⟩:=gl (l:=es) (k:=k) o?;obtain⟨x,m,a,_⟩:=h2.each k e hee;have:=(qL a).1;omega)|cons x r ih=>intro i es bq h0 h1 h2;obtain⟨g1,g2,g3⟩:=zH h0;have hx:=h.may.Jr x (zc g1);have hle:=h2.le;rw[yp.eq_1,if_pos v?,ws o?];refine .go (gi g1) ?_;refine .go (JD x) ?_;refine .bind (NW ht he x hx.1 hx.2) fun v hv=>?_;refine .bind (PB st.text o? (vq x).qO) fun a _=>?_;refine .bind (T8 st.text ht a.1) fun ld hld=>?_;refine .bind (Pj ⟨by have:=hv.1;omega,hv.2,o?,o?⟩ l hl) fun m hm=>?_;refine .ite (fun c=> .ret (by simpa using c)) fun c=>?_;refine .zE qH (q0h qH ?_);exact ih (i+1) _ _ g2 (by simp[h1]) (h2.Ga (by rw[h1];exact g1) (hm (by simpa using c)))
structure Pg (i:qu):Prop where
 MV: ∃H:Int->Int->Prop,iY H (-1) i.span.qO i.span.to 0 i.stops.l
 len:i.stops.l.length<=257
 stop: ∀x∈i.stops.l,pL x
 free: ∃x∈i.stops.l,x.qQ=false
def Zv:Int->Int->List qu->Prop
 |lo,hi,[]=>lo<=hi
 |lo,hi,i::l=>lo<=i.span.qO/\Pg i/\Zv i.span.to hi l
theorem Zv.le: ∀{l:List qu}{lo hi:Int},Zv lo hi l->lo<=hi:=by intro l;induction l with|nil=>intro lo hi h;exact h|cons i l ih=>intro lo hi h;obtain⟨H,hL⟩:=h.2.1.MV;have:=Go.Proofs.YtnfdnckadgcifaaGreat.iY.le hL;have:=ih h.2.2;have:=h.1;omega
theorem Zv.each: ∀{l:List qu}{lo hi:Int},Zv lo hi l-> ∀(a:Nat) i,l[a]? =some i->lo<=i.span.qO/\i.span.to<=hi/\Pg i/\ ∀(b:Nat) j,a<b->l[b]? =some j->i.span.to<=j.span.qO:=by intro l;induction l with|nil=>intro lo hi h a i ha;simp at ha|cons i l ih=>intro lo hi h a j ha;obtain⟨H,hL⟩:=h.2.1.MV;have h1:=Go.Proofs.YtnfdnckadgcifaaGreat.iY.le hL;cases a with|zero=>(simp only[a?,wd]at ha;subst ha;refine⟨h.1,Zv.le h.2.2,h.2.1,fun b k hb hk=>?_⟩;cases b with|zero=>omega|succ b=>exact(ih h.2.2 b k (by simpa using hk)).1)|succ a=>obtain⟨a1,a2,a3,a4⟩:=ih h.2.2 a j (by simpa using ha);refine⟨by have:=h.1;omega,a2,a3,fun b k hb hk=>?_⟩;exact tW
theorem Zv.may{l:List qu}{hi:Int}(h:Zv 0 hi l):dv l hi:=by refine⟨fun a i ha=>?_,fun a b i j eH ha hb=>(Zv.each h a i ha).2.2.2 b j eH hb⟩;obtain⟨h1,h2,h3,_⟩:=Zv.each h a i ha;obtain⟨H,hL⟩:=h3.MV;exact lay_may hL h1 h2
def Ch(n:Int):Int->List qz->Prop
 |p,[]=>p<=n
 |p,e::r=>p<=e.span.qO/\e.span.qO<=e.span.to/\Ch n e.span.to r
theorem Fq(es:Sl qz)(mw:Int)(i:Nat)(qo:Int)(b0 t6:qq)(bq:List (Sl qt))(w:qa)(w2:Sl qm)(r7:List qc)(r8:Sl (Sl (Sl Int)))(s:Int)(Es:List qu)(in1 in2:Int)(m:Sl qt)(hm:bq[i]? =some m)(Wi:m.l.length<=257)(ha:0<=qo/\qo<=2^40)(hb: ∀x∈m.l,0<=x.span.qO/\x.span.qO<=x.span.to/\x.span.to<=65536):
  ∀(q:List qt)(k:Nat)(out:List qt),m.l.drop k=q->out.length=k->yr (es,mw,(i:Int),qo,(k:Int),b0,t6,bq,w,w2,r7,r8,s,Es,in1,in2,out)=some (out++q.map (Ze qo)):=by intro q;induction q with|nil=>intro k out h0 h1;have:=zt h0;rw[yr.eq_1,gi hm];simp only[zP,qV];rw[if_neg v?];simp|cons x q ih=>intro k out h0 h1;obtain⟨g1,g2,g3⟩:=zH h0;have hx:=hb x (zc g1);rw[yr.eq_1,gi hm];simp only[zP,qV];rw[if_pos v?,gi g1];simp only[qV];rw[if_pos qH,ws o?,wi (n:=x.span.qO+qo),wi (n:=x.span.to+qo),ih (k+1) _ g2 v?];simp[Ze]
theorem Fp(n:Int)(hn:0<=n/\n<=65536)(es:Sl qz)(hl:es.l.length<=64)(b0 t6:qq)(q:List qm)(bq:List (Sl qt))(hM:Yi q es.l bq)(w:qa)(w2:Sl qm)(r7:List qc)(r8:Sl (Sl (Sl Int)))(s:Int): ∀(r:List qz)(i:Nat)(mw p:Int)(Es:List qu),es.l.drop i=r->i<=64->Ch n p r->0<=p->0<=p+mw-> -(i:Int)*65536<=mw->mw<=(i:Int)*65536->Es.length=i->
  qM (yq (es,mw,(i:Int),b0,t6,bq,w,w2,r7,r8,s,Es)) (fun v=> ∃l,v=Es++l/\l.length=r.length/\Zv (p+mw) (n+mw+si r) l):=by intro r;induction r with|nil=>intro i mw p Es h0 hi hc _ _ _ _ _;have:=zt h0;rw[yq.eq_1,if_neg v?];refine .ret ⟨[],z?,rfl, ?_⟩;simp only[Zv,si,List.map_nil,List.sum_nil];have:p<=n:=hc;omega|cons e r ih=>(intro i mw p Es h0 hi hc hp hpb Hd hb2 hr;obtain⟨g1,g2,g3⟩:=zH h0;obtain⟨x,m,_,hm,_,YF⟩:=hM.each i e g1;obtain⟨c1,c2,c3⟩:=hc;have hcn: ∀(r:List qz)(p:Int),Ch n p r->p<=n:=by intro r;induction r with|nil=>intro p h;exact h|cons e r ih=>intro p h;have h1:=ih _ h.2.2;have:=h.1;have:=h.2.1;omega);have hen:=hcn r _ c3;have htl:=YF.len;obtain⟨H,hL,_⟩:=YF.MV;rw[yq.eq_1,if_pos v?,ws o?];refine .go (gi g1) ?_;rw[wi (n:=e.span.qO+mw)];refine .go (Fq es mw i _ b0 t6 bq w w2 r7 r8 s Es _ _ m hm YF.many.2 ⟨o?,o?⟩ (fun y hy=>?_) m.l 0 [] rfl rfl) ?_;obtain⟨k,hk⟩:=jI hy;have:=LayX.yB hL o? k y hk;exact⟨this.lo,this.le,by have:=this.hi;omega⟩;refine .zE qH ?_;rw[wi (n:=e.span.qO+mw+(e.text.length:Int)),wi (n:=mw+(e.text.length:Int)),wi (n:=e.span.to-e.span.qO),wi (n:=mw+(e.text.length:Int)-(e.span.to-e.span.qO))];have hLs:=LayX.shift hL (e.span.qO+mw);simp only[L?];refine .mono (ih (i+1) _ e.span.to _ g2 o? c3 o? o? (by push_cast;omega) (by push_cast;omega) (by simp[hr])) fun v hv=>?_;obtain⟨l,l1,l2,l3⟩:=hv;refine⟨_::l,by rw[l1,v_];rfl,by simp[l2],⟨u?,⟨⟨H, ?_⟩, ?_,fun y hy=>?_, ?_⟩, ?_⟩⟩;simp only;rw[show (0:Int)+(e.span.qO+mw)=e.span.qO+mw from o?,show((e.text.length:Int)+(e.span.qO+mw))=e.span.qO+mw+e.text.length from o?]at hLs;exact hLs;simp only[j_];exact YF.many.2;obtain⟨z,hz,rfl⟩:=G?.1 hy;exact YF.qU z hz;obtain⟨z,hz,h⟩:=YF.free;exact⟨Ze _ z,G?.2 ⟨z,hz,rfl⟩,h⟩;simp only;rw[show e.span.qO+mw+(e.text.length:Int)=e.span.to+(mw+e.text.length-(e.span.to-e.span.qO))from o?];rw[show n+mw+si (e::r)=n+(mw+e.text.length-(e.span.to-e.span.qO))+si r from by simp only[si,d?,u!,gE];omega];exact l3
end Xr
namespace Xr
theorem well_fin{w:World}(hu:WK w){y:List qc}(hy:Fin w.1.length w.2.2.1 y)(h8:w.2.2.1.length<=8):yw ⟨w.1,w.2.1,⟨false,y⟩⟩:=by have Xi:=hy.KZ.1;refine⟨⟨hu.text,u?,hu.ok.ne,hu.ok.K6,hu.ok.Jr,hu.ok.Yn,hy.ok.may,fun j s hs=>?_⟩,hy.ok.small,hy.ok.stop,fun s hs=>?_,hu.ok.qn⟩;have:=hy.closed j s (qL hs).1 hs;exact⟨this.1,this.2.2⟩;obtain⟨j,hj⟩:=jI hs;exact(hy.closed j s (qL hj).1 hj).2.1
theorem O7{n:Nat}{q:List qm}(hi:Zt n q)(ha:Yh q): ∀(es:List qz)(j:Nat)(p:Int),(∀(k:Nat) e,es[k]? =some e-> ∃x,q[j+k]? =some x/\e.span=vq x)->p<=n->(∀ x,q[j]? =some x->p<=(vq x).qO)->Ch n p es:=by intro es;induction es with|nil=>intro j p _ h _;exact h|cons e es ih=>intro j p h hp hx0;obtain⟨x,hx,he⟩:=h 0 e z?;have hxi:=hi x (zc hx);have hle:=cj x;refine⟨by rw[he];exact hx0 x hx,by rw[he];exact hle,ih (j+1) _ (fun k e' h' =>?_) (by rw[he];exact hxi.2) fun y hy=>?_⟩;obtain⟨y,hy,h2⟩:=h (k+1) e' (by simpa using h');exact⟨y,by rw[show j+1+k=j+(k+1)from o?];exact hy,h2⟩;rw[he];obtain⟨a1,a2⟩:=qL hx;obtain⟨b1,b2⟩:=qL hy;have:=List.pairwise_iff_getElem.1 ha j (j+1) a1 b1 o?;simp only[Nat.add_zero]at a2;rw[a2,b2]at this;omega
theorem push_tot{w:World}(hw:WK w)(s:qc)(hs:jH s)(hm:dv s.insts.l w.1.length)(hk: ∀i∈s.insts.l,∀ x∈i.stops.l,pL x)(h8:w.2.2.1.length<8):qM (bG s w.1 w.2.1 w.2.2.1 w.2.2.2) (fun v=>v.1=w.2.2.1++[s]/\WK (w.1,w.2.1,v.1,v.2)):=by
 obtain⟨f,f1,f2⟩:=Jh s hs;have ZN:=hw.ok.W9;unfold bG;refine .zE qH (X' f1 (q0h qH (.ret ⟨rfl,⟨?_,hw.text⟩⟩)));have sI: ∀{P:qc->Prop},(∀ x∈w.2.2.1,P x)->P s-> ∀x∈w.2.2.1++[s],P x:=by intro P h1 h2 x hx;rcases p?.1 hx with hx|hx;exact h1 x hx;simp only[c?]at hx;subst hx;exact h2
 refine⟨hw.ok.blen,hw.ok.ne,hw.ok.qn,hw.ok.K6,hw.ok.Yn,hw.ok.Jr,v?,sI hw.ok.small hs,sI hw.ok.may hm,by simp[ZN],fun _=>rfl,fun j x g hx hg=>?_,sI hw.ok.stop hk⟩;by_cases c:j<w.2.2.1.length;rw[t? c]at hx;simp only at hg;rw[t? o?]at hg;exact hw.ok.each j x g hx hg;have hj:=(qL hx).1;simp only[s?,y!]at hj;have:j=w.2.2.1.length:=o?;subst this;rw[J? (ju _)]at hx;simp only at hg;rw[J? o?,ZN]at hg;simp only[Nat.sub_self,a?,wd]at hx hg;subst hx;rw[<- hg];exact f2
theorem Tb{st:qq}(h:yw st)(l:Sl qA)(hl:qR (l.l.map pQ)<=8192002){env:Sl qx}(he:UB env):qM (s8 st l env) (fun v=>v.2=0->yw v.1):=by
 have ht:=h.may.text;have h64:=h.may.K6;have tJ:=M?.2 h.may.ne;unfold s8;refine WB h ?_;rw[if_neg z?];refine .bind (Yj l o?) fun a _=>?_;refine .ite (fun _=> .ret fun h0=>absurd h0 (by decide)) fun _=>?_;refine .bind (Si _ env he) fun u hu=>?_;refine .bind (Fo h l hl he u.1 hu _ st.zC.l 0 [] [] rfl rfl ⟨rfl,z?⟩) fun v hv=>?_;rcases v with v|v;exact .ret fun h0=>absurd h0 hv;obtain⟨es,bq⟩:=v;obtain⟨v1,hM⟩:=hv;simp only at v1 hM |-;have hT:vh es<=es.length*65536:=Gh es 65536 fun e hee=>by obtain⟨k,hk⟩:=jI hee;obtain⟨x,m,_,_,_,hm⟩:=hM.each k e hk;exact hm.len
 have hT2:es.length*65536<=64*65536:=mulR _ o?;refine .bind (SN (st.text.length:Int) o? ⟨es.isEmpty,es⟩ u? u?) fun c hc=>?_;refine .ite (fun c0=> .ret fun h0=>absurd h0 (by simpa using c0)) fun c0=>?_;obtain⟨e1,e2⟩:=hc (by simpa using c0);simp only at e1 e2;obtain⟨fl,b1,b2⟩:=Bv st h;refine .go b1 ?_;refine .bind (cG (st.text,⟨false,st.zC.l⟩,st.qf.l,fl) b2.ok ht ⟨es.isEmpty,es⟩ e1 u? u?) fun w hw=>?_;have hwt:=hw.text;simp only at hwt;refine .ite (fun _=> .ret fun h0=>absurd h0 (by decide)) fun c1=>?_;have hw8:w.2.2.1.length<8:=by simp only[decide_eq_true_eq]at c1;omega
 have VT:Ch st.text.length 0 es:=O7 (n:=st.text.length) h.may.Jr h.may.Yn es 0 0 (fun k e hk=>by
  obtain⟨x,m,a,_,b,_⟩:=hM.each k e hk
  exact⟨x,by rw[Nat.zero_add];exact a,b⟩) o? fun x hx=>(h.may.Jr x (zc hx)).1
 refine .bind (Fp st.text.length ⟨o?,o?⟩ ⟨es.isEmpty,es⟩ u? st _ st.zC.l bq hM w.1 w.2.1 w.2.2.1 w.2.2.2 0 es 0 0 0 [] rfl o? VT o? o? o? o? rfl) fun is his=>?_;obtain⟨MU,i1,i2,i3⟩:=his;simp only[L?]at i1;subst i1;rw[show (0:Int)+0=0 from rfl,show(st.text.length:Int)+0+si es=w.1.length from o?]at i3;have hism:=Zv.may i3;have hisl:is.length<=64:=o?;have OQ: ∀i∈is,Pg i:=fun i hi=>by obtain⟨k,hk⟩:=jI hi;exact(Zv.each i3 k i hk).2.2.1
 have hb: ∀i∈is,i.stops.l.length<=2^12:=fun i hi=>by have:=(OQ i hi).len;omega
 refine .bind (lK ⟨is.isEmpty,is⟩ hb u?) fun ns Fc=>?_;have jZ:ns.l≠[]:=by refine Fc.2 ?_;obtain⟨i,hi⟩:=gl (l:=is) (k:=0) o?;exact⟨i,zc hi,(OQ i (zc hi)).free⟩
 have hnpos:=M?.2 jZ;obtain⟨x,hx⟩:=gl (l:=ns.l) (k:=0) hnpos;refine .go (gi hx) ?_;have Ek:vS x is≠[]:=Fc.1.of x (zc hx);have hWK:WK w:=⟨hw.ok,o?⟩;refine .bind (push_tot hWK ⟨x,⟨is.isEmpty,is⟩⟩ ⟨u?,hb⟩ hism (fun i hi=>(OQ i hi).stop) hw8) fun p hp=>?_;obtain⟨p1,p2⟩:=hp;have hplen:p.1.length=w.2.2.1.length+1:=by rw[p1];simp
 refine .bind (WE (w.1,w.2.1,p.1,p.2) p2) fun u hu=>?_;refine .ite (fun c1=> .ret fun h0=>absurd h0 (by simpa using c1)) fun c1=>?_;rcases hu with hu|⟨_,hu,hlk⟩;exact absurd (by simpa using c1) hu;have hulen:u.2.2.2.1.length=p.1.length:=hlk.len;have ent: ∀y,Fin u.2.1.length u.2.2.2.1 y->qM (if (decide ((y.length:Int)<(p.1.length:Int)))=true then some ((qq.mk u.2.1 u.2.2.1 (⟨false,y⟩:(Sl qc))),(0:Int))else mR u.2.1 u.2.2.1 x y>>=fun Qy=>some (Qy.1,Qy.2)) (fun v=>v.2=0->yw v.1):=by (intro y hy;have L4:=well_fin hu hy o?;refine .ite (fun _=> .ret fun _=>L4) fun c2=>?_;have L7:y.length=p.1.length:=by have:=hy.KZ.1;simp only[decide_eq_true_eq]at c2;omega);refine .bind (DM L4 x (fun z hz hzl=>?_) (by intro e;simp only at e;rw[e]at L7;simp at L7;omega)) fun v hv=> .ret hv;obtain⟨s,s1,s2⟩:=hy.KZ.2 _ z hzl;have hidx:y.length-1=w.2.2.1.length:=o?;obtain⟨s',t1,t2⟩:=hlk.cur w.2.2.1.length ⟨x,⟨is.isEmpty,is⟩⟩ (by simp only[p1];rw[J? (ju _)];simp);simp only at s1;rw[hidx]at s1;have t1' :u.2.2.2.1[w.2.2.1.length]? =some s' :=t1;rw[s1]at t1';cases t1';have:z.cur=x:=s2.trans t2;rw[<- this];exact L4.KZ z hz
 refine .bind (Yq u.2 hu.ok) fun y hy=>?_;rcases y with y|y;exact ent y hy;exact ent y hy
end Xr
namespace Xr
theorem nZ(b:UInt8):qM (kT b) (fun _=>True):=by unfold kT;split<;>exact .ret trivial
theorem tK(b:UInt8):qM (vt b) (fun _=>True):=by unfold vt;(repeat' split)<;>exact .ret trivial
theorem WI(s:qa):qM (jw s) (fun _=>True):=by
 have loop:s.length<=64-> ∀(d k:Nat),k+d=s.length->qM (jd (s,(k:Int))) (fun _=>True):=by intro hs d;induction d with|zero=>intro k h;rw[jd.eq_1,if_neg v?];exact .ret trivial|succ d ih=>intro k h;obtain⟨b,hb⟩:=gl (l:=s) (k:=k) o?;have k1:=ih (k+1) o?;rw[jd.eq_1,if_pos v?,ws o?];refine .go (gi hb) ?_;refine .bind (tK b) fun v _=>?_;refine .ite (fun _=>x_ (fun _=>x_ (fun _=> .ret trivial) fun _=>?_) fun _=>k1) fun _=>k1;refine .bind (nZ b) fun v _=>?_;exact .ite (fun _=> .ret trivial) fun _=>k1
 unfold jw;refine .ite (fun _=> .ret trivial) fun c=>?_;simp only[Bool.or_eq_true,decide_eq_true_eq,not_or]at c;refine .bind (loop o? s.length 0 o?) fun v _=>?_;rcases v with v|v<;>exact .ret trivial
theorem set_tot(name value:qa){env:Sl qx}(he:UB env):qM (dM name value env) (fun v=>v.2=0->UB v.1):=by
 have hl:=he.len;unfold dM;refine .bind (WI name) fun a _=>?_;refine .ite (fun _=> .ret fun h0=>absurd h0 (by decide)) fun _=>?_;refine .ite (fun _=> .ret fun h0=>absurd h0 (by decide)) fun c=>?_;have hv:value.length<=65536:=by simp only[decide_eq_true_eq]at c;omega
 refine .zE qH ?_;have loop: ∀(d k:Nat),k+d=env.l.length->qM (nr (name,value,(k:Int),env.l)) (fun v=>match v with| .inl y=>y.1=0->UB ⟨false,y.2⟩| .inr _=>True):=by intro d;induction d with|zero=>intro k h;rw[nr.eq_1,if_neg v?];exact .ret trivial|succ d ih=>intro k h;obtain⟨x,hx⟩:=gl (l:=env.l) (k:=k) o?;rw[nr.eq_1,if_pos v?,ws o?];refine .go (gi hx) ?_;refine .ite (fun _=> .ret fun _=>⟨v?,fun p hp=>?_⟩) fun _=>ih (k+1) o?;rcases List.mem_or_eq_of_mem_set hp with hp|rfl;exact he.val p hp;exact hv
 refine .bind (loop env.l.length 0 o?) fun v Ei=>?_;rcases v with v|v;exact .ret Ei;refine .ite (fun _=> .ret fun h0=>absurd h0 (by decide)) fun c2=>?_;have xS:env.l.length<64:=by simp only[decide_eq_true_eq]at c2;omega
 refine .zE qH (.ret fun _=>⟨v?,fun p hp=>?_⟩);rcases p?.1 hp with hp|hp;exact he.val p hp;simp only[c?]at hp;subst hp;exact hv
structure Da (o:yD):Prop where
 text:o.text.length<=65536
 es:o.edits.l.length<=10
 et:vh o.edits.l<=2^60
 qs:o.zC.l.length<2^60
theorem RB{b:qa}{q:Sl qm}{ss:Sl qc}(h:yw ⟨b,q,ss⟩){env:Sl qx}(he:UB env){o:yD}(ho:Da o)(r r2:Sl qq):qM (uM o b q ss env r r2) (fun v=>v.2.2=0->yw v.1):=by
 have ht:b.length<=65536:=h.may.text;have h64:q.l.length<=64:=h.may.K6;have dm:Zt b.length q.l:=h.may.Jr;have hD: ∀es:Sl qz,es.l.length<=2^19->vh es.l<=2^60->qM (rY (qq.mk b q ss) es>>=fun v=>some (v.1,true,v.2)) (fun v=>v.2.2=0->yw v.1):=fun es h1 h2=>G' (BL _ h es h1 h2) fun v hv=> .ret fun h0=>by rcases hv with hv|⟨_,hv,_⟩;exact absurd h0 hv;exact hv
 have hF: ∀{p:Option (qq×Int)},qM p (fun v=>v.2=0->yw v.1)->qM (p>>=fun v=>some (v.1,true,v.2)) (fun v=>v.2.2=0->yw v.1):=fun hp=>G' hp fun v hv=> .ret hv;unfold uM;refine .ite (fun _=>?_) fun _=>?_;refine .bind (E4 q o.text h64 ho.text) fun v hv=>hD v (by have:=hv.1;omega) (by have:=hv.2;omega);refine .ite (fun _=>?_) fun _=>?_;have:= @PW;exact tW;refine .ite (fun _=>hD o.edits (by have:=ho.es;omega) ho.et) fun _=>?_;refine .ite (fun _=>G' (eZ (b.length:Int) o.zC ho.qs) fun v hv=> .ret fun h0=>yw.sel h (hv h0)) fun _=>?_;refine .ite (fun _=>G' (go_tot b o? o.n o.extend q o?) fun v hv=> .ret fun h0=>yw.sel h (hv h0)) fun _=>?_;refine .ite (fun _=>?_) fun _=>?_;refine .bind (TU o.text) fun v hv=>?_;refine .ite (fun _=>hF (Tb h v.1 hv.1 he)) fun c=> .ret fun h0=>absurd h0 (by simpa using c);have:= @Ts;have:= @TN;have:= @Np;have:= @UT;exact tW
structure MW (b:qa) (q:Sl qm) (ss:Sl qc) (env:Sl qx) (r r2:Sl qq) (n:Nat):Prop where
 Gl:yw ⟨b,q,ss⟩
 env:UB env
 behind: ∀s∈r.l,yw s
 ahead: ∀s∈r2.l,yw s
 len:r.l.length<=n/\r2.l.length<=n
 nb:r.nil=true->r.l=[]
 na:r2.nil=true->r2.l=[]
theorem MW.mono{b:qa}{q:Sl qm}{ss:Sl qc}{env:Sl qx}{r r2:Sl qq}{n:Nat}(h:MW b q ss env r r2 n):MW b q ss env r r2 (n+1):=⟨h.Gl,h.env,h.behind,h.ahead,by have:=h.len;omega,h.nb,h.na⟩
theorem iN{r:List qq}(h: ∀s∈r,yw s){x:qq}(hx:yw x): ∀s∈r++[x],yw s:=fun s hs=>by rcases p?.1 hs with hs|hs;exact h s hs;simp only[c?]at hs;subst hs;exact hx
theorem Oe{b:qa}{q:Sl qm}{ss:Sl qc}{env:Sl qx}{r r2:Sl qq}{n:Nat}(h:MW b q ss env r r2 n)(hn:n<=50){o:yD}(ho:Da o):qM (bI o b q ss env r r2) (fun v=>match v with
  | .inl y=>MW y.2.1 y.2.2.1 y.2.2.2.1 y.2.2.2.2 r r2 (n+1)
  | .inr (.inl y)=>MW y.2.1 y.2.2.1 y.2.2.2.1 env y.2.2.2.2.2 y.2.2.2.2.1 (n+1)
  | .inr (.inr (.inl y))=>MW y.2.1 y.2.2.1 y.2.2.2.1 env y.2.2.2.2.1 y.2.2.2.2.2 (n+1)
  | .inr (.inr (.inr y))=>MW y.2.1 y.2.2.1 y.2.2.2.1 env y.2.2.2.2 ⟨true,[]⟩ (n+1)):=by
 have hm:=h.mono;have hl:=h.len;have z1: ∀s∈([]:List qq),yw s:=z?;have swap: ∀{l:Sl qq},(l.nil=true->l.l=[])->(∀ s∈l.l,yw s)->l.l.length≠0-> ∃(k:Nat)(x:qq),l.l.length=k+1/\l.nil=false/\q?.wrap ((l.l.length:Int)-1)=(k:Int)/\qh l.l (k:Int)=some x/\we l.l (k:Int)=some (l.l.take k)/\yw x/\(∀ s∈l.l.take k,yw s)/\(l.l.take k).length=k\/100<l.l.length:=by
  intro l hnl hw hk;by_cases c:100<l.l.length
  ·exact⟨0,qq.mk [] ⟨true,[]⟩ ⟨true,[]⟩,.inr c⟩
  obtain⟨k,hk⟩: ∃k:Nat,l.l.length=k+1:=⟨l.l.length-1,o?⟩;obtain⟨x,hx⟩:=gl (l:=l.l) (k:=k) o?;refine⟨k,x,.inl ⟨hk, ?_, ?_,gi hx,JO _ _ o?,hw x (zc hx),fun s hs=>hw s (List.mem_of_mem_take hs),v?⟩⟩
  ·cases e:l.nil
   ·rfl
   rw[hnl e]at hk;simp at hk
  rw[wi (n:=(l.l.length:Int)-1)];omega
 unfold bI;refine .ite (fun _=>?_) fun _=>?_
 ·refine .bind (set_tot o.name o.text h.env) fun v hv=>?_;refine .ite (fun c=> .ret ⟨h.Gl,hv (by simpa using c),h.behind,h.ahead,hm.len,h.nb,h.na⟩) fun _=> .ret hm
 refine .ite (fun _=>?_) fun _=>?_
 ·refine .ite (fun _=> .ret hm) fun c=>?_;obtain⟨k,x,⟨hk,g0,gw,g1,g2,g3,g4,g5⟩|hc⟩:=swap h.nb h.behind (by intro e;rw[e]at c;simp at c)
  ·rw[gw];refine .ite (fun e=>?_) fun e=>?_
   ·rw[if_pos (by rw[h.na e];rfl)];refine .zE qH ?_;rw[if_neg (by simp[g0])];exact .go g1 (X' g2 (.ret ⟨g3,h.env,g4,iN z1 h.Gl,by simp only[y!];omega,z?,z?⟩))
   refine .zE qH ?_;rw[if_neg (by simp[g0])];exact .go g1 (X' g2 (.ret ⟨g3,h.env,g4,iN h.ahead h.Gl,by simp only[s?,y!];omega,z?,z?⟩))
  omega
 refine .ite (fun _=>?_) fun _=>?_
 ·refine .ite (fun _=> .ret hm) fun c=>?_;obtain⟨k,x,⟨hk,g0,gw,g1,g2,g3,g4,g5⟩|hc⟩:=swap h.na h.ahead (by intro e;rw[e]at c;simp at c)
  ·rw[gw];refine .ite (fun e=>?_) fun e=>?_
   ·rw[if_pos (by rw[h.nb e];rfl)];refine .zE qH ?_;rw[if_neg (by simp[g0])];exact .go g1 (X' g2 (.ret ⟨g3,h.env,iN z1 h.Gl,g4,by simp only[y!];omega,z?,z?⟩))
   refine .zE qH ?_;rw[if_neg (by simp[g0])];exact .go g1 (X' g2 (.ret ⟨g3,h.env,iN h.behind h.Gl,g4,by simp only[s?,y!];omega,z?,z?⟩))
  omega
 refine .bind (RB h.Gl h.env ho r r2) fun v hv=>?_;refine .ite (fun _=> .ret hm) fun c=>?_;have hw:=hv (by simpa using c);refine .ite (fun _=>?_) fun _=> .ret ⟨hw,h.env,h.behind,h.ahead,hm.len,h.nb,h.na⟩;refine .zE qH (q0h qH ?_);rw[if_neg v?];refine .ret ⟨hw,h.env,iN h.behind h.Gl,z?, ?_,z?,z?⟩;simp only[s?,y!,f?];omega
theorem Lu(n:Int)(hn:0<=n/\n<=1000)(ss:List qa)(hl:ss.length<=10):qM (eR n ss) (fun v=>v=false-> ∀s∈ss,(s.length:Int)<=n):=by
 have loop: ∀(r:List qa)(i:Nat)(m:Int),ss.drop i=r->0<=m->m<=n->qM (bX (m,(i:Int),ss)) (fun v=>match v with| .inl y=>y=true| .inr _=> ∀s∈r,(s.length:Int)<=n):=by intro r;induction r with|nil=>intro i m h _ _;have:=zt h;rw[bX.eq_1,if_neg v?];exact .ret z?|cons x r ih=>intro i m h h0 h1;obtain⟨g1,g2,g3⟩:=zH h;rw[bX.eq_1,if_pos v?,ws o?];have:= @gi;have:= @wi;exact tW
 unfold eR;refine .bind (loop ss 0 n rfl hn.1 o?) fun v hv=>?_;rcases v with v|v;(have MS:v=true:=hv;exact .ret fun h=>by rw[MS]at h;cases h);exact .ret fun _=>hv
theorem LS(many n:Int)(hm:0<=many/\many<=100)(hn:0<=n/\n<=1000)(es:Sl qz):qM (eU many n es) (fun v=>v=false->es.l.length<=many/\vh es.l<=n):=by
 unfold eU;refine .ite (fun _=> .ret z?) fun c=>?_;simp only[decide_eq_true_eq]at c;have loop: ∀(r:List qz)(i:Nat)(m:Int),es.l.drop i=r->0<=m->m<=n->qM (bY (m,es,(i:Int))) (fun v=>match v with| .inl y=>y=true| .inr _=>(vh r:Int)<=m):=by intro r;induction r with|nil=>intro i m h _ _;have:=zt h;rw[bY.eq_1,if_neg v?];exact .ret (by simpa[vh])|cons x r ih=>intro i m h h0 h1;obtain⟨g1,g2,g3⟩:=zH h;rw[bY.eq_1,if_pos v?,ws o?];refine .go (gi g1) ?_;refine .ite (fun _=> .ret rfl) fun c=>?_;simp only[decide_eq_true_eq]at c;rw[wi (n:=m-(x.text.length:Int))];refine .mono (ih (i+1) _ g2 o? o?) fun v hv=>?_;rcases v with v|v;exact hv;simp only[vh,d?,u!]at hv |-;push_cast;omega
 refine .bind (loop es.l 0 n rfl hn.1 o?) fun v hv=>?_;rcases v with v|v;(have MS:v=true:=hv;exact .ret fun h=>by rw[MS]at h;cases h);have MS:(vh es.l:Int)<=n:=hv;exact .ret fun _=>⟨o?,MS⟩
theorem ops_tot(many n:Int)(hm:0<=many/\many<=50)(hn:0<=n/\n<=1000)(os:Sl yD):qM (lH many n os) (fun v=>v=false->os.l.length<=many/\ ∀o∈os.l,Da o):=by
 unfold lH;refine .ite (fun _=> .ret z?) fun c=>?_;simp only[decide_eq_true_eq]at c;have l2: ∀(i:Nat)(x:yD),os.l[i]? =some x->x.edits.l.length<=10-> ∀(r:List qz)(k:Nat)(m:Int)(r0:List qa),x.edits.l.drop k=r->(vh r:Int)<=1000-> -5000+vh r<=m->m<=1000->qM (mI (m,os,(i:Int),(k:Int),r0)) (fun v=>v=m-vh r):=by intro i x hx hxl r;induction r with|nil=>intro k m r0 h _ _ _;have:=zt h;rw[mI.eq_1];refine .go (gi hx) ?_;rw[if_neg v?];exact .ret (by simp[vh])|cons e r ih=>(intro k m r0 h h1 h2 h3;obtain⟨g1,g2,g3⟩:=zH h;have hs:(vh (e::r):Int)=e.text.length+vh r:=by simp[vh]);rw[mI.eq_1];refine .go (gi hx) ?_;rw[if_pos v?,ws o?];refine .go (gi g1) ?_;rw[wi (n:=m-(e.text.length:Int))];exact .mono (ih (k+1) _ r0 g2 o? o? o?) fun v hv=>o?
 have loop: ∀(r:List yD)(i:Nat)(m:Int),os.l.drop i=r->0<=m->m<=n->qM (mH (m,os,(i:Int))) (fun v=>match v with| .inl y=>y=true| .inr _=> ∀o∈r,Da o):=by intro r;induction r with|nil=>intro i m h _ _;have:=zt h;rw[mH.eq_1,if_neg v?];exact .ret z?|cons x r ih=>intro i m h h0 h1;obtain⟨g1,g2,g3⟩:=zH h;rw[mH.eq_1,if_pos v?,ws o?];refine .go (gi g1) ?_;refine .bind (Lu m ⟨h0,o?⟩ [x.name,x.text] z?) fun v hv=>?_;refine .ite (fun _=> .ret rfl) fun c1=>?_;have Ej:=hv (by simpa using c1);have hname:=Ej x.name z?;have htext:=Ej x.text z?;refine .ite (fun _=> .ret rfl) fun c2=>?_;refine .ite (fun _=> .ret rfl) fun c3=>?_;simp only[decide_eq_true_eq]at c2 c3;refine .bind (LS 10 m o? ⟨h0,o?⟩ x.edits) fun u hu=>?_;refine .ite (fun _=> .ret rfl) fun c4=>?_;obtain⟨u1,u2⟩:=hu (by simpa using c4);rw[wi (n:=m-(x.name.length:Int)),wi (n:=m-(x.name.length:Int)-(x.text.length:Int))];refine .bind (l2 i x g1 o? x.edits.l 0 _ _ rfl o? o? o?) fun w hw=>?_;refine .ite (fun _=> .ret rfl) fun c5=>?_;simp only[decide_eq_true_eq]at c5;refine .mono (ih (i+1) w g2 o? o?) fun z hz=>?_;rcases z with z|z;exact hz;intro o ho;rcases U?.1 ho with rfl|ho;exact⟨o?,o?,o?,o?⟩;exact hz o ho
 refine .bind (loop os.l 0 n rfl hn.1 o?) fun v hv=>?_;rcases v with v|v;(have MS:v=true:=hv;exact .ret fun h=>by rw[MS]at h;cases h);exact .ret fun _=>⟨o?,hv⟩
theorem well0:yw ⟨[],⟨false,[⟨0,0⟩]⟩,⟨true,[]⟩⟩:=by refine⟨⟨z?,z?,z?,z?,fun x hx=>?_,by simp[Yh],z?,fun j s hs=>by simp at hs⟩,z?,z?,z?,rfl⟩;simp only[c?]at hx;subst hx;exact⟨by decide,by decide⟩
theorem new_ok:iE=some (.inr (0,[],⟨false,[⟨0,0⟩]⟩,⟨true,[]⟩,⟨true,[]⟩)):=by unfold iE;rw[s9.eq_1,if_neg z?];rfl
end Xr
namespace Xr
theorem DE(os:Sl yD)(hl:os.l.length<=40)(hO: ∀o∈os.l,Da o)(t2:qq): ∀(r:List yD)(i:Nat)(b:qa)(q:Sl qm)(ss:Sl qc)(env:Sl qx)(r1 r2:Sl qq),os.l.drop i=r->MW b q ss env r1 r2 i->
  qM (wh (os,(i:Int),t2,b,q,ss,env,r1,r2)) (fun v=>yw ⟨v.1,v.2.1,v.2.2.1⟩):=by intro r;induction r with|nil=>intro i b q ss env r1 r2 h hw;have:=zt h;rw[wh.eq_1,if_neg v?];exact .ret hw.Gl|cons o r ih=>intro i b q ss env r1 r2 h hw;obtain⟨g1,g2,g3⟩:=zH h;rw[wh.eq_1,if_pos v?,ws o?];refine .go (gi g1) ?_;refine .bind (Oe hw o? (hO o (zc g1))) fun v hv=>?_;rcases v with y|y|y|y;exact ih (i+1) _ _ _ _ _ _ g2 hv;exact ih (i+1) _ _ _ _ _ _ g2 hv;exact ih (i+1) _ _ _ _ _ _ g2 hv;exact ih (i+1) _ _ _ _ _ _ g2 hv
theorem PQ(os:Sl yD)(hl:os.l.length<=40)(hO: ∀o∈os.l,Da o):qM (fe os) yw:=by unfold fe;refine .go new_ok ?_;refine .bind (DE os hl hO _ os.l 0 _ _ _ _ _ _ rfl ⟨well0,⟨z?,z?⟩,z?,z?,z?,z?,z?⟩) fun v hv=> .ret hv
end Xr
namespace Xr
theorem Wd{α:Type}(l:List α)(x:α)(r:List α){i:Int}(h:i=(l.length:Int)):qh (l++x::r) i=some x:=by subst h;unfold qh;simp
section
variable {α:Type} {cmp:α->α->Option Int} {le:α->α->Prop}
theorem ins_L2(hc: ∀x y,∃ c,cmp x y=some c/\(c<0↔ ¬le y x))(ht: ∀x y,¬ le y x->le x y)(htr: ∀x y z,le x y->le y z->le x z)
  {L2:Int×Int×Int×Int×List α->Option (List α)}
  (h2: ∀a b i j data,L2 (a,b,i,j,data)=if decide (j>a)then qh data j>>=fun x3=>qh data (q?.wrap (j-(1:Int)))>>=fun x5=>cmp x3 x5>>=fun v7=>
   if decide (v7<(0:Int))then qh (data.set j.toNat x5) (q?.wrap (j-(1:Int)))>>=fun Xl=>L2 (a,b,i,q?.wrap (j-(1:Int)),(data.set j.toNat x5).set (q?.wrap (j-(1:Int))).toNat x3)
   else some data else some data) (b i:Int) (rest:List α):
  ∀(n:Nat)(l:List α)(x:α)(r:List α),l.length=n->(l++x::(r++rest)).length<2^30->l.Pairwise le->(x::r).Pairwise le->(∀ y∈l,∀ z∈r,le y z)->
  ∃out,L2 (0,b,i,(l.length:Int),l++x::(r++rest))=some (out++rest)/\out.Perm (l++x::r)/\out.Pairwise le:=by
 intro n;induction n with
  |zero=>(intro l x r hl _ h3 h4 h5;have:l=[]:=by simpa using hl);subst this;rw[h2];exact⟨x::r,z?,.refl _,h4⟩
  |succ n ih=>
   (intro l x r hl hn h3 h4 h5;obtain⟨l,y,rfl⟩: ∃l' y,l=l' ++[y]:=by rcases List.eq_nil_or_concat l with h|⟨l',y,h⟩;subst h;simp at hl;exact⟨l',y,by simpa using h⟩);(simp only[s?,b?,f?]at hl hn;have hlen:(((l++[y]).length:Nat):Int)=(l.length:Int)+1:=z?;have hw:q?.wrap ((l.length:Int)+1-1)=(l.length:Int):=by rw[qB o? o?]<;>omega);(rw[h2,hlen,hw,if_pos (by simp<;>omega),Wd (l++[y]) x _ z?];have e1:l++[y]++x::(r++rest)=l++y::(x::(r++rest)):=z?;simp only[zP,qV];rw[e1,Wd l y _ rfl];obtain⟨c,Jn,Vq⟩:=hc x y;simp only[qV,Jn];have e2:(l++y::(x::(r++rest))).set ((l.length:Int)+1).toNat y=l++y::(y::(r++rest)):=by rw[show ((l.length:Int)+1).toNat=l.length+1 from o?,R' _ _ o?];simp);(have e3:(l++y::(y::(r++rest))).set ((l.length:Int)).toNat x=l++x::((y::r)++rest):=by rw[show ((l.length:Int)).toNat=l.length from o?,R' _ _ o?];simp);rw[e2,Wd l y _ rfl];simp only[qV,e3];simp only[t!,w!,c?]at h3;obtain⟨p1,p2,p3⟩:=h3;simp only[w!]at h4;by_cases xS:c<0
   ·rw[if_pos (by simpa using xS)];have hxy:le x y:=ht x y (Vq.1 xS);obtain⟨out,q1,q2,q3⟩:=ih l x (y::r) o? (by simp at hn |-; omega) p1 (by
     simp only[w!,U?]
     refine⟨?_,⟨fun z hz=>h5 y z? z hz,h4.2⟩⟩
     rintro z (rfl|hz)
     ·exact hxy
     ·exact h4.1 z hz) (by
     intro z hz w hw
     simp only[U?]at hw
     rcases hw with rfl|hw
     ·exact p3 z hz _ rfl
     exact h5 z (by simp[hz]) w hw)
    refine⟨out,q1,q2.trans ?_,q3⟩;simp only[v_,List.singleton_append];exact q1v.append_left _ (q1v.swap _ _ _)
   rw[if_neg (by simpa using xS)];have hyx:le y x:=Classical.byContradiction fun h=>xS (Vq.2 h);refine⟨l++y::x::r,z?,z?, ?_⟩;simp only[t!,w!,U?];refine⟨p1,⟨?_,h4⟩, ?_⟩;rintro z (rfl|hz);exact hyx;exact h5 y z? z hz;rintro z hz w (rfl|rfl|hw);exact p3 z hz _ rfl;exact htr _ _ _ (p3 z hz y rfl) hyx;exact h5 z (by simp[hz]) w hw
theorem ins_L0(hc: ∀x y,∃ c,cmp x y=some c/\(c<0↔ ¬le y x))(ht: ∀x y,¬ le y x->le x y)(htr: ∀x y z,le x y->le y z->le x z)
  {L2:Int×Int×Int×Int×List α->Option (List α)}
  (h2: ∀a b i j data,L2 (a,b,i,j,data)=if decide (j>a)then qh data j>>=fun x3=>qh data (q?.wrap (j-(1:Int)))>>=fun x5=>cmp x3 x5>>=fun v7=>
   if decide (v7<(0:Int))then qh (data.set j.toNat x5) (q?.wrap (j-(1:Int)))>>=fun Xl=>L2 (a,b,i,q?.wrap (j-(1:Int)),(data.set j.toNat x5).set (q?.wrap (j-(1:Int))).toNat x3)
   else some data else some data)
  {L0:Int×Int×Int×List α->Option (List α)}
  (h0: ∀a b i data,L0 (a,b,i,data)=if decide (i<b)then L2 (a,b,i,i,data)>>=fun v3=>L0 (a,b,q?.wrap (i+(1:Int)),v3)else some data):
  ∀(rest s:List α),(s++rest).length<2^30->s.Pairwise le-> ∃out,L0 (0,((s++rest).length:Int),(s.length:Int),s++rest)=some out/\out.Perm (s++rest)/\out.Pairwise le:=by intro rest;induction rest with|nil=>intro s _ hs;rw[h0,if_neg z?];exact⟨s,z?,z?,hs⟩|cons x rest ih=>intro s hn hs;obtain⟨out,q1,q2,q3⟩:=ins_L2 hc ht htr h2 ((s++x::rest).length:Int) (s.length:Int) rest s.length s x [] rfl (by simpa using hn) hs z? z?;simp only[L?]at q1;rw[h0,if_pos (by simp<;>omega),q1];simp only[zP,qV];have hl:=q2.length_eq;simp only[s?,b?,f?]at hl hn;have e:(s++x::rest).length=(out++rest).length:=v?;rw[qB o? o?,e,show(s.length:Int)+1=(out.length:Int)from o?];obtain⟨o2,r1,r2,r3⟩:=ih out (by simp<;>omega) q3;refine⟨o2,r1,r2.trans ?_,r3⟩;have:=q2.append_right rest;simpa using this
theorem ins_all(hc: ∀x y,∃ c,cmp x y=some c/\(c<0↔ ¬le y x))(ht: ∀x y,¬ le y x->le x y)(htr: ∀x y z,le x y->le y z->le x z)
  {L2:Int×Int×Int×Int×List α->Option (List α)}
  (h2: ∀a b i j data,L2 (a,b,i,j,data)=if decide (j>a)then qh data j>>=fun x3=>qh data (q?.wrap (j-(1:Int)))>>=fun x5=>cmp x3 x5>>=fun v7=>
   if decide (v7<(0:Int))then qh (data.set j.toNat x5) (q?.wrap (j-(1:Int)))>>=fun Xl=>L2 (a,b,i,q?.wrap (j-(1:Int)),(data.set j.toNat x5).set (q?.wrap (j-(1:Int))).toNat x3)
   else some data else some data)
  {L0:Int×Int×Int×List α->Option (List α)}
  (h0: ∀a b i data,L0 (a,b,i,data)=if decide (i<b)then L2 (a,b,i,i,data)>>=fun v3=>L0 (a,b,q?.wrap (i+(1:Int)),v3)else some data)
  {I:Int->Int->List α->Option (List α)} (hI: ∀a b d,I a b d=L0 (a,b,q?.wrap (a+(1:Int)),d)>>=fun v2=>some v2)
  (d:List α) (hn:d.length<2^30):qM (I 0 (d.length:Int) d) (fun out=>out.Perm d/\out.Pairwise le):=by rw[hI,qB o? o?];cases d with|nil=>rw[h0,if_neg z?];exact⟨[],rfl,.refl _,.nil⟩|cons x r=>(obtain⟨out,q1,q2,q3⟩:=ins_L0 hc ht htr h2 h0 r [x] (by simpa using hn) z?;have e:L0 (0,((x::r).length:Int),0+1,x::r)=some out:=by simpa using q1);rw[e];exact⟨out,rfl,by simpa using q2,q3⟩
end
end Xr
end Go.Proofs.YtnfdnckadgcifaaGreat
