/-
  A session behind an edit: all that is kept.
-/
import Derived.Test.YtnfdnckadgcifaaGreatQad
import Derived.Test.YtnfdnckadgcifaaGreatQae
open And renaming intro->g?
open Bool renaming not_eq_true'->O!
open Decidable renaming not_not->q1y
open Go.Gm.zX renaming struct->H!,str->K_,bool->P_
open Go.IntKind renaming i64->q?,u8->R?
open Go.Proofs.YtnfdnckadgcifaaGreat.qk renaming qG->T'
open Go.Proofs.YtnfdnckadgcifaaGreat.qm renaming qG->q0q
open Int renaming toNat_natCast->X?
open List renaming length_cons->b?,getElem?_append_left->t?,length_append->s?,map_cons->d?,getElem?_cons_zero->a?,replicate->e?,getElem?_cons_succ->i?,getElem?_append_right->J?,length_singleton->y!,sum_cons->u!
open Nat renaming strongRecOn->r?,succ_mul->B?,zero_add->O?,le_succ->X!,lt_trichotomy->b_,mul_le_mul->H_
set_option linter.unusedSimpArgs false
set_option linter.unusedVariables false
set_option maxRecDepth 100000
namespace Go.Proofs.YtnfdnckadgcifaaGreat
open Go Go.Gm
theorem rk_Sel(n:Nat):zX Tryz.prog 41 qm.enc qm.ok n:=by
 have h:=H! (P:=Tryz.prog) (t:=41) (c:=2) (n:=n) Tryz.underlying41 k? (fun _=>by simp[nR,dh,q0q,zY])
  (jY (c:=1) rfl k? (dq (P:=Tryz.prog) (t:=3) Tryz.underlying3 k? n) (jY (c:=1) rfl k? (dq (P:=Tryz.prog) (t:=3) Tryz.underlying3 k? n) (JQ n _)))
 exact(h.map (fun x=>qm.mk x.1 x.2.1) (fun _ hx=>⟨hx,by simp[nR,dh,q0q,zY]⟩)).mono (X! n)
theorem G1(n:Nat):zX Tryz.prog 33 qk.enc qk.ok n:=by
 have h:=H! (P:=Tryz.prog) (t:=33) (c:=2) (n:=n) Tryz.underlying33 k? (fun _=>by simp[nR,dh,T',zY])
  (jY (c:=1) rfl k? (dq (P:=Tryz.prog) (t:=3) Tryz.underlying3 k? n) (jY (c:=1) rfl k? (dq (P:=Tryz.prog) (t:=3) Tryz.underlying3 k? n) (JQ n _)))
 exact(h.map (fun x=>qk.mk x.1 x.2.1) (fun _ hx=>⟨hx,by simp[nR,dh,T',zY]⟩)).mono (X! n)
theorem rk_Row(n:Nat):zX Tryz.prog 346 qW.enc qW.ok n:=by
 have h:=H! (P:=Tryz.prog) (t:=346) (c:=2) (n:=n) Tryz.underlying346 k? (fun _=>by simp[nR,dh,qW.qG,pR])
  (jY (c:=1) rfl k? (K_ (P:=Tryz.prog) (t:=9) Tryz.underlying9 k? n) (jY (c:=1) rfl k? (K_ (P:=Tryz.prog) (t:=9) Tryz.underlying9 k? n) (JQ n _)))
 exact(h.map (fun x=>qW.mk x.1 x.2.1) (fun _ hx=>⟨hx,by simp[nR,dh,qW.qG,pR]⟩)).mono (X! n)
theorem rk_Rx: ∀n:Nat,zX Tryz.prog 82 qF.enc qF.ok n
 |0=>rdNone Tryz.underlying82
 |n+1=>by
  have ih:=rk_Rx n;have h:=H! (P:=Tryz.prog) (t:=82) (c:=8) (n:=n) Tryz.underlying82 k? (fun _=>by simp[nR,dh,qW.qG,qF.qG,lp,zY,bo,pR])
   (jY (c:=1) rfl k? (dq (P:=Tryz.prog) (t:=3) Tryz.underlying3 k? n) (jY (c:=1) rfl k? (K_ (P:=Tryz.prog) (t:=9) Tryz.underlying9 k? n) (jY (c:=1) rfl k? (WX (P_ (P:=Tryz.prog) (t:=4) Tryz.underlying4 k? n)) (jY (c:=1) rfl k? (V0 (P:=Tryz.prog) (t:=79) (el:=346) (sz:=2) Tryz.underlying79 k? k? o? (rk_Row n)) (jY (c:=1) rfl k? (dq (P:=Tryz.prog) (t:=3) Tryz.underlying3 k? n) (jY (c:=1) rfl k? (dq (P:=Tryz.prog) (t:=3) Tryz.underlying3 k? n) (jY (c:=1) rfl k? (WX (P_ (P:=Tryz.prog) (t:=4) Tryz.underlying4 k? n)) (jY (c:=1) rfl k? (V0 (P:=Tryz.prog) (t:=80) (el:=82) (sz:=8) Tryz.underlying80 k? k? o? ih) (JQ n _)))))))))
  exact h.map (fun x=>qF.mk x.1 x.2.1 x.2.2.1 x.2.2.2.1 x.2.2.2.2.1 x.2.2.2.2.2.1 x.2.2.2.2.2.2.1 x.2.2.2.2.2.2.2.1) (fun _ hx=>⟨(qF.ok_eq _).2 hx,by simp[nR,dh,qW.qG,qF.qG,lp,zY,bo,pR]⟩)
theorem rk_Fmt(n:Nat):zX Tryz.prog 221 zw.enc zw.ok n:=by
 have h:=H! (P:=Tryz.prog) (t:=221) (c:=5) (n:=n) Tryz.underlying221 k? (fun _=>by simp[nR,dh,zw.qG,zY,pR])
  (jY (c:=1) rfl k? (dq (P:=Tryz.prog) (t:=3) Tryz.underlying3 k? n) (jY (c:=1) rfl k? (dq (P:=Tryz.prog) (t:=3) Tryz.underlying3 k? n) (jY (c:=1) rfl k? (dq (P:=Tryz.prog) (t:=3) Tryz.underlying3 k? n) (jY (c:=1) rfl k? (K_ (P:=Tryz.prog) (t:=9) Tryz.underlying9 k? n) (jY (c:=1) rfl k? (K_ (P:=Tryz.prog) (t:=9) Tryz.underlying9 k? n) (JQ n _))))))
 exact(h.map (fun x=>zw.mk x.1 x.2.1 x.2.2.1 x.2.2.2.1 x.2.2.2.2.1) (fun _ hx=>⟨hx,by simp[nR,dh,zw.qG,zY,pR]⟩)).mono (X! n)
theorem rk_Form(n:Nat):zX Tryz.prog 85 zo.enc zo.ok n:=by
 have h:=H! (P:=Tryz.prog) (t:=85) (c:=11) (n:=n) Tryz.underlying85 k? (fun _=>by simp[nR,dh,zw.qG,zo.qG,qF.qG,lp,bo])
  (jY (c:=8) rfl k? (rk_Rx n) (jY (c:=1) rfl k? (V0 (P:=Tryz.prog) (t:=83) (el:=221) (sz:=5) Tryz.underlying83 k? k? o? (rk_Fmt n)) (jY (c:=1) rfl k? (WX (P_ (P:=Tryz.prog) (t:=4) Tryz.underlying4 k? n)) (jY (c:=1) rfl k? (WX (P_ (P:=Tryz.prog) (t:=4) Tryz.underlying4 k? n)) (JQ n _)))))
 exact(h.map (fun x=>zo.mk x.1 x.2.1 x.2.2.1 x.2.2.2.1) (fun _ hx=>⟨hx,by simp[nR,dh,zw.qG,zo.qG,qF.qG,lp,bo]⟩)).mono (X! n)
theorem rk_Stop(n:Nat):zX Tryz.prog 87 qt.enc qt.ok n:=by
 have h:=H! (P:=Tryz.prog) (t:=87) (c:=18) (n:=n) Tryz.underlying87 k? (fun _=>by simp[nR,dh,zo.qG,T',qt.qG,lp,zY,bo,pR])
  (jY (c:=2) rfl k? (G1 n) (jY (c:=1) rfl k? (dq (P:=Tryz.prog) (t:=3) Tryz.underlying3 k? n) (jY (c:=1) rfl k? (dq (P:=Tryz.prog) (t:=3) Tryz.underlying3 k? n) (jY (c:=1) rfl k? (WX (P_ (P:=Tryz.prog) (t:=4) Tryz.underlying4 k? n)) (jY (c:=1) rfl k? (WX (P_ (P:=Tryz.prog) (t:=4) Tryz.underlying4 k? n)) (jY (c:=11) rfl k? (rk_Form n) (jY (c:=1) rfl k? (V0 (P:=Tryz.prog) (t:=72) (el:=9) (sz:=1) Tryz.underlying72 k? k? o? (K_ (P:=Tryz.prog) (t:=9) Tryz.underlying9 k? n)) (JQ n _))))))))
 exact(h.map (fun x=>qt.mk x.1 x.2.1 x.2.2.1 x.2.2.2.1 x.2.2.2.2.1 x.2.2.2.2.2.1 x.2.2.2.2.2.2.1) (fun _ hx=>⟨hx,by simp[nR,dh,zo.qG,T',qt.qG,lp,zY,bo,pR]⟩)).mono (X! n)
theorem rk_Inst(n:Nat):zX Tryz.prog 36 qu.enc qu.ok n:=by
 have h:=H! (P:=Tryz.prog) (t:=36) (c:=3) (n:=n) Tryz.underlying36 k? (fun _=>by simp[nR,dh,qu.qG,T',qt.qG,bo])
  (jY (c:=2) rfl k? (G1 n) (jY (c:=1) rfl k? (V0 (P:=Tryz.prog) (t:=34) (el:=87) (sz:=18) Tryz.underlying34 k? k? o? (rk_Stop n)) (JQ n _)))
 exact(h.map (fun x=>qu.mk x.1 x.2.1) (fun _ hx=>⟨hx,by simp[nR,dh,qu.qG,T',qt.qG,bo]⟩)).mono (X! n)
theorem Rl(n:Nat):zX Tryz.prog 31 qc.enc qc.ok n:=by
 have h:=H! (P:=Tryz.prog) (t:=31) (c:=2) (n:=n) Tryz.underlying31 k? (fun _=>by simp[nR,dh,qu.qG,qc.qG,zY,bo])
  (jY (c:=1) rfl k? (dq (P:=Tryz.prog) (t:=3) Tryz.underlying3 k? n) (jY (c:=1) rfl k? (V0 (P:=Tryz.prog) (t:=29) (el:=36) (sz:=3) Tryz.underlying29 k? k? o? (rk_Inst n)) (JQ n _)))
 exact(h.map (fun x=>qc.mk x.1 x.2.1) (fun _ hx=>⟨hx,by simp[nR,dh,qu.qG,qc.qG,zY,bo]⟩)).mono (X! n)
theorem rk_State(n:Nat):zX Tryz.prog 25 qq.enc qq.ok n:=by
 have h:=H! (P:=Tryz.prog) (t:=25) (c:=3) (n:=n) Tryz.underlying25 k? (fun _=>by simp[nR,dh,q0q,qc.qG,qq.qG,bo,pR])
  (jY (c:=1) rfl k? (K_ (P:=Tryz.prog) (t:=9) Tryz.underlying9 k? n) (jY (c:=1) rfl k? (V0 (P:=Tryz.prog) (t:=22) (el:=41) (sz:=2) Tryz.underlying22 k? k? o? (rk_Sel n)) (jY (c:=1) rfl k? (V0 (P:=Tryz.prog) (t:=23) (el:=31) (sz:=2) Tryz.underlying23 k? k? o? (Rl n)) (JQ n _))))
 exact(h.map (fun x=>qq.mk x.1 x.2.1 x.2.2.1) (fun _ hx=>⟨hx,by simp[nR,dh,q0q,qc.qG,qq.qG,bo,pR]⟩)).mono (X! n)
theorem rk_Edit(n:Nat):zX Tryz.prog 49 qz.enc qz.ok n:=by
 have h:=H! (P:=Tryz.prog) (t:=49) (c:=3) (n:=n) Tryz.underlying49 k? (fun _=>by simp[nR,dh,qz.qG,T',pR])
  (jY (c:=2) rfl k? (G1 n) (jY (c:=1) rfl k? (K_ (P:=Tryz.prog) (t:=9) Tryz.underlying9 k? n) (JQ n _)))
 exact(h.map (fun x=>qz.mk x.1 x.2.1) (fun _ hx=>⟨hx,by simp[nR,dh,qz.qG,T',pR]⟩)).mono (X! n)
theorem rk_Op(n:Nat):zX Tryz.prog 46 yD.enc yD.ok n:=by
 have h:=H! (P:=Tryz.prog) (t:=46) (c:=7) (n:=n) Tryz.underlying46 k? (fun _=>by simp[nR,dh,qz.qG,yD.qG,q0q,lp,zY,bo,pR])
  (jY (c:=1) rfl k? (dq (P:=Tryz.prog) (t:=3) Tryz.underlying3 k? n) (jY (c:=1) rfl k? (K_ (P:=Tryz.prog) (t:=9) Tryz.underlying9 k? n) (jY (c:=1) rfl k? (K_ (P:=Tryz.prog) (t:=9) Tryz.underlying9 k? n) (jY (c:=1) rfl k? (dq (P:=Tryz.prog) (t:=3) Tryz.underlying3 k? n) (jY (c:=1) rfl k? (WX (P_ (P:=Tryz.prog) (t:=4) Tryz.underlying4 k? n)) (jY (c:=1) rfl k? (V0 (P:=Tryz.prog) (t:=44) (el:=49) (sz:=3) Tryz.underlying44 k? k? o? (rk_Edit n)) (jY (c:=1) rfl k? (V0 (P:=Tryz.prog) (t:=22) (el:=41) (sz:=2) Tryz.underlying22 k? k? o? (rk_Sel n)) (JQ n _))))))))
 exact(h.map (fun x=>yD.mk x.1 x.2.1 x.2.2.1 x.2.2.2.1 x.2.2.2.2.1 x.2.2.2.2.2.1 x.2.2.2.2.2.2.1) (fun _ hx=>⟨hx,by simp[nR,dh,qz.qG,yD.qG,q0q,lp,zY,bo,pR]⟩)).mono (X! n)
theorem rkv25:dU Tryz.prog 25 (fun x=> .agg (qq.enc x)) qq.ok:=dU.struct Tryz.underlying25 rk_State
theorem rkv26:dU Tryz.prog 26 (fun x:(Sl yD)=>PV.sl x.nil (xd 7 x.l) (List.map yD.enc x.l)) (vG yD.ok):=dU.one Tryz.underlying26 rfl (fun n=>(V0 (P:=Tryz.prog) (t:=26) (el:=46) (sz:=7) Tryz.underlying26 k? k? o? (rk_Op n)))
theorem rkv3:dU Tryz.prog 3 (fun x:Int=>PV.int q? x) cp:=dU.one Tryz.underlying3 rfl (fun n=>(dq (P:=Tryz.prog) (t:=3) Tryz.underlying3 k? n))
end Go.Proofs.YtnfdnckadgcifaaGreat
set_option maxRecDepth 512
namespace Go.Proofs.YtnfdnckadgcifaaGreat
namespace Xr
structure Row (m:Nat) (F T U:Nat->Int) (n:Int):Prop where
 Xk: ∀r,r<m->0<=F r/\F r<=T r/\T r<=n
 up: ∀r,r<m-> -1<=U r/\U r<r
 nest: ∀r,r<m-> ∀p:Nat,U r=p->F p<=F r/\T r<=T p
 Pb: ∀r,r<m-> ∀q,q<r->U q=U r->T q<=F r
 pre: ∀r,r<m-> ∀q:Nat,q<r->U r<q->U r<=U q
structure GZ (m:Nat) (F T U:Nat->Int) (H:Nat->Prop) (a b:Int):Prop where
 up: ∀r,r<m->H r-> ∀p:Nat,U r=p->H p
 has: ∀r,r<m->H r->F r<=a/\b<=T r
 one: ∀r,r<m-> ∀q,q<r->U q=U r->H q-> ¬H r
structure Side (m:Nat) (F T U:Nat->Int) (H:Nat->Prop) (a b:Int) (last:Int) (s:Nat->Int):Prop where
 holds: ∀r,r<m->H r->s r=0
 gone: ∀r,r<m-> ¬H r-> ∀p:Nat,U r=p->s p=1->s r=1
 cut: ∀r,r<m-> ¬H r->(∀ p:Nat,U r=p->s p≠1)->F r<b->a<T r->s r=1
 K3: ∀r,r<m-> ¬H r->(∀ p:Nat,U r=p->s p≠1)-> ¬(F r<b/\a<T r)-> ∀p:Nat,U r=p-> ¬H p->s r=s p
 left: ∀r,r<m-> ¬H r->(∀ p:Nat,U r=p->s p≠1/\H p)-> ¬(F r<b/\a<T r)->(T r<a\/T r=a/\(F r<T r\/(r:Int)<last\/last<0))->s r=2
 right: ∀r,r<m-> ¬H r->(∀ p:Nat,U r=p->s p≠1/\H p)-> ¬(F r<b/\a<T r)-> ¬(T r<a\/T r=a/\(F r<T r\/(r:Int)<last\/last<0))->s r=3
 last1: ∀r,r<m->H r->(r:Int)<=last
 last2:0<=last-> ∃r:Nat,last=r/\r<m/\H r
 lastm: -1<=last
def mv(a b c:Int)(right:Bool)(p:Int):Int:=if p<a then p else if p>b then p+(c-(b-a))else if right then a+c else a
theorem ZX{a b c:Int}(eH:a<=b)(hc:0<=c)(right:Bool){p q:Int}(h:p<=q):mv a b c right p<=mv a b c right q:=by
 unfold mv;repeat' split
 all_goals omega
section
variable {m:Nat} {F T U:Nat->Int} {n:Int} {H:Nat->Prop} {a b c:Int} {last:Int} {s:Nat->Int}
variable (hR:Row m F T U n) (hH:GZ m F T U H a b) (hS:Side m F T U H a b last s) (ha:0<=a) (eH:a<=b) (hb:b<=n) (hc:0<=c)
theorem hold_up(hR:Row m F T U n)(hH:GZ m F T U H a b){u:Int}{x:Nat}(hx:x<m)(hxu:U x=u): ∀q:Nat,u<q->q<x->H q-> ∃p:Nat,u<p/\p<=q/\H p/\U p=u:=by intro q;induction q using r? with|_ q ih=>intro h1 h2 h3;have h4:=hR.pre x hx q h2 o?;have h5:=hR.up q o?;by_cases e:U q=u;exact⟨q,h1,Nat.le_refl _,h3,e⟩;obtain⟨p,hp⟩: ∃p:Nat,U q=p:=⟨(U q).toNat,by have:=hR.up x hx;omega⟩;obtain⟨p',g1,g2,g3,g4⟩:=ih p o? o? o? (hH.up q o? h3 p hp);exact⟨p',g1,o?,g3,g4⟩
theorem T4(hR:Row m F T U n)(hH:GZ m F T U H a b){q:Nat}(hq:H q): ∀x:Nat,x<m->H x->q<x-> ∀y:Nat,q<y->y<=x->(q:Int)<=U y:=by intro x;induction x using r? with|_ x ih=>intro hx hHx hqx y h1 h2;have Fk:=hR.up x hx;by_cases e:(q:Int)<=U x;by_cases ey:y=x;subst ey;exact e;by_cases e2:U x<y;have:=hR.pre x hx y o? e2;omega;obtain⟨p,hp⟩: ∃p:Nat,U x=p:=⟨(U x).toNat,o?⟩;exact ih p o? o? (hH.up x hx hHx p hp) o? y h1 o?;exfalso;obtain⟨p,g1,g2,g3,g4⟩:=hold_up hR hH hx rfl q o? hqx hq;exact hH.one x hx p o? g4 g3 hHx
theorem Fe(hR:Row m F T U n)(hH:GZ m F T U H a b){q r:Nat}(hr:r<m)(hqr:q<r)(hu:U q=U r)(hq:H q){x:Nat}(hx:x<m)(hHx:H x):x<r:=by by_cases e:x<r;exact e;exfalso;have h1:=T4 hR hH hq x hx hHx o? r hqr o?;have h2:=hR.up q o?;omega
include hR hS in
theorem mV{r:Nat}(hr:r<m):(H r/\s r=0)\/(¬ H r/\s r=1)\/(¬ H r/\s r=2)\/(¬ H r/\s r=3):=by induction r using r? with|_ r ih=>by_cases h:H r;exact .inl ⟨h,hS.holds r hr h⟩;right;have hu:=hR.up r hr;by_cases hp:0<=U r;obtain⟨p,hp⟩: ∃p:Nat,U r=p:=⟨(U r).toNat,o?⟩;have Wl: ∀p' :Nat,U r=p' ->p' =p:=fun p' h=>o?;have hih:=ih p o? o?;by_cases g:s p=1;exact .inl ⟨h,hS.gone r hr h p hp g⟩;(have g' : ∀p' :Nat,U r=p' ->s p' ≠1:=fun p' e=>by rw[Wl p' e];exact g);by_cases k:F r<b/\a<T r;exact .inl ⟨h,hS.cut r hr h g' k.1 k.2⟩;by_cases w:H p;(have g2: ∀p' :Nat,U r=p' ->s p' ≠1/\H p' :=fun p' e=>by rw[Wl p' e];exact⟨g,w⟩);by_cases z:T r<a\/T r=a/\(F r<T r\/(r:Int)<last\/last<0);exact .inr (.inl ⟨h,hS.left r hr h g2 k z⟩);exact .inr (.inr ⟨h,hS.right r hr h g2 k z⟩);have e:=hS.K3 r hr h g' k p hp w;rcases hih with ⟨x,_⟩|⟨_,x⟩|⟨_,x⟩|⟨_,x⟩;exact absurd x w;exact absurd x g;exact .inr (.inl ⟨h,e.trans x⟩);exact .inr (.inr ⟨h,e.trans x⟩);have g2: ∀p' :Nat,U r=p' ->s p' ≠1/\H p' :=fun p' e=>o?;by_cases k:F r<b/\a<T r;exact .inl ⟨h,hS.cut r hr h (fun p' e=>(g2 p' e).1) k.1 k.2⟩;by_cases z:T r<a\/T r=a/\(F r<T r\/(r:Int)<last\/last<0);exact .inr (.inl ⟨h,hS.left r hr h g2 k z⟩);exact .inr (.inr ⟨h,hS.right r hr h g2 k z⟩)
include hR hH hS in
theorem dW{r:Nat}(hr:r<m)(h:s r≠1){p:Nat}(hp:U r=p):s p≠1:=by intro g;by_cases k:H r;have hu:=hR.up r hr;have:=hS.holds p o? (hH.up r hr k p hp);omega;exact h (hS.gone r hr k p hp g)
include hR hH hS in
theorem Kl{r:Nat}(hr:r<m)(h:s r=2):T r<=a:=by induction r using r? with|_ r ih=>(have hu:=hR.up r hr;have hn: ¬H r:=fun k=>by have:=hS.holds r hr k;omega);have YD:=fun p(hp:U r=((p:Nat):Int))=>dW hR hH hS hr o? hp;by_cases k:F r<b/\a<T r;have:=hS.cut r hr hn YD k.1 k.2;omega;by_cases w: ∃p:Nat,U r=p/\ ¬H p;obtain⟨p,hp,w⟩:=w;have e:=hS.K3 r hr hn YD k p hp w;have:=ih p o? o? o?;have:=hR.nest r hr p hp;omega;have g2: ∀p' :Nat,U r=p' ->s p' ≠1/\H p' :=fun p' e=>⟨YD p' e,Classical.byContradiction fun c=>w ⟨p',e,c⟩⟩;by_cases z:T r<a\/T r=a/\(F r<T r\/(r:Int)<last\/last<0);omega;have:=hS.right r hr hn g2 k z;omega
include hR hH hS in
theorem oA{r:Nat}(hr:r<m)(h:s r=3):b<=F r\/(F r=a/\T r=a):=by induction r using r? with|_ r ih=>(have hu:=hR.up r hr;have hg:=hR.Xk r hr;have hn: ¬H r:=fun k=>by have:=hS.holds r hr k;omega);have YD:=fun p(hp:U r=((p:Nat):Int))=>dW hR hH hS hr o? hp;by_cases k:F r<b/\a<T r;have:=hS.cut r hr hn YD k.1 k.2;omega;by_cases w: ∃p:Nat,U r=p/\ ¬H p;obtain⟨p,hp,w⟩:=w;have e:=hS.K3 r hr hn YD k p hp w;have:=ih p o? o? o?;have:=hR.nest r hr p hp;omega;have g2: ∀p' :Nat,U r=p' ->s p' ≠1/\H p' :=fun p' e=>⟨YD p' e,Classical.byContradiction fun c=>w ⟨p',e,c⟩⟩;by_cases z:T r<a\/T r=a/\(F r<T r\/(r:Int)<last\/last<0);have:=hS.left r hr hn g2 k z;omega;omega
def Sh(a b c:Int)(F:Nat->Int)(s:Nat->Int)(r:Nat):Int:=if s r=0 then F r else mv a b c (decide (s r=3)) (F r)
def D2(a b c:Int)(T:Nat->Int)(s:Nat->Int)(r:Nat):Int:=if s r=0 then T r+(c-(b-a))else mv a b c (decide (s r=3)) (T r)
include hR hH hS ha eH hb hc in
theorem Ut{r:Nat}(hr:r<m)(h:s r≠1):0<=Sh a b c F s r/\Sh a b c F s r<=D2 a b c T s r/\D2 a b c T s r<=n+(c-(b-a)):=by
 have hg:=hR.Xk r hr;unfold Sh D2;rcases mV hR hS hr with ⟨k,e⟩|⟨k,e⟩|⟨k,e⟩|⟨k,e⟩;have:=hH.has r hr k;simp only[e,if_true];omega;exact absurd e h;{have:=Kl hR hH hS hr e;simp only[e];simp only[mv];simp;(repeat' split);all_goals omega};have:=oA hR hH hS hr e;simp only[e];simp only[mv];simp;repeat' split
 all_goals omega
include hR hH hS eH hc in
theorem V7{r:Nat}(hr:r<m)(h:s r≠1){p:Nat}(hp:U r=p):Sh a b c F s p<=Sh a b c F s r/\D2 a b c T s r<=D2 a b c T s p:=by
 have hu:=hR.up r hr;have hpm:p<m:=o?;have hg:=hR.Xk r hr;have hgp:=hR.Xk p hpm;have hn:=hR.nest r hr p hp;have YD:=dW hR hH hS hr h hp;by_cases w:H p;{have h0:=hS.holds p hpm w;have hw:=hH.has p hpm w;unfold Sh D2;rcases mV hR hS hr with ⟨k,e⟩|⟨k,e⟩|⟨k,e⟩|⟨k,e⟩;simp only[e,h0,if_true];omega;exact absurd e h;{have:=Kl hR hH hS hr e;simp only[e,h0,mv];simp;(repeat' split);all_goals omega};have:=oA hR hH hS hr e;simp only[e,h0,mv];simp;(repeat' split);all_goals omega};have hnr: ¬H r:=fun k=>w (hH.up r hr k p hp);have hal' : ∀p' :Nat,U r=p' ->s p' ≠1:=fun p' e=>by rw[show p' =p by omega];exact YD
 have hk: ¬(F r<b/\a<T r):=fun k=>h (hS.cut r hr hnr hal' k.1 k.2);have e:=hS.K3 r hr hnr hal' hk p hp w;have h0:s p≠0:=by rcases mV hR hS hpm with ⟨k,_⟩|⟨_,x⟩|⟨_,x⟩|⟨_,x⟩;exact absurd k w;all_goals omega
 unfold Sh D2;rw[e,if_neg h0,if_neg h0,if_neg h0,if_neg h0];exact⟨ZX eH hc _ hn.1,ZX eH hc _ hn.2⟩
include hR hH hS eH hc in
theorem Uu{r:Nat}(hr:r<m)(h:s r≠1){q:Nat}(hqr:q<r)(hq:s q≠1)(hu:U q=U r):D2 a b c T s q<=Sh a b c F s r:=by
 have OW:q<m:=o?;have hg:=hR.Xk r hr;have hgq:=hR.Xk q OW;have hn:=hR.Pb r hr q hqr hu;have halr:=fun p(hp:U r=((p:Nat):Int))=>dW hR hH hS hr h hp;have halq:=fun p(hp:U q=((p:Nat):Int))=>dW hR hH hS OW hq hp;have hkr: ¬H r-> ¬(F r<b/\a<T r):=fun x k=>h (hS.cut r hr x halr k.1 k.2);have hkq: ¬H q-> ¬(F q<b/\a<T q):=fun x k=>hq (hS.cut q OW x halq k.1 k.2);by_cases w: ∃p:Nat,U r=p/\ ¬H p;{(obtain⟨p,hp,w⟩:=w;have Xj:=hR.up r hr;have hnr: ¬H r:=fun k=>w (hH.up r hr k p hp);have hnq: ¬H q:=fun k=>w (hH.up q OW k p o?);have e1:=hS.K3 r hr hnr halr (hkr hnr) p hp w;have e2:=hS.K3 q OW hnq halq (hkq hnq) p o? w;have h0:s p≠0:=by rcases mV hR hS (show p<m by omega)with ⟨k,_⟩|⟨_,x⟩|⟨_,x⟩|⟨_,x⟩;exact absurd k w;all_goals omega);unfold Sh D2;rw[e1,e2,if_neg h0,if_neg h0];exact ZX eH hc _ hn};have hwr: ∀p' :Nat,U r=p' ->s p' ≠1/\H p' :=fun p' e=>⟨halr p' e,Classical.byContradiction fun c=>w ⟨p',e,c⟩⟩;have hwq: ∀p' :Nat,U q=p' ->s p' ≠1/\H p' :=fun p' e=>hwr p' o?;unfold Sh D2;rcases mV hR hS OW with ⟨k,e⟩|⟨k,e⟩|⟨k,e⟩|⟨k,e⟩;{have hnr: ¬H r:=hH.one r hr q hqr hu k;have hq2:=hH.has q OW k;have hql:=hS.last1 q OW k;obtain⟨x,Fm,L5,hx3⟩:=hS.last2 o?;have hlr:=Fe hR hH hr hqr hu k L5 hx3;have h3:s r=3:=hS.right r hr hnr hwr (hkr hnr) o?;simp only[e,h3,mv];simp;(repeat' split);all_goals omega};exact absurd e hq;{have hl:=Kl hR hH hS OW e;rcases mV hR hS hr with ⟨k2,e2⟩|⟨k2,e2⟩|⟨k2,e2⟩|⟨k2,e2⟩;{simp only[e,e2,mv];simp;(repeat' split);all_goals omega};exact absurd e2 h;simp only[e,e2];simp;exact ZX eH hc _ hn;have:=oA hR hH hS hr e2;simp only[e,e2,mv];simp;(repeat' split);all_goals omega};have hrq:=oA hR hH hS OW e;have hz: ¬(T q<a\/T q=a/\(F q<T q\/(q:Int)<last\/last<0)):=fun z=>by have:=hS.left q OW k hwq (hkq k) z;omega
 rcases mV hR hS hr with ⟨k2,e2⟩|⟨k2,e2⟩|⟨k2,e2⟩|⟨k2,e2⟩;have h1:=hS.last1 r hr k2;have h2:=hH.has r hr k2;omega;exact absurd e2 h;have hl:=Kl hR hH hS hr e2;by_cases z:T r<a\/T r=a/\(F r<T r\/(r:Int)<last\/last<0);omega;have:=hS.right r hr k2 hwr (hkr k2) z;omega;simp only[e,e2];simp;exact ZX eH hc _ hn
end
end Xr
end Go.Proofs.YtnfdnckadgcifaaGreat
namespace Go.Proofs.YtnfdnckadgcifaaGreat
open Go Go.Gm
namespace Xr
structure Vx (i:qu) (n:Int):Prop where
 Xk:0<=i.span.qO/\i.span.qO<=i.span.to/\i.span.to<=n
 up: ∀(k:Nat)(x:qt),i.stops.l[k]? =some x-> -1<=x.up/\x.up<(k:Nat)
 le: ∀(k:Nat)(x:qt),i.stops.l[k]? =some x->x.span.qO<=x.span.to
 top: ∀(k:Nat)(x:qt),i.stops.l[k]? =some x->x.up= -1->i.span.qO<=x.span.qO/\x.span.to<=i.span.to
 nest: ∀(k:Nat)(x:qt),i.stops.l[k]? =some x-> ∀(p:Nat)(y:qt),x.up=p->i.stops.l[p]? =some y->y.span.qO<=x.span.qO/\x.span.to<=y.span.to
 Pb: ∀(k:Nat)(x:qt),i.stops.l[k]? =some x-> ∀(j:Nat)(y:qt),j<k->i.stops.l[j]? =some y->y.up=x.up->y.span.to<=x.span.qO
 pre: ∀(k:Nat)(x:qt),i.stops.l[k]? =some x-> ∀(q:Nat)(y:qt),q<k->x.up<q->i.stops.l[q]? =some y->x.up<=y.up
theorem Vx.inside{i:qu}{n:Int}(h:Vx i n): ∀(k:Nat)(x:qt),i.stops.l[k]? =some x->i.span.qO<=x.span.qO/\x.span.to<=i.span.to:=by intro k;induction k using r? with|_ k ih=>intro x hx;have hu:=h.up k x hx;by_cases e:x.up= -1;exact h.top k x hx e;obtain⟨p,hp⟩: ∃p:Nat,x.up=p:=⟨x.up.toNat,o?⟩;have hk:=(qL hx).1;have hy:i.stops.l[p]? =some i.stops.l[p]:=wK o?;have h1:=h.nest k x hx p _ hp hy;have h2:=ih p o? _ hy;omega
structure dv (is:List qu) (n:Int):Prop where
 may: ∀(a:Nat)(i:qu),is[a]? =some i->Vx i n
 Rk: ∀(a b:Nat)(i j:qu),a<b->is[a]? =some i->is[b]? =some j->i.span.to<=j.span.qO
theorem dv.tail{i:qu}{is:List qu}{n:Int}(h:dv (i::is) n):dv is n:=
 ⟨fun a j hj=>h.may (a+1) j (by simpa using hj),fun a b j k eH hj hk=>h.Rk (a+1) (b+1) j k o? (by simpa using hj) (by simpa using hk)⟩
abbrev Qo:=Int×Int×Int
def aB(b:Nat)(i:qu):List Qo:=(i.span.qO,i.span.to,-1)::i.stops.l.map (fun x=>(x.span.qO,x.span.to,b+1+x.up))
def bt(b:Nat):List qu->List Qo
 |[]=>[]
 |i::is=>aB b i++bt (b+1+i.stops.l.length) is
theorem iK(b:Nat)(i:qu):(aB b i).length=1+i.stops.l.length:=by simp[aB];omega
structure RowB (b:Nat) (l:List Qo) (lo n:Int):Prop where
 Xk: ∀(r:Nat)(x:Qo),l[r]? =some x->0<=x.1/\x.1<=x.2.1/\x.2.1<=n
 lo: ∀(r:Nat)(x:Qo),l[r]? =some x->x.2.2= -1->lo<=x.1
 up: ∀(r:Nat)(x:Qo),l[r]? =some x->x.2.2= -1\/(b:Int)<=x.2.2/\x.2.2<b+r
 nest: ∀(r:Nat)(x:Qo),l[r]? =some x-> ∀(p:Nat)(y:Qo),x.2.2=b+p->l[p]? =some y->y.1<=x.1/\x.2.1<=y.2.1
 Pb: ∀(r:Nat)(x:Qo),l[r]? =some x-> ∀(q:Nat)(y:Qo),q<r->l[q]? =some y->y.2.2=x.2.2->y.2.1<=x.1
 pre: ∀(r:Nat)(x:Qo),l[r]? =some x-> ∀(q:Nat)(y:Qo),q<r->x.2.2<b+q->l[q]? =some y->x.2.2<=y.2.2
theorem mT{b:Nat}{i:qu}{r:Nat}{x:Qo}(h:(aB b i)[r]? =some x):(r=0/\x=(i.span.qO,i.span.to,-1))\/ ∃k s,r=k+1/\i.stops.l[k]? =some s/\x=(s.span.qO,s.span.to,b+1+s.up):=by cases r with|zero=>left;simpa[aB,eq_comm]using h|succ k=>right;simp only[aB,i?,List.getElem?_map,yZ]at h;obtain⟨s,h1,h2⟩:=h;exact⟨k,s,rfl,h1,h2.symm⟩
theorem rowS_ok(n:Int): ∀(is:List qu)(b:Nat)(lo:Int),dv is n->(∀(a:Nat)(i:qu),is[a]? =some i->lo<=i.span.qO)->RowB b (bt b is) lo n:=by intro is;induction is with|nil=>intro b lo _ _;constructor<;>intro r x h<;>simp[bt]at h|cons i is ih=>(intro b lo h hlo;have hm:=h.may 0 i rfl;have hi:=ih (b+1+i.stops.l.length) i.span.to h.tail (fun a j hj=>h.Rk 0 (a+1) i j o? rfl (by simpa using hj));have hlo0:=hlo 0 i rfl;have hir:=hm.Xk;have hL:=iK b i;have split: ∀(r:Nat)(x:Qo),(bt b (i::is))[r]? =some x->(r<1+i.stops.l.length/\(aB b i)[r]? =some x)\/ ∃q,r=1+i.stops.l.length+q/\(bt (b+1+i.stops.l.length) is)[q]? =some x:=by intro r x hx;rw[bt]at hx;by_cases hr:r<1+i.stops.l.length;rw[t? o?]at hx;exact .inl ⟨hr,hx⟩;rw[J? o?,hL]at hx;exact .inr ⟨r-(1+i.stops.l.length),o?,hx⟩);have kin: ∀(k:Nat)(s:qt),i.stops.l[k]? =some s->k<i.stops.l.length:=fun k s hs=>(qL hs).1;refine⟨?_, ?_, ?_, ?_, ?_, ?_⟩;intro r x hx;rcases split r x hx with ⟨_,hx⟩|⟨q,_,hx⟩;rcases mT hx with ⟨_,rfl⟩|⟨k,s,_,hs,rfl⟩;exact hir;have:=hm.inside k s hs;have:=hm.le k s hs;simp only;omega;exact hi.Xk q x hx;intro r x hx hu;rcases split r x hx with ⟨_,hx⟩|⟨q,_,hx⟩;rcases mT hx with ⟨_,rfl⟩|⟨k,s,_,hs,rfl⟩;exact hlo0;have:=hm.inside k s hs;simp only;omega;have:=hi.lo q x hx hu;omega;intro r x hx;rcases split r x hx with ⟨hr,hx⟩|⟨q,hr,hx⟩;rcases mT hx with ⟨_,rfl⟩|⟨k,s,hk,hs,rfl⟩;exact .inl rfl;have:=hm.up k s hs;right;simp only;omega;rcases hi.up q x hx with e|e;exact .inl e;right;omega;intro r x hx p y hp hy;rcases split r x hx with ⟨hr,hx⟩|⟨q,hr,hx⟩;rcases mT hx with ⟨_,rfl⟩|⟨k,s,hk,hs,rfl⟩;simp only at hp;omega;have hu:=hm.up k s hs;have pd:=kin k s hs;simp only at hp |-;rcases split p y hy with ⟨_,hy⟩|⟨q',OV,hy⟩;rcases mT hy with ⟨_,rfl⟩|⟨k',s',Zs,oM,rfl⟩;exact hm.inside k s hs;exact hm.nest k s hs k' s' o? oM;omega;have hu:=hi.up q x hx;rcases split p y hy with ⟨hp',hy⟩|⟨q',OV,hy⟩;omega;exact hi.nest q x hx q' y o? hy;intro r x hx q y hq hy hu;rcases split r x hx with ⟨hr,hx⟩|⟨r',hr,hx⟩;rcases mT hx with ⟨h0,rfl⟩|⟨k,s,hk,hs,rfl⟩;omega;have hus:=hm.up k s hs;have pd:=kin k s hs;rcases split q y hy with ⟨_,hy⟩|⟨q',OV,hy⟩;rcases mT hy with ⟨_,rfl⟩|⟨k',s',Zs,oM,rfl⟩;simp only at hu;omega;simp only at hu |-;exact hm.Pb k s hs k' s' o? oM o?;omega;rcases split q y hy with ⟨OV,hy⟩|⟨q',OV,hy⟩;have Fk:=hi.up r' x hx;rcases mT hy with ⟨h0,rfl⟩|⟨k,s,hk,hs,rfl⟩;simp only at hu |-;have:=hi.lo r' x hx hu.symm;omega;have hus:=hm.up k s hs;have pd:=kin k s hs;simp only at hu;omega;exact hi.Pb r' x hx q' y o? hy hu;intro r x hx q y hq hu hy;rcases split r x hx with ⟨hr,hx⟩|⟨r',hr,hx⟩;rcases split q y hy with ⟨_,hy⟩|⟨q',OV,hy⟩;rcases mT hx with ⟨h0,rfl⟩|⟨k,s,hk,hs,rfl⟩;omega;have hus:=hm.up k s hs;rcases mT hy with ⟨h0,rfl⟩|⟨k',s',Zs,oM,rfl⟩;simp only at hu;omega;simp only at hu |-;have:=hm.pre k s hs k' s' o? o? oM;omega;omega;have Fk:=hi.up r' x hx;rcases split q y hy with ⟨OV,hy⟩|⟨q',OV,hy⟩;rcases Fk with e|e;rcases mT hy with ⟨h0,rfl⟩|⟨k,s,hk,hs,rfl⟩;simp only;omega;have hus:=hm.up k s hs;simp only;omega;omega;have huy:=hi.up q' y hy;rcases Fk with e|e;omega;exact hi.pre r' x hx q' y o? o? hy
def Io(l:List Qo)(r:Nat):Int:=(l.getD r (0,0,-1)).1
def Iw(l:List Qo)(r:Nat):Int:=(l.getD r (0,0,-1)).2.1
def Dd(l:List Qo)(r:Nat):Int:=(l.getD r (0,0,-1)).2.2
theorem eC{l:List Qo}{r:Nat}{x:Qo}(h:l[r]? =some x):Io l r=x.1/\Iw l r=x.2.1/\Dd l r=x.2.2:=by simp[Io,Iw,Dd,h]
theorem RowB.row{l:List Qo}{lo n:Int}(h:RowB 0 l lo n):Row l.length (Io l) (Iw l) (Dd l) n:=by
 have g: ∀r,r<l.length-> ∃x,l[r]? =some x/\Io l r=x.1/\Iw l r=x.2.1/\Dd l r=x.2.2:=by intro r hr;exact⟨l[r],wK hr,eC (wK hr)⟩
 refine⟨?_, ?_, ?_, ?_, ?_⟩;intro r hr;obtain⟨x,hx,e1,e2,e3⟩:=g r hr;rw[e1,e2];exact h.Xk r x hx;intro r hr;obtain⟨x,hx,e1,e2,e3⟩:=g r hr;have:=h.up r x hx;omega;intro r hr p hp;obtain⟨x,hx,e1,e2,e3⟩:=g r hr;have hu:=h.up r x hx;obtain⟨y,hy,f1,f2,f3⟩:=g p o?;have:=h.nest r x hx p y o? hy;omega;intro r hr q hq hu;obtain⟨x,hx,e1,e2,e3⟩:=g r hr;obtain⟨y,hy,f1,f2,f3⟩:=g q o?;have:=h.Pb r x hx q y hq hy o?;omega;intro r hr q hq hu;obtain⟨x,hx,e1,e2,e3⟩:=g r hr;obtain⟨y,hy,f1,f2,f3⟩:=g q o?;have:=h.pre r x hx q y hq o? hy;omega
end Xr
namespace Xr
def Tt(a b c:Int)(side:Int)(p:qk):qk:=if side=0 then⟨p.qO,p.to+(c-(b-a))⟩else⟨mv a b c (decide (side=3)) p.qO,mv a b c (decide (side=3)) p.to⟩
def Qd(s:Nat->Int)(b:Nat):Nat->Nat
 |0=>0
 |k+1=>Qd s b k+if s (b+k)=1 then 0 else 1
def FJ(a b c:Int)(s:Nat->Int)(b0 k:Nat)(x:qt):qt:={ x with span:=Tt a b c (s (b0+k)) x.span,up:=if 0<=x.up then(Qd s b0 x.up.toNat:Int)else x.up }
def sr(a b c:Int)(s:Nat->Int)(b0:Nat):Nat->List qt->List qt
 |_,[]=>[]
 |k,x::r=>if s (b0+k)=1 then sr a b c s b0 (k+1) r else FJ a b c s b0 k x::sr a b c s b0 (k+1) r
def XQ(a b c:Int)(s:Nat->Int)(b0:Nat)(i:qu):qu:=⟨Tt a b c (s b0) i.span,⟨(sr a b c s (b0+1) 0 i.stops.l).isEmpty,sr a b c s (b0+1) 0 i.stops.l⟩⟩
def mm(a b c:Int)(s:Nat->Int):Nat->List qu->List qu
 |_,[]=>[]
 |b0,i::is=>if s b0=1 then mm a b c s (b0+1+i.stops.l.length) is else XQ a b c s b0 i::mm a b c s (b0+1+i.stops.l.length) is
theorem WV(s:Nat->Int)(b:Nat): ∀{k k' :Nat},k<=k' ->Qd s b k<=Qd s b k' :=by intro k k' h;induction k' with|zero=>obtain rfl:k=0:=o?;exact ju _|succ k' ih=>by_cases e:k=k' +1;subst e;exact ju _;have:=ih o?;rw[Qd];omega
theorem TM(s:Nat->Int)(b:Nat){k k' :Nat}(h:k<k')(hk:s (b+k)≠1):Qd s b k<Qd s b k' :=by
 have h1:Qd s b (k+1)=Qd s b k+1:=by rw[Qd,if_neg hk]
 have h2:=WV s b (show k+1<=k' by omega);omega
theorem SZ(s:Nat->Int)(b:Nat){k k' :Nat}(hk:s (b+k)≠1)(Zs:s (b+k')≠1)(h:Qd s b k=Qd s b k'):k=k' :=by rcases b_ k k' with h1|h1|h1;have:=TM s b h1 hk;omega;exact h1;have:=TM s b h1 Zs;omega
theorem HL(s:Nat->Int)(b:Nat){k k' :Nat}(h:Qd s b k<Qd s b k'):k<k' :=by by_cases e:k<k';exact e;have:=WV s b (show k' <=k by omega);omega
section
variable {a b c:Int} {s:Nat->Int}
theorem YX(b0:Nat): ∀(st:List qt)(k0 j:Nat)(y:qt),(sr a b c s b0 k0 st)[j]? =some y-> ∃(k:Nat)(x:qt),st[k]? =some x/\s (b0+(k0+k))≠1/\y=FJ a b c s b0 (k0+k) x/\Qd s b0 (k0+k)=Qd s b0 k0+j:=by intro st;induction st with|nil=>intro k0 j y h;simp[sr]at h|cons x r ih=>intro k0 j y h;rw[sr]at h;split at h;rename_i e;obtain⟨k,z,h1,h2,h3,h4⟩:=ih (k0+1) j y h;refine⟨k+1,z,by simpa using h1, ?_, ?_, ?_⟩;rw[show k0+(k+1)=k0+1+k by omega];exact h2;rw[show k0+(k+1)=k0+1+k by omega];exact h3;rw[show k0+(k+1)=k0+1+k by omega,h4,Qd,if_pos e];omega;rename_i e;cases j with|zero=>simp only[a?,wd]at h;exact⟨0,x,z?,by simpa using e,by simpa using h.symm,z?⟩|succ j=>simp only[i?]at h;obtain⟨k,z,h1,h2,h3,h4⟩:=ih (k0+1) j y h;refine⟨k+1,z,by simpa using h1, ?_, ?_, ?_⟩;rw[show k0+(k+1)=k0+1+k by omega];exact h2;rw[show k0+(k+1)=k0+1+k by omega];exact h3;rw[show k0+(k+1)=k0+1+k by omega,h4,Qd,if_neg e];omega
theorem FG(b0:Nat): ∀(st:List qt)(k0:Nat),(sr a b c s b0 k0 st).length<=st.length:=by intro st;induction st with|nil=>intro k0;simp[sr]|cons x r ih=>intro k0;have:=ih (k0+1);rw[sr];split<;>simp<;>omega
theorem FH(b0:Nat)(st:List qt)(k0:Nat)(y:qt)(h:y∈sr a b c s b0 k0 st): ∃x∈st,∃ k,y=FJ a b c s b0 k x:=by obtain⟨j,hj⟩:=jI h;obtain⟨k,x,h1,_,h3,_⟩:=YX b0 st k0 j y hj;exact⟨x,zc h1,_,h3⟩
theorem Tu(r:Nat)(F:Nat->Int)(p:qk)(h:F r=p.qO):(Tt a b c (s r) p).qO=Sh a b c F s r:=by unfold Tt Sh;rw[h];split<;>rfl
theorem Tv(r:Nat)(p:qk)(W:Nat->Int)(h:W r=p.to):(Tt a b c (s r) p).to=D2 a b c W s r:=by unfold Tt D2;rw[h];split<;>rfl
variable {l:List Qo} {n:Int} {H:Nat->Prop} {last:Int}
variable (hR:Row l.length (Io l) (Iw l) (Dd l) n) (hH:GZ l.length (Io l) (Iw l) (Dd l) H a b) (hS:Side l.length (Io l) (Iw l) (Dd l) H a b last s) (ha:0<=a) (eH:a<=b) (hb:b<=n) (hc:0<=c)
include hR hH hS ha eH hb hc in
theorem LZ{i:qu}{b0:Nat}(hi: ∀(r:Nat)(x:Qo),(aB b0 i)[r]? =some x->l[b0+r]? =some x)(hm:Vx i n)(h0:s b0≠1):Vx (XQ a b c s b0 i) (n+(c-(b-a))):=by
 have hh:l[b0]? =some (i.span.qO,i.span.to,-1):=by simpa using hi 0 _ rfl
 have Jm:b0<l.length:=(qL hh).1;have gh:=eC hh;have hk: ∀(k:Nat)(x:qt),i.stops.l[k]? =some x->l[b0+1+k]? =some (x.span.qO,x.span.to,(b0:Int)+1+x.up):=by intro k x hx;have:=hi (k+1) (x.span.qO,x.span.to,b0+1+x.up) (by simp[aB,hx]);rwa[show b0+(k+1)=b0+1+k by omega]at this
 have pd: ∀(k:Nat)(x:qt),i.stops.l[k]? =some x->b0+1+k<l.length:=fun k x hx=>(qL (hk k x hx)).1;have gk:=fun(k:Nat)(x:qt) hx=>eC (hk k x hx);have get: ∀(j:Nat)(y:qt),(XQ a b c s b0 i).stops.l[j]? =some y-> ∃(k:Nat)(x:qt),i.stops.l[k]? =some x/\s (b0+1+k)≠1/\y=FJ a b c s (b0+1) k x/\Qd s (b0+1) k=j:=by intro j y hy;obtain⟨k,x,h1,h2,h3,h4⟩:=YX (b0+1) i.stops.l 0 j y hy;simp only[O?,Qd]at h2 h3 h4;exact⟨k,x,h1,h2,h3,h4⟩
 have fr: ∀(k:Nat)(x:qt),i.stops.l[k]? =some x->(FJ a b c s (b0+1) k x).span.qO=Sh a b c (Io l) s (b0+1+k):=fun k x hx=>Tu _ _ _ (gk k x hx).1;have to: ∀(k:Nat)(x:qt),i.stops.l[k]? =some x->(FJ a b c s (b0+1) k x).span.to=D2 a b c (Iw l) s (b0+1+k):=fun k x hx=>Tv _ _ _ (gk k x hx).2.1;have fr0:(XQ a b c s b0 i).span.qO=Sh a b c (Io l) s b0:=Tu _ _ _ gh.1;have to0:(XQ a b c s b0 i).span.to=D2 a b c (Iw l) s b0:=Tv _ _ _ gh.2.1;have par: ∀(k:Nat)(x:qt),i.stops.l[k]? =some x->s (b0+1+k)≠1-> ∀p:Nat,x.up=p->p<k/\s (b0+1+p)≠1/\ ∃y,i.stops.l[p]? =some y:=by intro k x hx h p hp;have hu:=hm.up k x hx;have JX:=(qL hx).1;refine⟨o?,dW hR hH hS (pd k x hx) h (p:=b0+1+p) (by rw[(gk k x hx).2.2,hp];simp),_,wK o?⟩
 have ups: ∀(k:Nat)(x:qt),i.stops.l[k]? =some x->(x.up= -1/\(FJ a b c s (b0+1) k x).up= -1)\/ ∃p:Nat,x.up=p/\(FJ a b c s (b0+1) k x).up=(Qd s (b0+1) p:Nat):=by intro k x hx;have hu:=hm.up k x hx;unfold FJ;by_cases e:0<=x.up;right;exact⟨x.up.toNat,o?,by simp only[if_pos e]⟩;left;simp only[if_neg e];omega
 refine⟨?_, ?_, ?_, ?_, ?_, ?_, ?_⟩;rw[fr0,to0];exact Ut hR hH hS ha eH hb hc Jm h0;intro j y hy;obtain⟨k,x,h1,h2,rfl,h4⟩:=get j y hy;rcases ups k x h1 with ⟨_,e⟩|⟨p,e1,e2⟩;omega;obtain⟨q1,q2,_⟩:=par k x h1 h2 p e1;have:=TM s (b0+1) q1 q2;omega;intro j y hy;obtain⟨k,x,h1,h2,rfl,h4⟩:=get j y hy;rw[fr k x h1,to k x h1];exact(Ut hR hH hS ha eH hb hc (pd k x h1) h2).2.1;intro j y hy hu;obtain⟨k,x,h1,h2,rfl,h4⟩:=get j y hy;rcases ups k x h1 with ⟨e,_⟩|⟨p,e1,e2⟩;rw[fr k x h1,to k x h1,fr0,to0];exact V7 hR hH hS eH hc (pd k x h1) h2 (p:=b0) (by rw[(gk k x h1).2.2,e];simp only;omega);omega;intro j y hy p y2 hp QJ;obtain⟨k,x,h1,h2,rfl,h4⟩:=get j y hy;obtain⟨k2,x2,g1,g2,rfl,g4⟩:=get p y2 QJ;rcases ups k x h1 with ⟨e,e'⟩|⟨q,e1,e2⟩;omega;obtain⟨q1,q2,_⟩:=par k x h1 h2 q e1;obtain rfl:q=k2:=SZ s (b0+1) q2 g2 o?;rw[fr k x h1,to k x h1,fr q x2 g1,to q x2 g1];exact V7 hR hH hS eH hc (pd k x h1) h2 (p:=b0+1+q) (by rw[(gk k x h1).2.2,e1];simp);(intro j y hy j2 y2 hj QJ hu;obtain⟨k,x,h1,h2,rfl,h4⟩:=get j y hy;obtain⟨k2,x2,g1,g2,rfl,g4⟩:=get j2 y2 QJ;have JX:k2<k:=HL s (b0+1) o?;have he:x2.up=x.up:=by rcases ups k x h1 with ⟨e,e'⟩|⟨q,e1,e2⟩<;>rcases ups k2 x2 g1 with ⟨f,f'⟩|⟨q',f1,f2⟩;omega;omega;omega;obtain⟨_,q2,_⟩:=par k x h1 h2 q e1;obtain⟨_,q2',_⟩:=par k2 x2 g1 g2 q' f1;have:=SZ s (b0+1) q2 q2' o?;omega);rw[fr k x h1,to k2 x2 g1];exact Uu hR hH hS eH hc (pd k x h1) h2 (q:=b0+1+k2) o? g2 (by rw[(gk k x h1).2.2,(gk k2 x2 g1).2.2,he]);intro j y hy q y2 hq hu QJ;obtain⟨k,x,h1,h2,rfl,h4⟩:=get j y hy;obtain⟨k2,x2,g1,g2,rfl,g4⟩:=get q y2 QJ;have JX:k2<k:=HL s (b0+1) o?;rcases ups k x h1 with ⟨e,e'⟩|⟨p,e1,e2⟩;rcases ups k2 x2 g1 with ⟨f,f'⟩|⟨q',f1,f2⟩<;>omega;have hpk:p<k2:=HL s (b0+1) o?;have:=hm.pre k x h1 k2 x2 JX o? g1;rcases ups k2 x2 g1 with ⟨f,f'⟩|⟨q',f1,f2⟩;omega;have:=WV s (b0+1) (show p<=q' by omega);omega
theorem XR: ∀(is:List qu)(b0:Nat),(∀(r:Nat)(x:Qo),(bt b0 is)[r]? =some x->l[b0+r]? =some x)-> ∀(j:Nat)(y:qu),(mm a b c s b0 is)[j]? =some y->
  ∃(k:Nat)(i:qu)(b1:Nat),is[k]? =some i/\b0<=b1/\s b1≠1/\y=XQ a b c s b1 i/\(∀(r:Nat)(x:Qo),(aB b1 i)[r]? =some x->l[b1+r]? =some x):=by intro is;induction is with|nil=>intro b0 _ j y h;simp[mm]at h|cons i is ih=>(intro b0 hl j y h;have hL:=iK b0 i;have h1: ∀(r:Nat)(x:Qo),(aB b0 i)[r]? =some x->l[b0+r]? =some x:=by intro r x hx;have hr:=(qL hx).1;exact hl r x (by rw[bt,t? hr];exact hx));(have h2: ∀(r:Nat)(x:Qo),(bt (b0+1+i.stops.l.length) is)[r]? =some x->l[b0+1+i.stops.l.length+r]? =some x:=by intro r x hx;have:=hl (1+i.stops.l.length+r) x (by rw[bt,J? o?,hL,show 1+i.stops.l.length+r-(1+i.stops.l.length)=r by omega];exact hx);rwa[show b0+(1+i.stops.l.length+r)=b0+1+i.stops.l.length+r by omega]at this);(have again: ∀(j:Nat)(y:qu),(mm a b c s (b0+1+i.stops.l.length) is)[j]? =some y-> ∃(k:Nat)(i' :qu)(b1:Nat),(i::is)[k]? =some i' /\b0<b1/\s b1≠1/\y=XQ a b c s b1 i' /\(∀(r:Nat)(x:Qo),(aB b1 i')[r]? =some x->l[b1+r]? =some x):=by intro j y h;obtain⟨k,i',b1,g1,g2,g3⟩:=ih (b0+1+i.stops.l.length) h2 j y h;exact⟨k+1,i',b1,by simpa using g1,o?,g3⟩);rw[mm]at h;split at h;obtain⟨k,i',b1,g1,g2,g3⟩:=again j y h;exact⟨k,i',b1,g1,o?,g3⟩;rename_i e;cases j with|zero=>simp only[a?,wd]at h;exact⟨0,i,b0,rfl,ju _,e,h.symm,h1⟩|succ j=>simp only[i?]at h;obtain⟨k,i',b1,g1,g2,g3⟩:=again j y h;exact⟨k,i',b1,g1,o?,g3⟩
theorem Tr: ∀(is:List qu)(b0:Nat),(∀(r:Nat)(x:Qo),(bt b0 is)[r]? =some x->l[b0+r]? =some x)-> ∀(j j' :Nat)(y y' :qu),j<j' ->(mm a b c s b0 is)[j]? =some y->(mm a b c s b0 is)[j']? =some y' ->
  ∃(i i' :qu)(b1 b2:Nat),b0<=b1/\b1<b2/\s b1≠1/\s b2≠1/\y=XQ a b c s b1 i/\y' =XQ a b c s b2 i' /\l[b1]? =some (i.span.qO,i.span.to,-1)/\l[b2]? =some (i'.span.qO,i'.span.to,-1):=by intro is;induction is with|nil=>intro b0 _ j j' y y' _ h;simp[mm]at h|cons i is ih=>(intro b0 hl j j' y y' hj h h';have hL:=iK b0 i;have h1:l[b0]? =some (i.span.qO,i.span.to,-1):=by simpa using hl 0 _ (by rw[bt,t? o?];rfl));(have h2: ∀(r:Nat)(x:Qo),(bt (b0+1+i.stops.l.length) is)[r]? =some x->l[b0+1+i.stops.l.length+r]? =some x:=by intro r x hx;have:=hl (1+i.stops.l.length+r) x (by rw[bt,J? o?,hL,show 1+i.stops.l.length+r-(1+i.stops.l.length)=r by omega];exact hx);rwa[show b0+(1+i.stops.l.length+r)=b0+1+i.stops.l.length+r by omega]at this);rw[mm]at h h';split at h;rename_i e;rw[if_pos e]at h';obtain⟨i1,i2,b1,b2,g1,g⟩:=ih (b0+1+i.stops.l.length) h2 j j' y y' hj h h';exact⟨i1,i2,b1,b2,o?,g⟩;rename_i e;rw[if_neg e]at h';obtain⟨j',rfl⟩: ∃q,j' =q+1:=⟨j' -1,o?⟩;simp only[i?]at h';cases j with|zero=>simp only[a?,wd]at h;obtain⟨k,i',b2,g1,g2,g3,g4,g5⟩:=XR is (b0+1+i.stops.l.length) h2 j' y' h';exact⟨i,i',b0,b2,ju _,o?,e,g3,h.symm,g4,h1,by simpa using g5 0 _ rfl⟩|succ j=>simp only[i?]at h;obtain⟨i1,i2,b1,b2,g1,g⟩:=ih (b0+1+i.stops.l.length) h2 j j' y y' o? h h';exact⟨i1,i2,b1,b2,o?,g⟩
include hR hH hS ha eH hb hc in
theorem FF{is:List qu}(hl:l=bt 0 is)(hm:dv is n):dv (mm a b c s 0 is) (n+(c-(b-a))):=by
 have hg: ∀(r:Nat)(x:Qo),(bt 0 is)[r]? =some x->l[0+r]? =some x:=fun r x h=>by rw[hl,O?];exact h
 constructor;intro j y hy;obtain⟨k,i,b1,g1,_,g3,rfl,g5⟩:=XR is 0 hg j y hy;exact LZ hR hH hS ha eH hb hc g5 (hm.may k i g1) g3;intro j j' y y' hj hy L6;obtain⟨i,i',b1,b2,_,g2,g3,g4,rfl,rfl,g7,g8⟩:=Tr is 0 hg j j' y y' hj hy L6;have e1:=eC g7;have e2:=eC g8;have hb2:=(qL g8).1;show(Tt a b c (s b1) i.span).to<=(Tt a b c (s b2) i'.span).qO;rw[Tv _ _ _ e1.2.1,Tu _ _ _ e2.1];exact Uu hR hH hS eH hc hb2 g4 g2 g3 (by rw[e1.2.2,e2.2.2])
end
end Xr
def qM{α:Type}(o:Option α)(Q:α->Prop):Prop:= ∃r,o=some r/\Q r
theorem qM.ret{α:Type}{a:α}{Q:α->Prop}(h:Q a):qM (some a) Q:=⟨a,rfl,h⟩
theorem qM.bind{α β:Type}{o:Option α}{f:α->Option β}{P:α->Prop}{Q:β->Prop}(h:qM o P)(k: ∀x,P x->qM (f x) Q):qM (o>>=f) Q:=by obtain⟨x,rfl,hx⟩:=h;exact k x hx
theorem qM.go{α β:Type}{o:Option α}{f:α->Option β}{a:α}{Q:β->Prop}(h:o=some a)(k:qM (f a) Q):qM (o>>=f) Q:=by subst h;exact k
theorem qM.ite{α:Type}{c:Prop}[Decidable c]{a b:Option α}{Q:α->Prop}(h1:c->qM a Q)(h2: ¬c->qM b Q):qM (if c then a else b) Q:=by split;exact h1 (by assumption);exact h2 (by assumption)
theorem qM.zE{α:Type}{c:Prop}[Decidable c]{a:Option α}{Q:α->Prop}(hc:c)(h:qM a Q):qM (if c then a else none) Q:=by rw[if_pos hc];exact h
theorem qM.mono{α:Type}{o:Option α}{P Q:α->Prop}(h:qM o P)(k: ∀x,P x->Q x):qM o Q:=by obtain⟨x,h1,h2⟩:=h;exact⟨x,h1,k x h2⟩
theorem qM.get{α:Type}{l:List α}{i:Int}(h1:0<=i:=by omega)(h2:i<(l.length:Int):=by omega):qM (qh l i) (fun x=>l[i.toNat]? =some x/\x∈l):=by have h3:i.toNat<l.length:=o?;refine⟨l[i.toNat], ?_,by simp[h3],List.getElem_mem h3⟩;unfold qh;rw[if_pos h1];simp[h3]
theorem qM.kH{α:Type}{l:List α}{lo hi:Int}(h1:0<=lo:=by omega)(h2:lo<=hi:=by omega)(h3:hi<=(l.length:Int):=by omega):qM (Gm.kH l lo hi) (fun r=>r=(l.take hi.toNat).drop lo.toNat/\(r.length:Int)=hi-lo):=by refine⟨(l.take hi.toNat).drop lo.toNat, ?_,rfl, ?_⟩;unfold Gm.kH;rw[if_pos ⟨⟨h1,o?⟩,o?,o?⟩];simp only[List.length_drop,List.length_take];omega
theorem qM.mj{α:Type}{l:List α}{lo:Int}(h1:0<=lo:=by omega)(h2:lo<=(l.length:Int):=by omega):qM (Gm.mj l lo) (fun r=>r=l.drop lo.toNat/\(r.length:Int)=l.length-lo):=by refine⟨l.drop lo.toNat, ?_,rfl, ?_⟩;unfold Gm.mj;rw[if_pos ⟨h1,o?⟩];simp only[List.length_drop];omega
theorem qM.we{α:Type}{l:List α}{hi:Int}(h1:0<=hi:=by omega)(h2:hi<=(l.length:Int):=by omega):qM (Gm.we l hi) (fun r=>r=l.take hi.toNat/\(r.length:Int)=hi):=by refine⟨l.take hi.toNat, ?_,rfl, ?_⟩;unfold Gm.we;rw[if_pos ⟨h1,o?⟩];simp only[List.length_take];omega
theorem qH{n k:Nat}(h:n<=2^30:=by omega)(hk:k<=2^16:=by omega):qi n k=true:=by have h1:n*k<=2^30*2^16:=Nat.mul_le_mul h hk;unfold qi;simp only[zU,decide_eq_true_eq];refine⟨⟨by simpa using h1,o?⟩,o?⟩
theorem xU{n:Int}(h1:0<=n)(h2:n<=255):R?.wrap n=n:=IntWalk.u8_in n ⟨h1,h2⟩
theorem ge0{a b:Int}:(a>=b)=(b<=a):=rfl
theorem gt0{a b:Int}:(a>b)=(b<a):=rfl
def tfx:=PLift.up (g? @decide_eq_true_eq (g? @zU (g? @Bool.or_eq_true (g? @O! (g? @Bool.not_eq_true (g? @Bool.and_eq_false_iff (g? @Bool.or_eq_false_iff (g? @decide_eq_false_iff_not
 (g? @beq_iff_eq.{0} (g? @bne_iff_ne.{0} (g? @beq_eq_false_iff_ne.{0} (g? @bne_eq_false_iff_eq.{0} (g? @not_and (g? @not_or (g? @ge0 (g? @gt0 (g? @Bool.not_eq_false' (g? @Bool.not_eq_false (g? @Int.not_lt (g? @Int.not_le
 (g? @ne_eq.{1} @q1y)))))))))))))))))))))
def BN:Nat:=8192
theorem qM.tI{α:Type}{c:Prop}[Decidable c]{a b:Option α}{Q:α->Prop}{p n:Prop}(f:p->qM a Q)(g:n->qM b Q)
  (hp:c->p:=by(intro hT;(try simp(disch:=omega) only[tfx.down,qB,xU]at hT);exact hT)) (hn: ¬c->n:=by(intro hT;(try simp(disch:=omega) only[tfx.down,qB,xU]at hT);exact hT)):qM (if c then a else b) Q:=
 qM.ite (fun h=>f (hp h)) (fun h=>g (hn h))
theorem tW{P:Prop}(h:P:=by
 (try intros)
 (try simp only[BN]at *)
 repeat' (first
  |refine qM.zE (qH (by first|omega|grind) (by omega)) ?_
  |refine qM.zE (by (try simp only[Bool.and_eq_true,decide_eq_true_eq,List.length_append,List.length_cons,List.length_nil]);first|omega|grind) ?_
  |(refine qM.tI ?_ ?_<;>intro _)
  |(rw [qB];rotate_left;(first|omega|grind);(first|omega|grind))
  |(rw [xU];rotate_left;(first|omega|grind);(first|omega|grind))
  |refine qM.bind (qM.get (by first|omega|grind) (by first|omega|grind)) fun _ _=>?_
  |refine qM.bind (qM.kH (by first|omega|grind) (by first|omega|grind) (by first|omega|grind)) fun _ _=>?_
  |refine qM.bind (qM.we (by first|omega|grind) (by first|omega|grind)) fun _ _=>?_
  |refine qM.bind (qM.mj (by first|omega|grind) (by first|omega|grind)) fun _ _=>?_
  |refine qM.bind (by (apply_assumption;(try any_goals rfl);all_goals (first|assumption|omega|grind))) fun _ _=>?_
  |refine .ret ?_
  |(refine qM.mono (by (apply_assumption;(try any_goals rfl);all_goals (first|assumption|omega|grind))) ?_;intros)
  |(rintro _ ⟨⟩))
 all_goals (first|omega|(simp only[List.length_append,List.length_cons,List.length_nil]at *; first|omega|grind)|grind|((repeat' (refine And.intro ?_ ?_))<;>first|rfl|omega|(simp only[List.length_append,List.length_cons,List.length_nil]at *; omega)|grind)|(split<;>refine .ret ?_<;>first|omega|grind))):P:=h
theorem nZ(c:UInt8):qM (kT c) (fun v=>v=true->48<=c.toNat/\c.toNat<=57):=by unfold kT;refine .tI ?_ ?_<;>intro hT;exact .ret v?;exact .ret z?
theorem tK(c:UInt8):qM (vt c) (fun _=>True):=by unfold vt;refine .tI ?_ ?_<;>intro hT;exact .ret trivial;refine .tI ?_ ?_<;>intro hT;exact .ret trivial;exact .ret trivial
theorem Y2(s:qa)(hs:s.length<=BN)(qo:Int)(ha:0<=qo)(ay:qo<=s.length): ∀(m:Nat)(n e:Int),m=(s.length-e).toNat->qo<=e->e<=s.length->0<=n->
  (e=qo/\n<1\/e=qo+1/\n<10\/e=qo+2/\n<100\/e=qo+3/\n<1000\/e=qo+4/\n<10000)->
  qM (hQ (s,qo,n,e)) (fun r=>0<=r.1/\r.1<=9999/\e<=r.2/\r.2<=s.length):=by unfold BN at hs;intro m;induction m using r? with|_ m ih=>intro n e hm h1 h2 h4 h5;rw[hQ.eq_1];refine .tI ?_ ?_<;>intro hT;{(repeat (first|(rw [qB];rotate_left;omega;omega)|(rw [xU];rotate_left;omega;omega)));refine .bind .get fun b hb=>?_;refine .bind (nZ b) fun v hv=>?_;refine .tI ?_ ?_<;>intro hT;{have ZQ:=hT;have Ei:=hv ZQ;(try simp(disch:=omega) only[qB,xU]);exact(ih _ o? _ _ rfl o? o? o? o?).mono fun r hr=>o?};exact .ret u?};exact .ret u?
theorem fh(s:qa)(hs:s.length<=BN)(qo:Int)(ha:0<=qo)(ay:qo<=s.length):
  qM (nk s qo) (fun r=>0<=r.1/\r.1<=9999/\(r.2.2=true->qo<r.2.1/\r.2.1<=s.length)):=by unfold nk;refine .bind (Y2 s hs qo ha ay _ 0 qo rfl o? ay o? o?) fun v hv=>?_;refine .tI ?_ ?_<;>intro hT;exact .ret z?;refine .tI ?_ ?_<;>intro hT;refine .bind .get fun b hb=>?_;refine .bind (nZ b) fun w hw=>?_;refine .tI ?_ ?_<;>intro hT;exact .ret z?;exact .ret ⟨hv.1,hv.2.1,fun _=>u?⟩;exact .ret ⟨hv.1,hv.2.1,fun _=>u?⟩
theorem NC(s:qa)(hs:s.length<=BN): ∀(m:Nat)(i:Int),m=(s.length-i).toNat->0<=i->qM (jd (s,i)) (fun _=>True):=by unfold BN at hs;intro m;induction m using r? with|_ m ih=>intro i hm h1;rw[jd.eq_1];refine .tI ?_ ?_<;>intro hT;{(repeat (first|(rw [qB];rotate_left;omega;omega)|(rw [xU];rotate_left;omega;omega)));refine .bind .get fun b hb=>?_;refine .bind (tK b) fun v hv=>?_;have h:=ih _ o? (i+1) rfl o?;refine .tI ?_ ?_<;>intro hT;refine .tI ?_ ?_<;>intro hT;refine .tI ?_ ?_<;>intro hT;exact .ret trivial;refine .bind (nZ b) fun w hw=>?_;refine .tI ?_ ?_<;>intro hT;exact .ret trivial;exact h;exact h;exact h};exact .ret trivial
theorem WI(s:qa)(hs:s.length<=BN):qM (jw s) (fun _=>True):=by unfold jw;refine .tI ?_ ?_<;>intro hT;exact .ret trivial;refine .bind (NC s hs _ 0 rfl o?) fun v hv=>?_;rcases v with v|v<;>exact .ret trivial
theorem G2(s:qa)(hs:s.length<=BN)(w:List qA)(es:List Int)(qo:Int)(ha:0<=qo): ∀(m:Nat)(e:Int),m=(s.length-e).toNat->qo<=e->e<=s.length->
  qM (jh (qo,e,s,w,es)) (fun r=>e<=r/\r<=s.length):=by unfold BN at hs;intro m;induction m using r? with|_ m ih=>intro e hm h1 h2;rw[jh.eq_1];refine .tI ?_ ?_<;>intro hT;{(repeat (first|(rw [qB];rotate_left;omega;omega)|(rw [xU];rotate_left;omega;omega)));refine .bind .get fun b hb=>?_;refine .bind (tK b) fun v hv=>?_;have h:=(ih _ o? (e+1) rfl o? o?).mono (Q:=fun r=>e<=r/\r<=s.length) fun r hr=>o?;refine .tI ?_ ?_<;>intro hT;exact h;refine .tI ?_ ?_<;>intro hT;exact h;refine .tI ?_ ?_<;>intro hT;refine .bind (nZ b) fun w hw=>?_;refine .tI ?_ ?_<;>intro hT;exact h;exact .ret o?;exact .ret o?};exact .ret o?
theorem Ax(s:qa)(hs:s.length<=BN)(w:List qA)(es:List Int)(qo:Int)(ha:0<=qo)(ay:qo<=s.length):
  qM (gx qo s w es) (fun r=>qo<=r.2.1/\r.2.1<=s.length/\(r.1.length:Int)=r.2.1-qo/\(r.2.2=true->qo<r.2.1)):=by unfold gx;refine .bind (G2 s hs w es qo ha _ qo rfl o? ay) fun v hv=>?_;refine .bind (qM.kH ha hv.1 hv.2) fun x hx=>?_;have hn:=WI x o?;by_cases he:x.length=0;(have:x=[]:=by simpa using he);subst this;refine .bind (o:=jw []) (P:=fun w=>w=false) ⟨false,by unfold jw;simp,rfl⟩ fun w hw=>?_;subst hw;exact .ret ⟨hv.1,hv.2,hx.2,z?⟩;refine .bind hn fun w hw=>?_;exact .ret ⟨hv.1,hv.2,hx.2,fun _=>u?⟩
namespace Xr
theorem gi{α:Type}{l:List α}{k:Nat}{x:α}(h:l[k]? =some x):qh l (k:Int)=some x:=by have hk:=(qL h).1;rw[xk hk];rw[wK hk]at h;exact h
theorem gl{α:Type}{l:List α}{k:Nat}(h:k<l.length): ∃x,l[k]? =some x:=⟨l[k],wK h⟩
theorem ws{k:Nat}(h:k<2^60):q?.wrap ((k:Int)+1)=((k+1:Nat):Int):=px o?
def xx(a b:qk):Prop:=b.qO<=a.qO/\a.to<=b.to
instance(a b:qk):Decidable (xx a b):=by unfold xx;infer_instance
theorem iT(a b:qk):xr a b=some (decide (xx a b)):=by unfold xr xx;by_cases h:b.qO<=a.qO;rw[if_pos (by simpa using h)];simp[h];rw[if_neg (by simpa using h)];simp[h]
theorem zH{α:Type}{l:List α}{k:Nat}{x:α}{r:List α}(h:l.drop k=x::r):l[k]? =some x/\l.drop (k+1)=r/\k<l.length:=by
 have hk:k<l.length:=by rcases Nat.lt_or_ge k l.length with h1|h1;exact h1;rw[List.drop_eq_nil_of_le h1]at h;cases h
 rw[List.drop_eq_getElem_cons hk]at h;simp only[List.cons.injEq]at h;exact⟨by rw[wK hk,h.1],h.2,hk⟩
theorem zt{α:Type}{l:List α}{k:Nat}(h:l.drop k=[]):l.length<=k:=by simpa using h
def isN(n:Int)(x:qt):Bool:= !x.qQ&&x.n==n
def ec(n:Int)(l:List qt):List qk:=(l.filter (isN n)).map (·.span)
def vS(n:Int)(is:List qu):List qk:=is.flatMap fun i=>ec n i.stops.l
def many(is:List qu):Nat:=(is.map fun i=>i.stops.l.length).sum
theorem J1(n:Int)(l:List qt):(ec n l).length<=l.length:=by unfold ec;rw[List.length_map];exact List.length_filter_le _ _
theorem spans_L2(n:Int)(is:Sl qu)(a:Nat)(i:qu)(hi:is.l[a]? =some i)(hl:i.stops.l.length<=2^20): ∀(r:List qt)(k:Nat)(out:List qk),i.stops.l.drop k=r->out.length+r.length<=2^29->
  wC (n,is,(a:Int),(k:Int),out)=some (out++ec n r):=by intro r;induction r with|nil=>intro k out h _;have:=zt h;rw[wC.eq_1,gi hi];simp only[zP,qV];rw[if_neg v?];simp[ec]|cons x r ih=>intro k out h ho;obtain⟨h1,h2,h3⟩:=zH h;simp only[b?]at ho;rw[wC.eq_1,gi hi];simp only[zP,qV];rw[if_pos v?,gi h1,ws o?];simp only[qV];have e1:=ih (k+1) out h2 o?;have e2:=ih (k+1) (out++[x.span]) h2 v?;generalize ((k+1:Nat):Int)=q at e1 e2 |-;cases ht:x.qQ with|true=>simp[e1,ec,isN,ht]|false=>by_cases hn:x.n=n;simp[e2,ec,isN,ht,hn,qH (show out.length+1<=2^30 by omega) (show 16<=2^16 by omega)];simp[e1,ec,isN,ht,hn]
theorem spans_L0(n:Int)(is:Sl qu)(hb: ∀i∈is.l,i.stops.l.length<=2^20)(hL:is.l.length<=2^20): ∀(r:List qu)(a:Nat)(out:List qk),is.l.drop a=r->out.length+many r<=2^29->
  uE (n,is,(a:Int),out)=some (out++vS n r):=by intro r;induction r with|nil=>intro a out h _;have:=zt h;rw[uE.eq_1,if_neg v?];simp[vS]|cons i r ih=>intro a out h ho;obtain⟨h1,h2,h3⟩:=zH h;have hi:=zc h1;simp only[many,d?,u!]at ho;have hs:=J1 n i.stops.l;rw[uE.eq_1,if_pos v?,show(0:Int)=((0:Nat):Int)from rfl,spans_L2 n is a i h1 (hb i hi) i.stops.l 0 out rfl o?,ws o?];simp only[zP,qV];rw[ih (a+1) _ h2 (by simp only[many,s?];omega)];simp[vS]
theorem Qc{is:List qu}{B:Nat}(h: ∀i∈is,i.stops.l.length<=B):many is<=is.length*B:=by induction is with|nil=>simp[many]|cons i is ih=>have h1:=h i z?;have h2:=ih fun j hj=>h j (by simp[hj]);simp only[many,d?,u!,b?]at*;rw[B?];omega
theorem Xd(n:Int)(is:Sl qu)(hb: ∀i∈is.l,i.stops.l.length<=2^12)(hL:is.l.length<=2^12):wJ n is=some ⟨(vS n is.l).isEmpty,vS n is.l⟩:=by have h1:=Qc hb;have h2:is.l.length*2^12<=2^12*2^12:=H_ hL (ju _);unfold wJ;rw[show (0:Int)=((0:Nat):Int)from rfl,spans_L0 n is (fun i hi=>by have:=hb i hi;omega) o? is.l 0 [] rfl v?];simp
theorem SI(s:qk)(l:Sl qk)(hL:l.l.length<2^60): ∀(r:List qk)(k:Nat),l.l.drop k=r->gZ (l,(k:Int),s)=some (if r.any (fun p=>decide (xx s p))=true then .inl true else .inr ()):=by intro r;induction r with|nil=>intro k h;have:=zt h;rw[gZ.eq_1,if_neg v?];simp|cons p r ih=>intro k h;obtain⟨h1,h2,h3⟩:=zH h;rw[gZ.eq_1,if_pos v?,gi h1,ws o?];simp only[zP,qV,iT,ih (k+1) h2];by_cases e:xx s p<;>simp[e]
def eu(s:qk)(l:List qk):Prop:= ∃p∈l,xx s p
theorem lies_ok(s:qk)(l:Sl qk)(hL:l.l.length<2^60): ∃t:Bool,gY s l=some t/\(t=true↔eu s l.l):=by unfold gY;rw[show (0:Int)=((0:Nat):Int)from rfl,SI s l hL l.l 0 rfl];simp only[zP,qV,eu];cases h:l.l.any (fun p=>decide (xx s p))with|true=>exact⟨true,rfl,by simpa using h⟩|false=>exact⟨false,rfl,by simpa using h⟩
def Kx(s:qc)(qo:qk)(a k:Int):Prop:= ∃(a' k' :Nat)(i:qu)(x:qt),a=a' /\k=k' /\s.insts.l[a']? =some i/\i.stops.l[k']? =some x/\x.n=s.cur/\x.qQ=false/\xx qo x.span
theorem owner_L2(s:qc)(qo:qk)(a:Nat)(i:qu)(hi:s.insts.l[a]? =some i)(hl:i.stops.l.length<2^60): ∀(r:List qt)(k:Nat),i.stops.l.drop k=r->
  qM (vN ((a:Int),(k:Int),s,qo)) (fun v=>v= .inr ()\/ ∃j,v= .inl j/\Kx s qo a j):=by intro r;induction r with|nil=>intro k h;have:=zt h;rw[vN.eq_1,gi hi];simp only[zP,qV];rw[if_neg v?];exact .ret (.inl rfl)|cons x r ih=>intro k h;obtain⟨h1,h2,h3⟩:=zH h;rw[vN.eq_1,gi hi];simp only[zP,qV];rw[if_pos v?,gi h1,ws o?];simp only[qV,iT];have hr:=ih (k+1) h2;by_cases e:((x.n==s.cur)&&(!x.qQ))=true;rw[if_pos e];simp only[zU,beq_iff_eq,O!]at e;by_cases w:xx qo x.span;rw[if_pos (by simpa using w)];exact .ret (.inr ⟨_,rfl,a,k,i,x,rfl,rfl,hi,h1,e.1,e.2,w⟩);rw[if_neg (by simpa using w)];exact hr;rw[if_neg e];exact hr
def jH(s:qc):Prop:=s.insts.l.length<=2^12/\ ∀i∈s.insts.l,i.stops.l.length<=2^12
theorem owner_L0(s:qc)(qo:qk)(hs:jH s): ∀(r:List qu)(a:Nat),s.insts.l.drop a=r->
  qM (uH ((a:Int),s,qo)) (fun v=>v= .inr ()\/ ∃j k,v= .inl (j,k)/\Kx s qo j k):=by intro r;have mF:=hs.1;induction r with|nil=>intro a h;have:=zt h;rw[uH.eq_1,if_neg v?];exact .ret (.inl rfl)|cons i r ih=>intro a h;obtain⟨h1,h2,h3⟩:=zH h;have hi:=hs.2 i (zc h1);rw[uH.eq_1,if_pos v?,ws o?];refine .bind (owner_L2 s qo a i h1 o? i.stops.l 0 rfl) fun v hv=>?_;rcases hv with rfl|⟨j,rfl,hj⟩;exact ih (a+1) h2;exact .ret (.inr ⟨_,_,rfl,hj⟩)
theorem XZ(s:qc)(qo:qk)(hs:jH s):qM (gB s qo) (fun v=>v=(-1,-1)\/Kx s qo v.1 v.2):=by unfold gB;refine .bind (owner_L0 s qo hs s.insts.l 0 rfl) fun v hv=>?_;rcases hv with rfl|⟨j,k,rfl,hj⟩;exact .ret (.inl rfl);exact .ret (.inr hj)
theorem Kx.nat{s:qc}{qo:qk}{a k:Int}(h:Kx s qo a k):0<=a/\0<=k:=by obtain⟨a',k',_,_,rfl,rfl,_⟩:=h;omega
theorem stays_L0(s:qc)(es:Sl qz)(hs:jH s)(he:es.l.length<2^60): ∀(r:List qz)(k:Nat),es.l.drop k=r->
  qM (uI (es,(k:Int),s)) (fun v=>(∃ b,v= .inl b/\b=false)\/v= .inr ()/\ ∀e∈r,∃ a k,gB s e.span=some (a,k)/\Kx s e.span a k):=by intro r;induction r with|nil=>intro k h;have:=zt h;rw[uI.eq_1,if_neg v?];exact .ret (.inr ⟨rfl,z?⟩)|cons e r ih=>intro k h;obtain⟨h1,h2,h3⟩:=zH h;rw[uI.eq_1,if_pos v?,gi h1,ws o?];obtain⟨v,hv,hq⟩:=XZ s e.span hs;refine .go rfl ?_;refine .go hv ?_;rcases hq with rfl|hq;rw[if_pos (by decide)];exact .ret (.inl ⟨_,rfl,rfl⟩);have:=hq.nat;rw[if_neg v?];refine(ih (k+1) h2).mono fun w hw=>?_;rcases hw with hw|⟨h4,h5⟩;exact .inl hw;refine .inr ⟨h4,fun e' VU=>?_⟩;rcases List.mem_cons.1 VU with rfl|VU;exact⟨_,_,hv,hq⟩;exact h5 e' VU
theorem AO(s:qc)(es:Sl qz)(hs:jH s)(he:es.l.length<2^60):qM (cU s es) (fun b=>b=true-> ∀e∈es.l,∃ a k,gB s e.span=some (a,k)/\Kx s e.span a k):=by unfold cU;refine .bind (stays_L0 s es hs he es.l 0 rfl) fun v hv=>?_;rcases hv with ⟨b,rfl,rfl⟩|⟨rfl,hv⟩;exact .ret z?;exact .ret fun _=>hv
end Xr
namespace Xr
abbrev TS:=qE
def strOf(x:TS):Qo:=(x.span.qO,x.span.to,x.up)
structure bU (e:qz) (n:Int):Prop where
 a0:0<=e.span.qO
 ab:e.span.qO<=e.span.to
 bn:e.span.to<=n
 len:(e.text.length:Int)<=2^40
 nn:n<=2^40
theorem TC(e:qz)(n:Int)(he:bU e n)(qo:Int)(h0:0<=qo)(h1:qo<=n)(right:Bool):aa qo right e=some (mv e.span.qO e.span.to e.text.length right qo):=by
 have:=he.a0;have:=he.ab;have:=he.bn;have:=he.len;have:=he.nn;unfold aa mv;rw[qB (n:=qo+(e.text.length:Int)) o? o?,qB (n:=e.span.to-e.span.qO) o? o?,qB (n:=e.span.qO+(e.text.length:Int)) o? o?,
  qB (n:=qo+(e.text.length:Int)-(e.span.to-e.span.qO)) o? o?]
 by_cases h2:qo<e.span.qO;simp[h2];by_cases h3:qo>e.span.to;simp[h2,h3];omega;cases right<;>simp[h2,h3]
theorem NB(e:qz)(n:Int)(he:bU e n)(p:qk)(h0:0<=p.qO)(h1:p.qO<=p.to)(h2:p.to<=n)(side:Int):rj p side e=some (Tt e.span.qO e.span.to e.text.length side p):=by
 have:=he.a0;have:=he.ab;have:=he.bn;have:=he.len;have:=he.nn;unfold rj Tt;by_cases h:side=0;rw[qB (n:=p.to+(e.text.length:Int)) o? o?,qB (n:=e.span.to-e.span.qO) o? o?,qB (n:=p.to+(e.text.length:Int)-(e.span.to-e.span.qO)) o? o?];simp[h];omega;rw[if_neg (by simpa using h),TC e n he p.qO o? o?,TC e n he p.to o? o?,if_neg h];have:(side==3)=decide (side=3):=by by_cases h:side=3<;>simp[h]
 rw[this];rfl
theorem row_L2(s:qc)(a:Nat)(i:qu)(hi:s.insts.l[a]? =some i)(b:Nat)(hb:b<=2^26)(hl:i.stops.l.length<=2^12)(hu: ∀x∈i.stops.l,-1<=x.up/\x.up<=2^20)(z:List TS):
  ∀(r:List qt)(k:Nat)(l:List TS),i.stops.l.drop k=r->l.length+r.length<=2^29->
  ∃m:List TS,ny ((a:Int),(b:Int),(k:Int),s,l,z)=some (l++m)/\m.map strOf=r.map (fun x=>(x.span.qO,x.span.to,(b:Int)+1+x.up)):=by intro r;induction r with|nil=>intro k l h _;have:=zt h;rw[ny.eq_1,gi hi];simp only[zP,qV];rw[if_neg v?];exact⟨[],z?,rfl⟩|cons x r ih=>intro k l h hL;obtain⟨h1,h2,h3⟩:=zH h;have hx:=hu x (zc h1);simp only[b?]at hL;rw[ny.eq_1,gi hi];simp only[zP,qV];rw[if_pos v?,gi h1,ws o?];simp only[qV];rw[qB (n:=(b:Int)+1) o? o?,qB (n:=(b:Int)+1+x.up) o? o?];rw[if_pos qH];obtain⟨m,e1,e2⟩:=ih (k+1) (l++[qE.mk x.span ((b:Int)+1+x.up)]) h2 v?;exact⟨qE.mk x.span ((b:Int)+1+x.up)::m,by rw[e1];simp,by simp[e2,strOf]⟩
theorem row_L0(s:qc)(hs:jH s)(hu: ∀i∈s.insts.l,∀ x∈i.stops.l,-1<=x.up/\x.up<=2^20): ∀(r:List qu)(a:Nat)(l:List TS),s.insts.l.drop a=r->l.length+r.length+many r<=2^25->
  ∃m:List TS,nw ((a:Int),s,l)=some (l++m)/\m.map strOf=bt l.length r:=by intro r;have mF:=hs.1;induction r with|nil=>intro a l h _;have:=zt h;rw[nw.eq_1,if_neg v?];exact⟨[],z?,rfl⟩|cons i r ih=>(intro a l h hL;obtain⟨h1,h2,h3⟩:=zH h;have sI:=zc h1;have hi:=hs.2 i sI;simp only[b?,many,d?,u!]at hL;rw[nw.eq_1,if_pos v?,gi h1,ws o?];simp only[zP,qV];rw[if_pos qH];obtain⟨m,e1,e2⟩:=row_L2 s a i h1 l.length o? hi (hu i sI) [qE.mk i.span (-1)] i.stops.l 0 (l++[qE.mk i.span (-1)]) rfl v?;rw[show ((0:Nat):Int)=0 from rfl]at e1;rw[e1];simp only[qV];have Wi:m.length=i.stops.l.length:=by simpa using congrArg List.length e2);obtain⟨m2,f1,f2⟩:=ih (a+1) (l++[qE.mk i.span (-1)]++m) h2 (by simp only[many,s?,y!];omega);refine⟨qE.mk i.span (-1)::(m++m2),by rw[f1];simp, ?_⟩;simp only[d?,List.map_append,e2,f2,bt,aB,s?,y!,Wi,strOf,List.cons_append]
theorem row_ok(s:qc)(hs:jH s)(hu: ∀i∈s.insts.l,∀ x∈i.stops.l,-1<=x.up/\x.up<=2^20): ∃l:List TS,iB s=some ⟨l.isEmpty,l⟩/\l.map strOf=bt 0 s.insts.l:=by have h1:=Qc hs.2;have h2:s.insts.l.length*2^12<=2^12*2^12:=H_ hs.1 (ju _);have h3:=hs.1;obtain⟨m,e1,e2⟩:=row_L0 s hs hu s.insts.l 0 [] rfl v?;refine⟨m, ?_,by simpa using e2⟩;unfold iB;rw[show (0:Int)=((0:Nat):Int)from rfl,e1];simp
def zA(is:List qu)(a:Nat):Nat:=((is.take a).map fun i=>1+i.stops.l.length).sum
theorem NN(s:qc)(hs:jH s)(inst:Nat)(dm:inst<=s.insts.l.length): ∀(d a qo:Nat),a+d=inst->qo+d*(2^12+1)<=2^40->
  uK ((inst:Int),(qo:Int),(a:Int),s)=some ((qo+(zA s.insts.l inst-zA s.insts.l a):Nat):Int):=by have mF:=hs.1;intro d;induction d with|zero=>intro a qo h _;obtain rfl:a=inst:=o?;rw[uK.eq_1,if_neg z?];simp|succ d ih=>(intro a qo h hb;have YD:a<s.insts.l.length:=o?;have h1:s.insts.l[a]? =some s.insts.l[a]:=wK YD;have h2:=hs.2 _ (List.getElem_mem YD);generalize s.insts.l[a]=i at h1 h2;rw[B?]at hb;rw[uK.eq_1,if_pos v?,gi h1,ws (k:=a) o?];simp only[zP,qV];rw[qB (n:=(qo:Int)+1) o? o?,qB (n:=(qo:Int)+1+(i.stops.l.length:Int)) o? o?];rw[show (qo:Int)+1+(i.stops.l.length:Int)=((qo+1+i.stops.l.length:Nat):Int) by omega,ih (a+1) (qo+1+i.stops.l.length) o? o?];have Hd:zA s.insts.l (a+1)=zA s.insts.l a+(1+i.stops.l.length):=by unfold zA;rw[List.take_add_one,h1];simp);(have hb2:zA s.insts.l (a+1)<=zA s.insts.l inst:=by (unfold zA;have:(s.insts.l.take (a+1)).map (fun i=>1+i.stops.l.length)=((s.insts.l.take inst).map (fun i=>1+i.stops.l.length)).take (a+1):=by rw[<- List.map_take,List.take_take,Nat.min_eq_left o?]);rw[this];generalize (s.insts.l.take inst).map (fun i=>1+i.stops.l.length)=L;have:=List.take_append_drop (a+1) L;have h5:=congrArg List.sum this;rw[List.sum_append]at h5;omega);congr 2;omega
theorem NO(s:qc)(hs:jH s)(qo:qk)(a k:Int)(h:(a= -1/\k= -1)\/Kx s qo a k): ∃o:Int,mQ s a k=some o/\((a= -1/\o= -1)\/ ∃(a' k' :Nat),a=a' /\k=k' /\o=((zA s.insts.l a' +1+k' :Nat):Int)):=by
 unfold mQ;rcases h with ⟨rfl,rfl⟩|⟨a',k',i,x,rfl,rfl,h1,h2,_⟩;rw[if_pos z?];exact⟨-1,rfl,.inl ⟨rfl,rfl⟩⟩
 have YD:=(qL h1).1;have pd:=(qL h2).1;have mF:=hs.1;have Fj:=hs.2 i (zc h1);rw[if_neg v?,gi h1];simp only[zP,qV];rw[if_neg v?,ws o?,show(0:Int)=((0:Nat):Int)from rfl,NN s hs a' o? a' 0 (k' +1) o? (by
  have:a' *(2^12+1)<=2^12*(2^12+1):=H_ o? (ju _)
  omega)]
 refine⟨_,rfl,.inr ⟨a',k',rfl,rfl, ?_⟩⟩;have:zA s.insts.l 0=0:=by simp[zA]
 rw[this];congr 1;omega
end Xr
namespace Xr
inductive eL (U:Nat->Int) (c:Nat):Nat->Prop
 |self:eL U c c
 |up (x p:Nat):eL U c x->U x=p->eL U c p
theorem Yl{U:Nat->Int}{c r:Nat}(h:eL U c r):r=c\/ ∃p:Nat,U c=p/\eL U p r:=by induction h with|self=>exact .inl rfl|up x p hx hp ih=>rcases ih with rfl|⟨p0,h1,h2⟩;exact .inr ⟨p,hp,.self⟩;exact .inr ⟨p0,h1,.up x p h2 hp⟩
theorem Ym{U:Nat->Int}{c p r:Nat}(hp:U c=p)(h:eL U p r):eL U c r:=by induction h with|self=>exact .up c p .self hp|up x q _ hq ih=>exact .up x q ih hq
section
variable {m:Nat} {F W U:Nat->Int} {n:Int}
theorem Xw(hR:Row m F W U n){c q:Nat}(hc:c<m)(h:eL U c q):q<=c:=by induction h with|self=>exact ju _|up x p _ hp ih=>have:=hR.up x o?;omega
theorem Bp(hR:Row m F W U n){c q:Nat}(hc:c<m)(h:eL U c q): ∀y,q<y->y<=c->(q:Int)<=U y:=by induction h with|self=>intro y h1 h2;omega|up x p hx hp ih=>intro y h1 h2;have hxc:=Xw hR hc hx;have Fk:=hR.up x o?;rcases b_ y x with h3|h3|h3;have:=hR.pre x o? y h3 o?;omega;subst h3;omega;have:=ih y h3 h2;omega
theorem anc_has(hR:Row m F W U n){a b:Int}{c q:Nat}(hc:c<m)(hcc:F c<=a/\b<=W c)(h:eL U c q):F q<=a/\b<=W q:=by induction h with|self=>exact hcc|up x p hx hp ih=>have hxc:=Xw hR hc hx;have:=hR.nest x o? p hp;omega
def B3(F W:Nat->Int)(a b:Int)(r:Nat):Prop:=F r<a/\b<W r\/a<b/\F r<=a/\b<=W r
structure HI (m:Nat) (F W U:Nat->Int) (a b:Int) (o r:Nat) (h i:List Bool):Prop where
 hl:h.length=m
 il:i.length=m
 hs: ∀y,h[y]? =some true->eL U o y\/(o<y/\y<r/\(o:Int)<=U y/\(∀ p:Nat,U y=p->h[p]? =some true)/\B3 F W a b y)
 anc: ∀y,eL U o y->h[y]? =some true
 is: ∀y,i[y]? =some true->o<y
 hi: ∀y,h[y]? =some true->o<y->i[y]? =some true
 bw: ∀y,y<r->o<y->(o:Int)<=U y->(∀ p:Nat,U y=p->h[p]? =some true)->B3 F W a b y->h[y]? =some true
structure HE (m:Nat) (F W U:Nat->Int) (a b:Int) (o:Nat) (H:Nat->Prop):Prop where
 fw: ∀y,H y->eL U o y\/(o<y/\(o:Int)<=U y/\(∀ p:Nat,U y=p->H p)/\B3 F W a b y)
 anc: ∀y,eL U o y->H y
 bw: ∀y,y<m->o<y->(o:Int)<=U y->(∀ p:Nat,U y=p->H p)->B3 F W a b y->H y
theorem HI.hold(hR:Row m F W U n){a b:Int}{o:Nat}(ho:o<m)(Eh:F o<=a/\b<=W o)(eH:a<=b){h i:List Bool}{r:Nat}(H:HI m F W U a b o r h i):GZ m F W U (fun y=>h[y]? =some true) a b:=by refine⟨?_, ?_, ?_⟩;intro y hy h1 p hp;rcases H.hs y h1 with h2|⟨_,_,_,h2,_⟩;exact H.anc p (.up y p h2 hp);exact h2 p hp;intro y hy h1;rcases H.hs y h1 with h2|⟨_,_,_,_,h2⟩;exact anc_has hR ho Eh h2;unfold B3 at h2;omega;intro y hy q hqy hu h1 h2;rcases H.hs y h2 with h3|⟨h3,_,h4,_,h5⟩;have hyo:=Xw hR ho h3;rcases H.hs q h1 with g|⟨g,_⟩;have:=Bp hR ho g y hqy hyo;have:=hR.up q o?;omega;omega;have hq:=hR.up q o?;rcases H.hs q h1 with g|⟨_,_,_,_,g⟩;have:=Xw hR ho g;omega;have:=hR.Pb y hy q hqy hu;unfold B3 at h5 g;omega
end
theorem xM{α:Type}(l:List α)(k:Nat)(v:α)(j:Nat):(l.set k v)[j]? =if k=j/\j<l.length then some v else l[j]? :=by rw[List.getElem?_set];by_cases h:k=j;subst h;by_cases h2:k<l.length;simp[h2];simp[h2];simp[h]
section
variable (L:List TS) (e:qz) (deep:Bool) (ow:Int)
theorem hold_L0{n:Int}(hR:Row (L.map strOf).length (Io (L.map strOf)) (Iw (L.map strOf)) (Dd (L.map strOf)) n)(z:Bool)(i_:List Bool): ∀(c:Nat)(h:List Bool),c<L.length->h.length=L.length->
  ∃h' :List Bool,yW (⟨z,L⟩,ow,deep,(c:Int),e,h,i_)=some h' /\h'.length=L.length/\ ∀y,h'[y]? =some true↔h[y]? =some true\/eL (Dd (L.map strOf)) c y:=by intro c;induction c using Nat.strongRecOn with|_ c ih=>(intro h hc hl;have hx:L[c]? =some L[c]:=wK hc;generalize L[c]=x at hx;obtain⟨w,hw⟩:=gl (l:=h) (k:=c) o?;have hu:=hR.up c (by simpa using hc);have Fk:Dd (L.map strOf) c=x.up:=by (have:(L.map strOf)[c]? =some (strOf x):=by simp[hx]);rw[(eC this).2.2];rfl);(have pf: ∀y,(h.set c true)[y]? =some true↔h[y]? =some true\/y=c:=by intro y;rw[xM];by_cases e1:c=y;subst e1;simp[hl,hc];simp[e1];omega);rw[yW.eq_1,if_pos z?,gi hw,gi hx];simp only[zP,qV,Int.toNat_natCast];by_cases hp:0<=x.up;obtain⟨p,hp⟩: ∃p:Nat,x.up=p:=⟨x.up.toNat,o?⟩;obtain⟨h',g1,g2,g3⟩:=ih p o? (h.set c true) o? (by simp[hl]);refine⟨h',by rw[hp,g1],g2,fun y=>?_⟩;rw[g3,pf];constructor;rintro((k|rfl)|k);exact .inl k;exact .inr .self;exact .inr (Ym (by rw[Fk,hp]) k);rintro(k|k);exact .inl (.inl k);rcases Yl k with rfl|⟨q,hq,k⟩;exact .inl (.inr rfl);obtain rfl:q=p:=o?;exact .inr k;rw[yW.eq_1,if_neg (by simpa using hp)];refine⟨_,rfl,by simp[hl],fun y=>?_⟩;rw[pf];constructor;rintro(k|rfl);exact .inl k;exact .inr .self;rintro(k|k);exact .inl k;rcases Yl k with rfl|⟨q,hq,_⟩;exact .inr rfl;omega
def inW(o:Int)(x:TS)(i_:List Bool):Bool:=decide (0<=x.up)&&(decide (x.up=o) || (i_.getD x.up.toNat false))
def MK(e:qz)(x:TS):Bool:=(decide (x.span.qO<e.span.qO)&&decide (x.span.to>e.span.to)) || (decide (e.span.qO<e.span.to)&&decide (xx e.span x.span))
def Wj(o:Int)(e:qz)(x:TS)(h i_:List Bool):Bool:=inW o x i_&&(h.getD x.up.toNat false&&MK e x)
theorem Ff(z:Bool)(ho:0<=ow)(r:Nat)(x:TS)(hx:L[r]? =some x)(hr:r<2^60)(hu:x.up<(r:Nat))(h i_:List Bool)(hl:h.length=L.length)(hi:i_.length=L.length):
  qK (⟨z,L⟩,ow,true,(r:Int),e,h,i_)=qK (⟨z,L⟩,ow,true,((r+1:Nat):Int),e,h.set r (Wj ow e x h i_),i_.set r (inW ow x i_)):=by have Sx:=(qL hx).1;obtain⟨w1,Wp⟩:=gl (l:=h) (k:=r) o?;obtain⟨w2,MT⟩:=gl (l:=i_) (k:=r) o?;have gs: ∀v,qh (i_.set r v) (r:Int)=some v:=fun v=>gi (by rw[xM];simp[hi,Sx]);rw[qK.eq_1,if_pos (by simp[ho];omega),gi hx,ws hr,gi Wp,gi MT];simp only[zP,qV,gs,iT,X?];generalize ((r+1:Nat):Int)=q;by_cases c0:0<=x.up;(obtain⟨p,hp⟩: ∃p:Nat,x.up=p:=⟨x.up.toNat,o?⟩;obtain⟨hb,hhb⟩:=gl (l:=h) (k:=p) o?;obtain⟨ib,hib⟩:=gl (l:=i_) (k:=p) o?;have d1:h.getD x.up.toNat false=hb:=by rw[hp];simp[hhb]);(have d2:i_.getD x.up.toNat false=ib:=by rw[hp];simp[hib]);(have e1:qh h x.up=some hb:=by rw[hp];exact gi hhb);(have e2:qh i_ x.up=some ib:=by rw[hp];exact gi hib);simp only[Wj,inW,MK,d1,d2,e1,e2,qV];by_cases c1:x.up=ow<;>by_cases c2:x.span.qO<e.span.qO<;>by_cases c3:e.span.qO<e.span.to<;>by_cases c4:x.span.to>e.span.to<;>by_cases c5:xx e.span x.span<;>cases hb<;>cases ib<;>simp[c0,c1,c2,c3,c4,c5,ho];simp only[Wj,inW,c0,decide_false,Bool.false_and];by_cases c2:x.span.qO<e.span.qO<;>by_cases c3:e.span.qO<e.span.to<;>simp[c0,c2,c3]
end
end Xr
namespace Xr
abbrev FL(L:List TS):=Io (L.map strOf)
abbrev TL(L:List TS):=Iw (L.map strOf)
abbrev UL(L:List TS):=Dd (L.map strOf)
abbrev Is(L:List TS)(n:Int):=Row (L.map strOf).length (FL L) (TL L) (UL L) n
section
variable (L:List TS) (e:qz) {n:Int}
variable (hR:Is L n) (hLl:L.length<2^30)
theorem at_L{L:List TS}{r:Nat}{x:TS}(h:L[r]? =some x):FL L r=x.span.qO/\TL L r=x.span.to/\UL L r=x.up:=by
 have:(L.map strOf)[r]? =some (strOf x):=by simp[h]
 exact eC this
theorem HI.next(hR:Is L n)(he:bU e n){o r:Nat}(hor:o<r){x:TS}(hx:L[r]? =some x){h i_:List Bool}(H:HI L.length (FL L) (TL L) (UL L) e.span.qO e.span.to o r h i_):
  HI L.length (FL L) (TL L) (UL L) e.span.qO e.span.to o (r+1) (h.set r (Wj o e x h i_)) (i_.set r (inW o x i_)):=by
 have Sx:=(qL hx).1;obtain⟨a1,a2,a3⟩:=at_L hx;have hu:=hR.up r (by simpa using Sx);have hnot: ¬eL (UL L) o r:=fun k=>by have:=Xw hR (by simpa using(show o<L.length by omega)) k;omega
 have dm:inW o x i_=true->(o:Int)<=x.up:=by intro k;simp only[inW,zU,Bool.or_eq_true,decide_eq_true_eq]at k;rcases k.2 with k1|k1;omega;(have:i_[x.up.toNat]? =some true:=by cases h1:i_[x.up.toNat]? with|none=>simp[h1]at k1|some v=>simp[h1]at k1;rw[k1]);have:=H.is _ this;omega
 have eo:=H.il;have hhl:=H.hl;refine⟨by simp[H.hl],by simp[H.il], ?_, ?_, ?_, ?_, ?_⟩;intro y hy;rw[xM]at hy;split at hy;rename_i c;obtain⟨rfl,_⟩:=c;right;simp only[wd]at hy;simp only[Wj,zU]at hy;obtain⟨k1,k2,k3⟩:=hy;have k4:=dm k1;refine⟨hor,o?,o?, ?_, ?_⟩;(intro p hp;have hpx:x.up=p:=o?;have hpr:p<r:=o?;rw[xM,if_neg o?];rw[hpx]at k2;cases h1:h[p]? with|none=>simp[h1]at k2|some v=>simp[h1]at k2;rw[k2]);simp only[MK,Bool.or_eq_true,zU,decide_eq_true_eq]at k3;unfold xx at k3;unfold B3;rw[a1,a2];omega;rcases H.hs y hy with k|⟨k1,k2,k3,k4,k5⟩;exact .inl k;refine .inr ⟨k1,o?,k3,fun p hp=>?_,k5⟩;have:=k4 p hp;rw[xM];have dg:=(qL this).1;have Xj:=hR.up y (by simp;have:=(qL hy).1;have:=H.hl;omega);rw[if_neg o?];exact this;intro y hy;rw[xM,if_neg (fun c=>hnot (by rw[c.1];exact hy))];exact H.anc y hy;intro y hy;rw[xM]at hy;split at hy;rename_i c;omega;exact H.is y hy;intro y hy hoy;rw[xM]at hy |-;split at hy;rename_i c;obtain⟨rfl,_⟩:=c;simp only[wd,Wj,zU]at hy;rw[if_pos ⟨rfl,o?⟩,hy.1];rename_i c;rw[if_neg (fun c2=>c ⟨c2.1,o?⟩)];exact H.hi y hy hoy;intro y hyr hoy huy hp hw;have hpp: ∀p:Nat,UL L y=p->p<y->h[p]? =some true:=fun p h1 h2=>by have:=hp p h1;rwa[xM,if_neg o?]at this
 have hyu:=hR.up y v?;obtain⟨p,hpe⟩: ∃p:Nat,UL L y=p:=⟨(UL L y).toNat,o?⟩;have hpv:=hpp p hpe o?;by_cases c:y=r;(subst c;rw[xM,if_pos ⟨rfl,o?⟩];have hxp:x.up.toNat=p:=o?;have k1:inW o x i_=true:=by simp only[inW,zU,Bool.or_eq_true,decide_eq_true_eq];refine⟨o?, ?_⟩;by_cases c1:x.up=(o:Int);exact .inl c1;right;have:=H.hi p hpv o?;rw[hxp];simp[this]);(have k2:h.getD x.up.toNat false=true:=by rw[hxp];simp[hpv]);(have k3:MK e x=true:=by simp only[MK,Bool.or_eq_true,zU,decide_eq_true_eq];unfold B3 at hw;rw[a1,a2]at hw;unfold xx;omega);simp only[Wj,k1,k2,k3,Bool.and_self];rw[xM,if_neg o?];exact H.bw y o? hoy huy (fun p' h1=>hpp p' h1 o?) hw
include hR hLl in
theorem hold_L2(he:bU e n)(z:Bool)(o:Nat): ∀(d r:Nat)(h i_:List Bool),r+d=L.length->o<r->HI L.length (FL L) (TL L) (UL L) e.span.qO e.span.to o r h i_->
  ∃h' i',qK (⟨z,L⟩,(o:Int),true,(r:Int),e,h,i_)=some (h',i')/\HI L.length (FL L) (TL L) (UL L) e.span.qO e.span.to o L.length h' i' :=by intro d;induction d with|zero=>intro r h i_ hr _ H;obtain rfl:r=L.length:=o?;rw[qK.eq_1,if_neg z?];exact⟨h,i_,rfl,H⟩|succ d ih=>intro r h i_ hr hor H;obtain⟨x,hx⟩:=gl (l:=L) (k:=r) o?;have hu:=hR.up r v?;obtain⟨_,_,ha⟩:=at_L hx;rw[Ff L e (o:Int) z o? r x hx o? o? h i_ H.hl H.il];exact ih (r+1) _ _ o? o? (HI.next L e hR he hor hx H)
include hR hLl in
theorem hold_ok(he:bU e n)(z deep:Bool)(ow:Int)(ho:ow= -1\/ ∃o:Nat,ow=o/\o<L.length/\FL L o<=e.span.qO/\e.span.to<=TL L o):
  ∃h:List Bool,fV ⟨z,L⟩ ow e deep=some ⟨false,h⟩/\h.length=L.length/\GZ (L.map strOf).length (FL L) (TL L) (UL L) (fun y=>h[y]? =some true) e.span.qO e.span.to/\(∀ o:Nat,ow=o->h[o]? =some true)/\
   (ow= -1-> ∀y:Nat,h[y]? ≠some true)/\(deep=true-> ∀o:Nat,ow=o->HE L.length (FL L) (TL L) (UL L) e.span.qO e.span.to o (fun y=>h[y]? =some true)):=by
 have eH:=he.ab;have h0: ∀(k:Nat),(e? L.length false)[k]? ≠some true:=by
  intro k;rw[List.getElem?_replicate];split<;>simp
 unfold fV;rw[if_pos z?,if_pos (qH v? o?),if_pos z?,if_pos (qH v? o?)];simp only[X?];rcases ho with rfl|⟨o,rfl,Eg,hfo⟩
 ·rw[yW.eq_1,if_neg z?];simp only[zP,qV];rw[qK.eq_1,if_neg z?];refine⟨_,rfl,z?,⟨fun r hr hh=>absurd hh (h0 r),fun r hr hh=>absurd hh (h0 r),fun r hr q hq hu hh=>absurd hh (h0 q)⟩,fun o ho=>o?,fun _=>h0,fun _ o ho=>o?⟩
 obtain⟨h1,g1,g2,g3⟩:=hold_L0 L e deep (o:Int) hR z (e? L.length false) o (e? L.length false) Eg z?;rw[g1];simp only[zP,qV];have H:HI L.length (FL L) (TL L) (UL L) e.span.qO e.span.to o (o+1) h1 (e? L.length false):=by
  have ga: ∀y:Nat,h1[y]? =some true->eL (UL L) o y:=fun y hy=>((g3 y).1 hy).resolve_left (h0 y);refine⟨g2,z?,fun y hy=> .inl (ga y hy),fun y hy=>(g3 y).2 (.inr hy),fun y hy=>absurd hy (h0 y),fun y hy ho=>?_,fun y hy ho=>o?⟩;have:=Xw hR (by simpa using Eg) (ga y hy);omega
 have hol2:o<(L.map strOf).length:=by simpa using Eg
 cases deep with
 |false=>
  rw[qK.eq_1,if_neg z?];have:=HI.hold hR hol2 hfo eH (by simpa using H);exact⟨h1,rfl,g2,this,fun o' ho' =>by
   have e1:o=o' :=o?
   rw[<- e1]
   exact H.anc o .self,fun c=>o?,fun c=>by cases c⟩
 |true=>
  obtain⟨h',i',k1,k2⟩:=hold_L2 L e hR hLl he z o (L.length-(o+1)) (o+1) h1 _ o? o? H;rw[ws o?,k1];have:=HI.hold hR hol2 hfo eH (by simpa using k2);exact⟨h',rfl,k2.hl,this,fun o' ho' =>by
   have e1:o=o' :=o?
   rw[<- e1]
   exact k2.anc o .self,fun c=>o?,fun _ o' ho' =>by
   obtain rfl:o=o' :=o?
   exact⟨fun y hy=>(k2.hs y hy).imp id fun⟨a,_,c,d,e⟩=>⟨a,c,d,e⟩,k2.anc,fun y hy=>k2.bw y hy⟩⟩
theorem last_L0(z:Bool)(h:List Bool)(hl:h.length=L.length)(hLl:L.length<2^30): ∀(d r:Nat)(last:Int),r+d=L.length->((last= -1/\ ∀y,y<r->h[y]? ≠some true)\/ ∃q:Nat,last=q/\h[q]? =some true/\ ∀y,y<r->h[y]? =some true->y<=q)->
  ∃Lm:Int,vP (⟨z,L⟩,⟨false,h⟩,last,(r:Int),e)=some Lm/\((Lm= -1/\ ∀y:Nat,h[y]? ≠some true)\/ ∃q:Nat,Lm=q/\h[q]? =some true/\ ∀y:Nat,h[y]? =some true->y<=q):=by intro d;induction d with|zero=>(intro r last hr Ss;obtain rfl:r=L.length:=o?;rw[vP.eq_1,if_neg z?];have lt: ∀y:Nat,h[y]? =some true->y<L.length:=fun y hy=>by have:=(qL hy).1;omega);refine⟨last,rfl, ?_⟩;rcases Ss with ⟨k1,k2⟩|⟨q,k1,k2,k3⟩;exact .inl ⟨k1,fun y hy=>k2 y (lt y hy) hy⟩;exact .inr ⟨q,k1,k2,fun y hy=>k3 y (lt y hy) hy⟩|succ d ih=>intro r last hr Ss;obtain⟨w,hw⟩:=gl (l:=h) (k:=r) o?;rw[vP.eq_1,if_pos v?,gi hw,ws o?];simp only[zP,qV];cases w with|true=>rw[if_pos rfl];exact ih (r+1) (r:Int) o? (.inr ⟨r,rfl,hw,fun y hy _=>o?⟩)|false=>(rw[if_neg z?];refine ih (r+1) last o? ?_;have ne: ∀y:Nat,h[y]? =some true->y≠r:=fun y hy e=>by subst e;rw[hw]at hy;cases hy);rcases Ss with ⟨k1,k2⟩|⟨q,k1,k2,k3⟩;exact .inl ⟨k1,fun y hy h1=>k2 y (by have:=ne y h1;omega) h1⟩;exact .inr ⟨q,k1,k2,fun y hy h1=>k3 y (by have:=ne y h1;omega) h1⟩
def av(e:qz)(last:Int)(r:Nat)(x:TS)(h:List Bool)(out:List Int):Int:=
 if h.getD r false=true then 0
 else if 0<=x.up/\out.getD x.up.toNat 0=1 then 1
 else if x.span.qO<e.span.to/\e.span.qO<x.span.to then 1
 else if 0<=x.up/\h.getD x.up.toNat false=false then out.getD x.up.toNat 0
 else if x.span.to<e.span.qO\/x.span.to=e.span.qO/\(x.span.qO<x.span.to\/(r:Int)<last\/last<0)then 2 else 3
theorem AD(z:Bool)(h:List Bool)(last:Int)(r:Nat)(x:TS)(hx:L[r]? =some x)(hr:r<2^60)(hu:x.up<(r:Nat))(out:List Int)(hl:h.length=L.length)(ho:out.length=L.length):
  xj (⟨z,L⟩,⟨false,h⟩,last,(r:Int),e,out)=xj (⟨z,L⟩,⟨false,h⟩,last,((r+1:Nat):Int),e,out.set r (av e last r x h out)):=by
 have Sx:=(qL hx).1;obtain⟨hw,hhw⟩:=gl (l:=h) (k:=r) o?;obtain⟨ow,how⟩:=gl (l:=out) (k:=r) o?;have d0:h.getD r false=hw:=by simp[hhw]
 rw[xj.eq_1,if_pos v?,gi hx,ws hr,gi hhw,gi how];simp only[zP,qV,X?,av,d0];generalize ((r+1:Nat):Int)=q;cases hw with|true=>simp|false=>by_cases c0:0<=x.up;(obtain⟨p,hp⟩: ∃p:Nat,x.up=p:=⟨x.up.toNat,o?⟩;obtain⟨hb,hhb⟩:=gl (l:=h) (k:=p) o?;obtain⟨ob,hob⟩:=gl (l:=out) (k:=p) o?;have d1:h.getD x.up.toNat false=hb:=by rw[hp];simp[hhb]);(have d2:out.getD x.up.toNat 0=ob:=by rw[hp];simp[hob]);(have e1:qh h x.up=some hb:=by rw[hp];exact gi hhb);(have e2:qh out x.up=some ob:=by rw[hp];exact gi hob);simp only[d1,d2,e1,e2,qV];by_cases c1:ob=1<;>by_cases c2:x.span.qO<e.span.to<;>by_cases c3:e.span.qO<x.span.to<;>by_cases c4:x.span.to<e.span.qO<;>by_cases c5:x.span.to=e.span.qO<;>by_cases c6:x.span.qO<x.span.to<;>by_cases c7:(r:Int)<last<;>by_cases c8:last<0<;>cases hb<;>simp[c0,c1,c2,c3,c4,c5,c6,c7,c8]<;>split<;>rfl;have: ¬(0<=x.up/\out.getD x.up.toNat 0=1):=fun k=>c0 k.1;by_cases c2:x.span.qO<e.span.to<;>by_cases c3:e.span.qO<x.span.to<;>by_cases c4:x.span.to<e.span.qO<;>by_cases c5:x.span.to=e.span.qO<;>by_cases c6:x.span.qO<x.span.to<;>by_cases c7:(r:Int)<last<;>by_cases c8:last<0<;>simp[c0,c2,c3,c4,c5,c6,c7,c8]<;>split<;>rfl
end
end Xr
namespace Xr
section
variable (L:List TS) (e:qz) {n:Int}
variable (hR:Is L n) (hLl:L.length<2^30)
theorem BZ(l:List Int)(k:Nat)(v:Int)(j:Nat):(l.set k v).getD j 0=if k=j/\j<l.length then v else l.getD j 0:=by rw[List.getD_eq_getElem?_getD,xM];split<;>simp[*]
include hR in
theorem sides_L2(z:Bool)(h:List Bool)(last:Int)(hl:h.length=L.length)(hLl:L.length<2^30): ∀(d r:Nat)(out:List Int),r+d=L.length->out.length=L.length->
  (∀ y x,y<r->L[y]? =some x->out.getD y 0=av e last y x h out)->
  ∃out' :List Int,xj (⟨z,L⟩,⟨false,h⟩,last,(r:Int),e,out)=some out' /\out'.length=L.length/\ ∀y x,L[y]? =some x->out'.getD y 0=av e last y x h out' :=by intro d;induction d with|zero=>intro r out hr ho H;obtain rfl:r=L.length:=o?;rw[xj.eq_1,if_neg z?];exact⟨out,rfl,ho,fun y x hx=>H y x (qL hx).1 hx⟩|succ d ih=>(intro r out hr ho H;obtain⟨x,hx⟩:=gl (l:=L) (k:=r) o?;have ups: ∀(y:Nat)(x:TS),L[y]? =some x->x.up<y:=by intro y x hx;have hy:=(qL hx).1;have h1:=hR.up y (by simpa using hy);obtain⟨_,_,h2⟩:=at_L hx;omega);(have hu:=ups r x hx;rw[AD L e z h last r x hx o? hu out hl ho];have kR: ∀(y:Nat)(x:TS),y<=r->L[y]? =some x-> ∀v,av e last y x h (out.set r v)=av e last y x h out:=by intro y x hy hx v;have h1:=ups y x hx;by_cases c:0<=x.up;(have g:(out.set r v).getD x.up.toNat 0=out.getD x.up.toNat 0:=by rw[BZ,if_neg o?]);unfold av;rw[g];unfold av;simp[c]);refine ih (r+1) _ o? (by simp[ho]) fun y x' hy ZR=>?_;rw[BZ,kR y x' o? ZR];by_cases c:r=y;subst c;rw[if_pos ⟨rfl,o?⟩];rw[hx]at ZR;cases ZR;rfl;rw[if_neg o?];exact H y x' o? ZR
include hR in
theorem sides_ok(z:Bool)(h:List Bool)(hl:h.length=L.length)(hLl:L.length<2^30): ∃(sd:List Int)(last:Int),cV ⟨z,L⟩ ⟨false,h⟩ e=some ⟨false,sd⟩/\sd.length=L.length/\
  Side (L.map strOf).length (FL L) (TL L) (UL L) (fun y=>h[y]? =some true) e.span.qO e.span.to last (fun r=>sd.getD r 0):=by
 obtain⟨last,h1,h2⟩:=last_L0 L e z h hl hLl L.length 0 (-1) o? (.inl ⟨rfl,fun y hy=>o?⟩);unfold cV;rw[show ((0:Nat):Int)=0 from rfl]at h1;rw[h1];simp only[zP,qV];rw[if_pos z?,if_pos (qH v? o?)];obtain⟨sd,g1,g2,g3⟩:=sides_L2 L e hR z h last hl hLl L.length 0 (e? L.length 0) o? z? fun y x hy=>o?;simp only[X?];rw[show ((0:Nat):Int)=0 from rfl]at g1;rw[g1];refine⟨sd,last,rfl,g2, ?_⟩;have hd: ∀y:Nat,y<L.length->(h.getD y false=true↔h[y]? =some true):=by intro y hy;obtain⟨v,hv⟩:=gl (l:=h) (k:=y) o?;simp[hv]
 have qo: ∀r,r<(L.map strOf).length-> ∃x,L[r]? =some x/\FL L r=x.span.qO/\TL L r=x.span.to/\UL L r=x.up/\sd.getD r 0=av e last r x h sd:=by intro r hr;obtain⟨x,hx⟩:=gl (l:=L) (k:=r) (by simpa using hr);obtain⟨a1,a2,a3⟩:=at_L hx;exact⟨x,hx,a1,a2,a3,g3 r x hx⟩
 have Wi:(L.map strOf).length=L.length:=z?;have upl: ∀(r:Nat)(p:Nat),r<(L.map strOf).length->UL L r=p->p<L.length:=by intro r p hr hp;have:=hR.up r hr;omega
 constructor;intro r hr hh;obtain⟨x,hx,a1,a2,a3,a4⟩:=qo r hr;rw[a4];unfold av;rw[if_pos ((hd r o?).2 hh)];intro r hr hh p hp hs;obtain⟨x,hx,a1,a2,a3,a4⟩:=qo r hr;rw[a4];unfold av;rw[if_neg (fun k=>hh ((hd r o?).1 k)),if_pos ⟨o?,by rw[show x.up.toNat=p by omega];exact hs⟩];intro r hr hh hs hf ht;obtain⟨x,hx,a1,a2,a3,a4⟩:=qo r hr;rw[a4];unfold av;rw[if_neg (fun k=>hh ((hd r o?).1 k)),if_neg (fun k=>hs x.up.toNat o? k.2),if_pos ⟨o?,o?⟩];(intro r hr hh hs hk p hp hnp;obtain⟨x,hx,a1,a2,a3,a4⟩:=qo r hr;have dg:=upl r p hr hp;have hpx:x.up.toNat=p:=o?;have L5:h.getD p false=false:=by cases hb:h.getD p false with|false=>rfl|true=>exact absurd ((hd p dg).1 hb) hnp);rw[a4];unfold av;rw[if_neg (fun k=>hh ((hd r o?).1 k)),if_neg (fun k=>hs x.up.toNat o? k.2),if_neg (fun k=>hk ⟨o?,o?⟩),hpx,if_pos ⟨o?,L5⟩];intro r hr hh hs hk hz;obtain⟨x,hx,a1,a2,a3,a4⟩:=qo r hr;rw[a4];unfold av;rw[if_neg (fun k=>hh ((hd r o?).1 k)),if_neg (fun k=>(hs x.up.toNat o?).1 k.2),if_neg (fun k=>hk ⟨o?,o?⟩),if_neg,if_pos o?];rintro⟨k1,k2⟩;have h3:=(hs x.up.toNat o?).2;have dg:=upl r x.up.toNat hr o?;rw[(hd _ dg).2 h3]at k2;cases k2;intro r hr hh hs hk hz;obtain⟨x,hx,a1,a2,a3,a4⟩:=qo r hr;rw[a4];unfold av;rw[if_neg (fun k=>hh ((hd r o?).1 k)),if_neg (fun k=>(hs x.up.toNat o?).1 k.2),if_neg (fun k=>hk ⟨o?,o?⟩),if_neg,if_neg o?];rintro⟨k1,k2⟩;have h3:=(hs x.up.toNat o?).2;have dg:=upl r x.up.toNat hr o?;rw[(hd _ dg).2 h3]at k2;cases k2;intro r hr hh;rcases h2 with ⟨k1,k2⟩|⟨q,k1,k2,k3⟩;exact absurd hh (k2 r);have:=k3 r hh;omega;intro Ss;rcases h2 with ⟨k1,k2⟩|⟨q,k1,k2,k3⟩;omega;exact⟨q,k1,by have:=(qL k2).1;omega,k2⟩;rcases h2 with ⟨k1,k2⟩|⟨q,k1,k2,k3⟩<;>omega
end
end Xr
namespace Xr
structure dc (is:List qu) (fl:Sl (Sl Int)):Prop where
 len:fl.l.length=is.length
 nn:is≠[]->fl.nil=false
 each: ∀(a:Nat)(i:qu)(f:Sl Int),is[a]? =some i->fl.l[a]? =some f->f.l.length=i.stops.l.length/\(i.stops.l≠[]->f.nil=false)/\ ∀v∈f.l,0<=v/\v<=3
section
variable (e:qz) (n:Int) (he:bU e n) (mark:Bool) (sd:List Int) (s:qc) (l7:qc) (cur:Int) (flags:Sl (Sl Int)) (r6:List qu) (i1 i2:Int)
abbrev Zd(sd:List Int):Nat->Int:=fun r=>sd.getD r 0
abbrev NS(e:qz)(sd:List Int):=sr e.span.qO e.span.to e.text.length (Zd sd)
theorem tmod2(v:Int)(h:0<=v/\v<=3)(c:v.tmod 2=0):v<=2:=by rcases(show v=0\/v=1\/v=2\/v=3 by omega)with rfl|rfl|rfl|rfl<;>simp_all (config:={ decide:=true })
include he in
theorem shift_L2(a b0:Nat)(al:Bool)(i:qu)(hi:s.insts.l[a]? =some i)(hb:b0+1+i.stops.l.length<=sd.length)(hsd:sd.length<=2^30)(hL:i.stops.l.length<=2^12)
  (hrng: ∀x∈i.stops.l,0<=x.span.qO/\x.span.qO<=x.span.to/\x.span.to<=n)
  (OU: ∀(k:Nat)(x:qt),i.stops.l[k]? =some x-> -1<=x.up/\ ∀p:Nat,x.up=p->p<k/\(Zd sd (b0+1+k)≠1->Zd sd (b0+1+p)≠1))
  (f0:Sl Int) (hf0:f0.l.length=i.stops.l.length) (hfn:i.stops.l≠[]->f0.nil=false) (hfb: ∀v∈f0.l,0<=v/\v<=3):
  ∀(r:List qt)(k:Nat)(fl:Sl (Sl Int))(zk f:List Int)(out:List qt),i.stops.l.drop k=r->k<=i.stops.l.length->fl.l[a]? =some f0->fl.nil=false->zk.length=i.stops.l.length->
  (∀ j,j<k->Zd sd (b0+1+j)≠1->zk[j]? =some ((Qd (Zd sd) (b0+1) j:Nat):Int))->out.length=Qd (Zd sd) (b0+1) k->out.length<=k->f.length<=k->(∀ v∈f,0<=v/\v<=3)->
  ∃(pl' f' :List Int),jt (mark,⟨false,sd⟩,((b0+1+k:Nat):Int),(a:Int),al,(k:Int),fl,s,e,l7,cur,flags,r6,i1,i2,zk,f,out)=
   some (((b0+1+i.stops.l.length:Nat):Int),fl,pl',f',out++NS e sd (b0+1) k r)/\f'.length=f.length+(NS e sd (b0+1) k r).length/\ ∀v∈f',0<=v/\v<=3:=by
 intro r;induction r with
  |nil=>intro k fl zk f out h pd _ _ _ _ _ dx _ hfv;have h1:=zt h;rw[jt.eq_1,gi hi];simp only[zP,qV];rw[if_neg v?];obtain rfl:k=i.stops.l.length:=o?;exact⟨zk,f,by simp[NS,sr],by simp[NS,sr],hfv⟩
  |cons x r ih=>
   (intro k fl zk f out h pd ZN OE dg hplc XI dx hfk hfv;obtain⟨h1,h2,h3⟩:=zH h;have hx:=hrng x (zc h1);have hp:=OU k x h1;obtain⟨sv,hsv⟩:=gl (l:=sd) (k:=b0+1+k) o?;have OY:Zd sd (b0+1+k)=sv:=by simp[Zd,hsv]);(obtain⟨fv,hfv1⟩:=gl (l:=f0.l) (k:=k) o?;have hfv0:=hfb fv (zc hfv1);obtain⟨pv,hpv⟩:=gl (l:=zk) (k:=k) o?;have jZ:i.stops.l≠[]:=fun c=>by rw[c]at h3;simp at h3);have hwr:q?.wrap (((b0+1+k:Nat):Int)+1)=((b0+1+(k+1):Nat):Int):=ws o?;rw[jt.eq_1,gi hi];simp only[zP,qV];rw[if_pos v?,gi h1,gi hsv,hwr,ws (k:=k) o?];simp only[qV];by_cases c1:sv=1;(rw[if_pos (by simpa using c1)];have e1:NS e sd (b0+1) k (x::r)=NS e sd (b0+1) (k+1) r:=by show sr _ _ _ _ _ _ (x::r)=_;rw[sr,if_pos (by rw[OY];exact c1)]);rw[e1];refine ih (k+1) fl zk f out h2 o? ZN OE dg (fun j hj hs=>?_) ?_ o? o? hfv;by_cases c:j=k;subst c;exact absurd (OY.trans c1) hs;exact hplc j o? hs;rw[Qd,if_pos (by rw[OY];exact c1)];simpa using XI;(rw[if_neg (by simpa using c1),NB e n he x.span hx.1 hx.2.1 hx.2.2 sv];simp only[qV];have e1:NS e sd (b0+1) k (x::r)=FJ e.span.qO e.span.to e.text.length (Zd sd) (b0+1) k x::NS e sd (b0+1) (k+1) r:=by show sr _ _ _ _ _ _ (x::r)=_;rw[sr,if_neg (by rw[OY];exact c1)]);(have hnst: ∀up:Int,(if 0<=x.up then((Qd (Zd sd) (b0+1) x.up.toNat:Nat):Int)else x.up)=up->qt.mk (Tt e.span.qO e.span.to e.text.length sv x.span) x.n up x.first x.qQ x.qU x.opts=FJ e.span.qO e.span.to e.text.length (Zd sd) (b0+1) k x:=by intro up hu;unfold FJ;rw[hu,OY]);(have hplk:Qd (Zd sd) (b0+1) (k+1)=Qd (Zd sd) (b0+1) k+1:=by rw[Qd,if_neg (by rw[OY];exact c1)]);have pf: ∀j,j<k+1->Zd sd (b0+1+j)≠1->(zk.set k (out.length:Int))[j]? =some ((Qd (Zd sd) (b0+1) j:Nat):Int):=by intro j hj hs;rw[xM];by_cases c:k=j;subst c;rw[if_pos ⟨rfl,o?⟩,XI];rw[if_neg o?];exact hplc j o? hs
   have ZI: ∀(up fv' :Int),(if 0<=x.up then((Qd (Zd sd) (b0+1) x.up.toNat:Nat):Int)else x.up)=up->0<=fv' /\fv' <=3->
     ∃(pl' f' :List Int),jt (mark,⟨false,sd⟩,((b0+1+(k+1):Nat):Int),(a:Int),al,((k+1:Nat):Int),fl,s,e,l7,cur,flags,r6,i1,i2,zk.set k (out.length:Int),f++[fv'],out++[qt.mk (Tt e.span.qO e.span.to e.text.length sv x.span) x.n up x.first x.qQ x.qU x.opts])=
      some (((b0+1+i.stops.l.length:Nat):Int),fl,pl',f',out++NS e sd (b0+1) k (x::r))/\f'.length=f.length+(NS e sd (b0+1) k (x::r)).length/\ ∀v∈f',0<=v/\v<=3:=by
    intro up fv' hu hfv';rw[hnst up hu,e1];obtain⟨pl',f',g1,g2,g3⟩:=ih (k+1) fl (zk.set k (out.length:Int)) (f++[fv']) (out++[FJ e.span.qO e.span.to e.text.length (Zd sd) (b0+1) k x]) h2 o? ZN OE (by simp[dg]) pf (by rw[hplk];simp[XI]) v? v? (by
     intro v hv
     rcases List.mem_append.1 hv with hv|hv
     ·exact hfv v hv
     simp only[List.mem_singleton]at hv
     subst hv
     exact hfv')
    refine⟨pl',f',by rw[g1];simp,by simp only[s?,b?,List.length_nil]at g2 |-; omega,g3⟩
   (have hflE:(⟨false,fl.l⟩:Sl (Sl Int))=fl:=by rw[<- OE]);(have hz:f0.nil=false:=hfn jZ;have w3:(mark&&((sv==0)&&(fv.tmod 2==0)))=true->0<=q?.wrap (fv+1)/\q?.wrap (fv+1)<=3:=by intro c;simp only[zU,beq_iff_eq]at c;have:=tmod2 fv hfv0 c.2.2;rw[qB o? o?];omega);by_cases c2:0<=x.up;(obtain⟨p,hpp⟩: ∃p:Nat,x.up=p:=⟨x.up.toNat,o?⟩;obtain⟨q1,q2⟩:=hp.2 p hpp;have hpp2:=hplc p q1 (q2 (by rw[OY];exact c1));have Xj:(if 0<=x.up then((Qd (Zd sd) (b0+1) x.up.toNat:Nat):Int)else x.up)=((Qd (Zd sd) (b0+1) p:Nat):Int):=by rw[if_pos c2,show x.up.toNat=p by omega]);rw[if_pos (by simpa using c2),show x.up=((p:Nat):Int)from hpp,gi hpp2,gi hpv];simp only[qV];rw[if_pos qH,OE,if_neg z?,gi ZN];simp only[qV];rw[hz,if_neg z?,gi hfv1];simp only[qV,X?];rw[if_pos qH,if_pos qH,hflE];split;rename_i c3;exact ZI _ _ Xj (w3 c3);exact ZI _ _ Xj hfv0;(have Xj:(if 0<=x.up then((Qd (Zd sd) (b0+1) x.up.toNat:Nat):Int)else x.up)=x.up:=by rw[if_neg c2]);rw[if_neg (by simpa using c2),gi hpv];simp only[qV];rw[if_pos qH,OE,if_neg z?,gi ZN];simp only[qV];rw[hz,if_neg z?,gi hfv1];simp only[qV,X?];rw[if_pos qH,if_pos qH,hflE];split;rename_i c3;exact ZI _ _ Xj (w3 c3);exact ZI _ _ Xj hfv0
end
end Xr
end Go.Proofs.YtnfdnckadgcifaaGreat
