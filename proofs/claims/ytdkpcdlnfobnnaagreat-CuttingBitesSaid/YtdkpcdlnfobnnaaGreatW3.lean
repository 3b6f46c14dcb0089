/- A symbolic walk over the model, and what it shows of functions of the program: parts of the proof that the text of the row joins. -/
import Derived.Test.YtdkpcdlnfobnnaaGreatW2
import Derived.Test.YtdkpcdlnfobnnaaGreatE5
import Derived.KernelRfl
open List renaming getD_eq_getElem?_getD->AS,mem_filter->Adn,mem_map->Ado,mem_cons->Adq,mem_cons_of_mem->Adr,range->Adu,mem_cons_self->Adw,mem_range->Adz,all_eq_true->Ad0,mem_singleton->Ad2,mem_append->Ad4,getElem?_append_left->Ad7,getElem?_append_right->Ad8,map->Ad9,length_append->AdL,getElem_of_mem->AdM,mem_append_right->AdS,length_map->AdW,mem_append_left->AdY,pairwise_iff_getElem->Aed,length_cons->Aeg,pairwise_map->Aek,pairwise_cons->Aes,map_map->Aew,map_append->AeA,map_congr_left->AeI,nodup_iff_pairwise_ne->AeK,range_succ->AeL,append_nil->AeM,append_assoc->AeP,pairwise_append->AeT
open Nat renaming not_lt_zero->oE,le_refl->Adp,zero_le->Ads,lt_succ_iff_lt_or_eq->Ad1,lt_or_ge->AdX,le_trans->Aec,lt_trichotomy->Aev
open Bool renaming and_eq_true->pR,or_eq_false_iff->AdD,or_eq_true->AdN,not_eq_true'->AdO
open Int renaming toNat_natCast->Ad3,toNat->Ad6,tmod_eq_emod_of_nonneg->AdA,tmod->AdF,natCast_nonneg->AdG,le_refl->AdQ,emod_eq_of_lt->AdV,mul_nonneg->AdZ,eq_ofNat_of_zero_le->Aeb,add_emod_right->Aef
open Option renaming none->AdB
namespace Go.Proofs.YtdkpcdlnfobnnaaGreat
open Go.SE Go.RowKit
set_option maxRecDepth 100000
set_option maxHeartbeats 4000000
set_option linter.unusedVariables false
attribute [local irreducible] vc
structure BA where
 a:Int
 b:Int
 c:Int
def N3:List SV->BA
 |[.int _ a,.int _ b,.int _ c]=>⟨a,b,c⟩
 |_=>⟨0,0,0⟩
def Cy:List SV->L.Sq BA
 |[.sl _ n g]=>⟨n,fun i=>N3 (g i)⟩
 |_=>⟨0,fun _=>⟨0,0,0⟩⟩
def H5:List SV->Prop
 |[.sl 3 n g]=>∀i,i<n->g i = [.int .i64 (N3 (g i)).a,.int .i64 (N3 (g i)).b,.int .i64 (N3 (g i)).c]
 |_=>False
theorem Qj {l:List SV} (h:H5 l):l.length=1/\Bo (SV.at l 0) (.sl 3 (Cy l).n (fun k=>[.int .i64 ((Cy l).g k).a,.int .i64 ((Cy l).g k).b,.int .i64 ((Cy l).g k).c])):=by
 unfold H5 at h;split at h
 ·rename_i n g;exact⟨rfl,.sl h⟩
 ·exact h.elim
def CZ (a b c:L.Sq BA) (i:Nat):L.Sq BA:=bif decide (i=0)then a else bif decide (i=1)then b else c
theorem xK {g:Nat->List SV} (h:H5 (g 0)/\H5 (g 1)/\H5 (g 2)):Bo (.sl 1 3 g) (.sl 1 3 (fun i=>[.sl 3 (CZ (Cy (g 0)) (Cy (g 1)) (Cy (g 2)) i).n (fun k=>[.int .i64 ((CZ (Cy (g 0)) (Cy (g 1)) (Cy (g 2)) i).g k).a,.int .i64 ((CZ (Cy (g 0)) (Cy (g 1)) (Cy (g 2)) i).g k).b,.int .i64 ((CZ (Cy (g 0)) (Cy (g 1)) (Cy (g 2)) i).g k).c])])):=by
 have key:∀i,i<3->H5 (g i)/\CZ (Cy (g 0)) (Cy (g 1)) (Cy (g 2)) i=Cy (g i):=fun i hi=>by
  match i,hi with
  |0,_=>exact⟨h.1,rfl⟩
  |1,_=>exact⟨h.2.1,rfl⟩
  |2,_=>exact⟨h.2.2,rfl⟩
 refine .sl2 (fun i hi=>(Qj (key i hi).1).1.symm) (fun i hi j hj=>?_);rw[(Qj (key i hi).1).1]at hj;obtain rfl:j=0:=by omega
 rw[(key i hi).2];exact(Qj (key i hi).1).2
def BB (c:Nat->L.Sq BA):Nat->L.Sq BA
 |0=>⟨0,fun _=>⟨0,0,0⟩⟩
 |i+1=>⟨(BB c i).n+(c i).n,fun k=>bif decide (k<(BB c i).n)then(BB c i).g k else(c i).g (k-(BB c i).n)⟩
def Ei (p:L.Pt):Prop:=0<=p.x/\p.x<=4096/\0<=p.y/\p.y<=4096
def H6 (u m v:L.Pt):Int:=(v.x-u.x)*(m.y-u.y)-(v.y-u.y)*(m.x-u.x)
def xL (u m v:L.Pt):Int:=(m.x-u.x)*(v.x-m.x)+(m.y-u.y)*(v.y-m.y)
def Qk (u v:L.Pt):Int:=(v.x-u.x)*(v.x-u.x)+(v.y-u.y)*(v.y-u.y)
def Fx (u m v:L.Pt) (bite:Int):Bool:=bif bif !decide (H6 u m v=0)then decide (max (H6 u m v) (0-H6 u m v)<=xL u m v)else false then decide (H6 u m v*H6 u m v<=bite*bite*Qk u v)else false
def BW (n:Int) (p:AH):Nat:=((p.to_-p.fr) % n).toNat
def Ch (n:Int) (p:AH) (i:Nat):Int:=(p.fr+(i:Int)) % n
def DV (n:Int) (p:AH):Prop:=(0<=p.fr/\p.fr<n)/\(0<=p.to_/\p.to_<n)/\p.fr≠p.to_
theorem Ql {n:Int} {p:AH} (h:DV n p) {i:Nat} (hi:(i:Int)<n):Ch n p i=if p.fr+(i:Int)<n then p.fr+(i:Int)else p.fr+(i:Int)-n:=by
 obtain⟨⟨h1,h2⟩,_⟩:=h;unfold Ch;split
 ·exact AdV (by omega) (by omega)
 ·rw[show p.fr+(i:Int)=p.fr+(i:Int)-n+n by omega,Aef,AdV (by omega) (by omega)];omega
theorem xM {n:Int} {p:AH} (h:DV n p):(BW n p:Int)=if p.fr<p.to_ then p.to_-p.fr else p.to_-p.fr+n:=by
 obtain⟨⟨h1,h2⟩,⟨h3,h4⟩,h5⟩:=h;unfold BW;rw[Int.toNat_of_nonneg (Int.emod_nonneg _ (by omega))];split
 ·exact AdV (by omega) (by omega)
 ·have e:(p.to_-p.fr) % n=(p.to_-p.fr+n) % n:=(Aef _ _).symm;rw[e,AdV (by omega) (by omega)]
theorem LD {n:Int} {p:AH} (h:DV n p):1<=BW n p/\(BW n p:Int)<n/\Ch n p 0=p.fr/\Ch n p (BW n p)=p.to_/\(∀i,i<=BW n p->0<=Ch n p i/\Ch n p i<n)/\(∀i,i<=BW n p->Ch n p i=p.to_->i=BW n p)/\∀i,i<BW n p->AdF (Ch n p i+1) n=Ch n p (i+1):=by
 have hD:=xM h;obtain⟨⟨h1,h2⟩,⟨h3,h4⟩,h5⟩:=h;have hlt:(BW n p:Int)<n:=by split at hD<;>omega
 have h1':1<=BW n p:=by split at hD<;>omega
 have hr:∀i,i<=BW n p->0<=Ch n p i/\Ch n p i<n:=fun i hi=>⟨Int.emod_nonneg _ (by omega),Int.emod_lt_of_pos _ (by omega)⟩;refine⟨h1',hlt,?_,?_,hr,fun i hi e=>?_,fun i hi=>?_⟩
 ·rw[Ql ⟨⟨h1,h2⟩,⟨h3,h4⟩,h5⟩ (by omega)];split<;>omega
 ·rw[Ql ⟨⟨h1,h2⟩,⟨h3,h4⟩,h5⟩ hlt];split<;>split at hD<;>omega
 ·rw[Ql ⟨⟨h1,h2⟩,⟨h3,h4⟩,h5⟩ (by omega)]at e;split at e<;>split at hD<;>omega
 ·have:=hr i (by omega);rw[AdA (by omega)];unfold Ch;rw[Int.emod_add_emod];congr 1
  push_cast;omega
def GB (l:L.Sq L.Pt) (p:AH):Bool:=!BV (BW l.n p-1) fun i=>decide (0<FF l (Ch l.n p (1+i)).toNat)
def DW {α:Type} (f:Nat->Option α):Nat->Option α
 |0=>none
 |n+1=>match DW f n with
   |some x=>some x
   |none=>f n
theorem Qm {α:Type} {f:Nat->Option α}:∀{n},(∀k,k<n->f k=none)->DW f n=none
 |0,_=>rfl
 |n+1,h=>by rw[DW,Qm (fun k hk=>h k (by omega))];exact h n (by omega)
theorem YJ {α:Type} {f:Nat->Option α} {k:Nat} {x:α} (hf:f k=some x) (h:∀j,j<k->f j=none):∀{n},k<n->DW f n=some x
 |0,hk=>by omega
 |n+1,hk=>by
   rw[DW]
   by_cases e:k=n
   ·subst e;rw[Qm h];exact hf
   ·rw[YJ hf h (n:=n) (by omega)]
theorem Qn {α:Type} {f g:Nat->Option α}:∀{n},(∀k,k<n->f k=g k)->DW f n=DW g n
 |0,_=>rfl
 |n+1,h=>by rw[DW,DW,Qn (fun k hk=>h k (by omega)),h n (by omega)]
def Ev (f:Nat->Nat->Option (List BA)) (lw:Nat->Nat->Nat->Bool) (r:Nat->Int) (a b m:Nat):Option (List BA):=bif lw a m b then(match f a m with|none=>none|some x=>match f m b with|none=>none|some y=>some (⟨r a,r m,r b⟩::(x++y)))else none
def Di (lw:Nat->Nat->Nat->Bool) (r:Nat->Int):Nat->Nat->Nat->Option (List BA)
 |0,_,_=>none
 |n+1,a,b=>if b=a+1 then some []else DW (fun k=>Ev (Di lw r n) lw r a b (a+1+k)) (b-a-1)
theorem N4 (lw:Nat->Nat->Nat->Bool) (r:Nat->Int):∀(n m a b:Nat),a<b->b-a<=n->b-a<=m->Di lw r n a b=Di lw r m a b
 |0,_,a,b,h,h1,_=>by omega
 |n+1,0,a,b,h,_,h1=>by omega
 |n+1,m+1,a,b,h,h1,h2=>by
   rw[Di,Di]
   by_cases e:b=a+1
   ·rw[if_pos e,if_pos e]
   ·rw[if_neg e,if_neg e];refine Qn fun k hk=>?_;unfold Ev;rw[N4 lw r n m a (a+1+k) (by omega) (by omega) (by omega),N4 lw r n m (a+1+k) b (by omega) (by omega) (by omega)]
def Fi (l:L.Sq L.Pt) (r:L.Sq Int) (bite:Int) (a m b:Nat):Bool:=Fx (l.g (r.g a).toNat) (l.g (r.g m).toNat) (l.g (r.g b).toNat) bite
def BF (l:L.Sq L.Pt) (r:L.Sq Int) (bite:Int) (a b:Nat):Option (List BA):=Di (Fi l r bite) r.g r.n a b
def DL (l:L.Sq L.Pt) (r:L.Sq Int) (bite:Int) (a b m:Nat):Option (List BA):=Ev (BF l r bite) (Fi l r bite) r.g a b m
theorem xN (l:L.Sq L.Pt) (r:L.Sq Int) (bite:Int) {a b:Nat} (h:b=a+1) (hb:b<r.n):BF l r bite a b=some []:=by
 unfold BF;obtain⟨n,e⟩:∃n,r.n=n+1:=⟨r.n-1,by omega⟩;rw[e,Di,if_pos h]
theorem YK (l:L.Sq L.Pt) (r:L.Sq Int) (bite:Int) {a b:Nat} (hab:a<b) (h:b≠a+1) (hb:b<r.n):BF l r bite a b=DW (fun k=>DL l r bite a b (a+1+k)) (b-a-1):=by
 unfold BF;obtain⟨n,e⟩:∃n,r.n=n+1:=⟨r.n-1,by omega⟩;rw[e,Di,if_neg h];refine Qn fun k hk=>?_;unfold DL Ev BF;rw[e,N4 _ _ n (n+1) a (a+1+k) (by omega) (by omega) (by omega),N4 _ _ n (n+1) (a+1+k) b (by omega) (by omega) (by omega)]
def C4 (l:L.Sq L.Pt) (r:L.Sq Int) (bite:Int) (a b:Int):Prop:=BF l r bite a.toNat b.toNat=none
theorem N5 (lw:Nat->Nat->Nat->Bool) (r:Nat->Int):∀(n a b:Nat),a<b->∀x,Di lw r n a b=some x->x.length+1=b-a
 |0,a,b,_,x,e=>by cases e
 |n+1,a,b,hab,x,e=>by
   rw[Di]at e
   by_cases e1:b=a+1
   ·rw[if_pos e1]at e;cases e;simp;omega
   ·rw[if_neg e1]at e;have key:∀m,a<m->m<b->∀x,Ev (Di lw r n) lw r a b m=some x->x.length+1=b-a:=fun m h1 h2 x e=>by
     unfold Ev at e;cases h3:lw a m b
     ·rw[h3]at e;cases e
     ·rw[h3,cond_true]at e;cases h4:Di lw r n a m with
      |none=>rw[h4]at e;cases e
      |some y =>
        cases h5:Di lw r n m b with
        |none=>rw[h4,h5]at e;cases e
        |some z =>
          rw[h4,h5]at e;cases e;have:=N5 lw r n a m h1 y h4;have:=N5 lw r n m b h2 z h5;simp only[Aeg,AdL];omega
    have:∀m,m<=b-a-1->∀x,DW (fun k=>Ev (Di lw r n) lw r a b (a+1+k)) m=some x->x.length+1=b-a:=fun m=>by
     induction m with
     |zero=>intro _ x e;cases e
     |succ m ih =>
       intro hm x e;rw[DW]at e;cases e2:DW (fun k=>Ev (Di lw r n) lw r a b (a+1+k)) m with
       |some y=>rw[e2]at e;cases e;exact ih (by omega) _ e2
       |none=>rw[e2]at e;exact key _ (by omega) (by omega) x e
    exact this _ (Adp _) x e
def BJ (x:Option (List BA)):Bool:=x.isSome
def AN (x:Option (List BA)):L.Sq BA:=⟨(x.getD []).length,fun i=>(x.getD []).getD i ⟨0,0,0⟩⟩
theorem YL {l:L.Sq L.Pt} {r:L.Sq Int} {bite:Int} {a b:Nat} (h:a<b):(AN (BF l r bite a b)).n<=b-a:=by
 unfold AN;cases e:BF l r bite a b with
 |none=>simp
 |some x=>have:=N5 _ _ _ _ _ h x e;simp;omega
theorem xO (t:BA) (x y:List BA):(BB (CZ ⟨1,fun _=>t⟩ (AN (some x)) (AN (some y))) 3).n=(AN (some (t::(x++y)))).n/\∀i,i<(BB (CZ ⟨1,fun _=>t⟩ (AN (some x)) (AN (some y))) 3).n->(BB (CZ ⟨1,fun _=>t⟩ (AN (some x)) (AN (some y))) 3).g i=(AN (some (t::(x++y)))).g i:=by
 have e1:(BB (CZ ⟨1,fun _=>t⟩ (AN (some x)) (AN (some y))) 3).n=0+1+x.length+y.length:=rfl;refine⟨by rw[e1];show _=(t::(x++y)).length;simp;omega,fun i hi=>?_⟩;rw[e1]at hi;show(bif decide (i<0+1+x.length)then(bif decide (i<0+1)then(bif decide (i<0)then(⟨0,0,0⟩:BA)else t)else x.getD (i-(0+1)) ⟨0,0,0⟩)else y.getD (i-(0+1+x.length)) ⟨0,0,0⟩)=(t::(x++y)).getD i ⟨0,0,0⟩
 by_cases h1:i<0+1+x.length
 ·rw[decide_eq_true h1,cond_true]
  by_cases h2:i<0+1
  ·rw[decide_eq_true h2,cond_true];obtain rfl:i=0:=by omega
   rfl
  ·rw[decide_eq_false h2,cond_false];obtain⟨j,rfl⟩:∃j,i=j+1:=⟨i-1,by omega⟩;rw[List.getD_cons_succ,show j+1-(0+1)=j by omega,AS,AS,Ad7 (by omega)]
 ·rw[decide_eq_false h1,cond_false];obtain⟨j,rfl⟩:∃j,i=j+1:=⟨i-1,by omega⟩;rw[List.getD_cons_succ,show j+1-(0+1+x.length)=j-x.length by omega,AS,AS,Ad8 (by omega)]
def Hb (l:L.Sq L.Pt) (r:L.Sq Int) (bite:Int):Option (List BA):=BF l r bite 0 (r.n-1)
def Hc (l:L.Sq L.Pt) (p:AH):L.Sq Int:=⟨BW l.n p+1,Ch l.n p⟩
def Ca (l:L.Sq L.Pt) (p:AH) (bite:Int):Option (List BA):=bif !GB l p then none else Hb l (Hc l p) bite
def xP (x:BA):List SV:=[.int .i64 x.a,.int .i64 x.b,.int .i64 x.c]
def GC (l:L.Sq L.Pt) (r:L.Sq Int) (bite:Int):Prop:=(l.n<=1000/\r.n<=1000/\0<=bite/\bite<=4096)/\(∀i,i<r.n->0<=r.g i/\r.g i<(l.n:Int))/\∀i,i<l.n->Ei (l.g i)
def YM (u:L.Pt) (m:L.Pt) (v:L.Pt) (b:Int):Prop:=Ei u/\Ei m/\Ei v/\0<=b/\b<=4096
def YN (u:L.Pt) (m:L.Pt) (v:L.Pt) (b:Int):SV:=.bool (Fx u m v b)
def YO:List EV->Option (Prop×SV)
 |[.p (.agg [.int .i64 u_x,.int .i64 u_y]),.p (.agg [.int .i64 m_x,.int .i64 m_y]),.p (.agg [.int .i64 v_x,.int .i64 v_y]),.p (.int .i64 b)]=>some (YM (⟨u_x,u_y⟩:L.Pt) (⟨m_x,m_y⟩:L.Pt) (⟨v_x,v_y⟩:L.Pt) b,YN (⟨u_x,u_y⟩:L.Pt) (⟨m_x,m_y⟩:L.Pt) (⟨v_x,v_y⟩:L.Pt) b)
 |_=>none
abbrev Qo:SE.Spec:=(AM YO)
def xQ:Aj:={ muts:=[],frz:=BH [],specs:=AF [],loops:=AY [],iters:=B6 [],rfs:=AU [],nils:=BD [] }
theorem xR (u:L.Pt) (m:L.Pt) (v:L.Pt) (b:Int) (hp:YM u m v b):vc Tryz.prog (xQ) (Af Tryz.f44) (Ar Tryz.f44 [.p (.agg [.int .i64 u.x,.int .i64 u.y]),.p (.agg [.int .i64 m.x,.int .i64 m.y]),.p (.agg [.int .i64 v.x,.int .i64 v.y]),.p (.int .i64 b)]) (AL Tryz.prog Tryz.f44 (YN u m v b)):=
 @Eq.mpr _ (let A10:=(0:Int);let A8:=(v.y-m.y);let A7:=(v.x-m.x);let A6:=(m.x-u.x);let A5:=(m.y-u.y);let A4:=(v.y-u.y);let A3:=(v.x-u.x);let A9:=(A3*A3+A4*A4);let A1:=(A3*A5-A4*A6);let A2:=(bif !decide (A3*A5-A4*A6=A10)then decide (Max.max A1 (A10-A1)<=A6*A7+A5*A8)else false);Ac .i64 A3/\Ac .i64 A5/\Ac .i64 (A3*A5)/\Ac .i64 A4/\Ac .i64 A6/\Ac .i64 (A4*A6)/\Ac .i64 A1/\Ac .i64 A6/\Ac .i64 A7/\Ac .i64 (A6*A7)/\Ac .i64 A5/\Ac .i64 A8/\Ac .i64 (A5*A8)/\Ac .i64 (A6*A7+A5*A8)/\Ac .i64 A3/\Ac .i64 A3/\Ac .i64 (A3*A3)/\Ac .i64 A4/\Ac .i64 A4/\Ac .i64 (A4*A4)/\Ac .i64 A9/\((!decide (A3*A5-A4*A6=A10))=true->Ac .i64 (A10-A1))/\(A2=true->Ac .i64 (A1*A1))/\(A2=true->Ac .i64 (b*b))/\(A2=true->Ac .i64 (b*b*A9))/\(bif bif !decide (A3*A5-A4*A6=A10)then decide (Max.max A1 (A10-A1)<=A6*A7+A5*A8)else false then decide (A1*A1<=b*b*A9)else false)=Fx u m v b) (by kernel_rfl) (by
 conv=>zeta
 obtain⟨h1,h2,h3,b0,b1⟩:=hp;unfold Ei at h1 h2 h3;have m1:=D4 (a:=v.x-u.x) (b:=m.y-u.y) (m:=4096) (n:=4096) (by omega) (by omega) (by omega) (by omega);have m2:=D4 (a:=v.y-u.y) (b:=m.x-u.x) (m:=4096) (n:=4096) (by omega) (by omega) (by omega) (by omega);have m3:=D4 (a:=m.x-u.x) (b:=v.x-m.x) (m:=4096) (n:=4096) (by omega) (by omega) (by omega) (by omega);have m4:=D4 (a:=m.y-u.y) (b:=v.y-m.y) (m:=4096) (n:=4096) (by omega) (by omega) (by omega) (by omega);have m5:=D4 (a:=v.x-u.x) (b:=v.x-u.x) (m:=4096) (n:=4096) (by omega) (by omega) (by omega) (by omega);have m6:=D4 (a:=v.y-u.y) (b:=v.y-u.y) (m:=4096) (n:=4096) (by omega) (by omega) (by omega) (by omega);have m7:=D4 (a:=(v.x-u.x)*(m.y-u.y)-(v.y-u.y)*(m.x-u.x)) (b:=(v.x-u.x)*(m.y-u.y)-(v.y-u.y)*(m.x-u.x)) (m:=33554432) (n:=33554432) (by omega) (by omega) (by omega) (by omega);have m8:=D4 (a:=b) (b:=b) (m:=4096) (n:=4096) (by omega) (by omega) (by omega) (by omega);have m9:=D4 (a:=b*b) (b:=(v.x-u.x)*(v.x-u.x)+(v.y-u.y)*(v.y-u.y)) (m:=16777216) (n:=33554432) (by omega) (by omega) (by omega) (by omega)
 repeat' with_reducible apply And.intro
 all_goals first|exact rfl|exact jK|exact fun _=>jK)
theorem YP:AB Tryz.prog 44 Qo:=AP Tryz.func44 (c:=Af Tryz.f44) (by kernel_rfl) mixed (fun args p r hs hp=>by
 unfold YO at hs;split at hs
 ·cases hs;exact⟨_,_,xR _ _ _ _ hp,(.same _ (.same _ (.same _ (.same _ .nil)))),⟨show Aa Tryz.prog _ from Aa.nil,rfl,⟨show Ae Tryz.prog _ from Ae.nil,(AC.none (fun _=>rfl))⟩⟩⟩
 ·cases hs)
theorem YQ:Ao Tryz.prog 44:=fun args w=>by kernel_rfl
def YR (n:Int) (p:AH):Prop:=n<=1000/\DV n p
def YS (n:Int) (p:AH):SV:=.sl 1 (BW n p+1) (fun i=>[.int .i64 (Ch n p i)])
def YT:List EV->Option (Prop×SV)
 |[.p (.int .i64 n),.p (.agg [.int .i64 p_fr,.int .i64 p_to_,.int .i64 p_area])]=>some (YR n (⟨p_fr,p_to_,p_area⟩:AH),YS n (⟨p_fr,p_to_,p_area⟩:AH))
 |_=>none
abbrev Qp:SE.Spec:=(AM YT)
def xS:Aj:={ cC with muts:=[9],frz:=BH [(6,[9])] }
theorem xT (n:Int) (p:AH) (hp:YR n p):vc Tryz.prog ({ xS with loops:=AY [(3,{ T:=Nat,keep:=[0,3,5],keepO:=[],chg:=fun i=>[(6,.p (.int .i64 (Ch n p i)))],own:=fun i=>[(9,.row 3 1 (i+1) (fun j=>[.int .i64 (Ch n p j)]))],inv:=fun i=>i<=BW n p,mu:=fun i=>BW n p-i })],rfs:=AU [] }) (Af Tryz.f89) (Ar Tryz.f89 [.p (.int .i64 n),.p (.agg [.int .i64 p.fr,.int .i64 p.to_,.int .i64 p.area])]) (AL Tryz.prog Tryz.f89 (YS n p)):=
 @Eq.mpr _ (let I:=SV.int .i64;let A4:=[I p.fr,I p.to_,I p.area];let A1:=(1:Nat);(∃(g:Nat),p.fr=Ch n p g/\(nat_lit 1=g+A1/\∀(i:Nat),i<nat_lit 1->Bb [I p.fr] (nat_lit 1) i = [I (Ch n p i)])/\g<=BW n p)/\∀(g:Nat),let A3:=(!decide (Ch n p g=p.to_));let A2:=(Ch n p g+(1:Int));g<=BW n p->(A3=true->Ac .i64 A2/\n≠(0:Int)/\(g+A1+nat_lit 1)*nat_lit 8<=(140737488355328:Nat)/\∃(g':Nat),AdF A2 n=Ch n p g'/\SV.ref A4 (nat_lit 0)=SV.ref A4 (nat_lit 0)/\n=n/\(g+A1+nat_lit 1=g'+A1/\∀(i:Nat),i<g+A1+nat_lit 1->Ba (g+A1) (fun(j:Nat)=>[I (Ch n p j)]) (fun(x:Nat)=>[I (AdF A2 n)]) i = [I (Ch n p i)])/\g'<=BW n p/\BW n p-g'<BW n p-g)/\(A3=false->g+A1=BW n p+A1/\∀(i:Nat),i<g+A1 -> [I (Ch n p i)]= [I (Ch n p i)])) (by kernel_rfl) (by
 conv=>zeta
 obtain⟨hn,hk⟩:=(show n<=1000/\DV n p from hp);obtain⟨d1,d2,f0,f1,fr,fe,fs⟩:=LD hk;refine⟨⟨(0:Nat),f0.symm,⟨rfl,fun i hi=>?_⟩,Ads _⟩,fun g hg=>⟨fun hc=>?_,fun hc=>?_⟩⟩
 ·have hi:i<1:=hi;obtain rfl:i=0:=by omega
  rw[f0];rfl
 ·have hc:¬ Ch n p g=p.to_:=of_decide_eq_false (CV hc);have hlt:g<BW n p:=by
   rcases AdX g (BW n p)with h|h
   ·exact h
   ·obtain rfl:g=BW n p:=by omega
    exact absurd f1 hc
  have hr:=fr g hg;refine⟨jK,by omega,by show(g+1+1)*8<=140737488355328;omega,g+1,fs g hlt,rfl,rfl,⟨rfl,fun i hi=>?_⟩,hlt,by omega⟩;have hi:i<g+1+1:=hi;unfold Ba
  by_cases e:i<g+1
  ·rw[if_pos e]
  ·rw[if_neg e];obtain rfl:i=g+1:=by omega
   rw[fs g hlt]
 ·have hc:Ch n p g=p.to_:=of_decide_eq_true (Cl hc);obtain rfl:=fe g hg hc;exact⟨rfl,fun _ _=>rfl⟩)
theorem YU:AB Tryz.prog 89 Qp:=AP Tryz.func89 (c:=Af Tryz.f89) (by kernel_rfl) mixed (fun args p r hs hp=>by
 unfold YT at hs;split at hs
 ·cases hs;exact⟨_,_,xT _ _ hp,(.same _ (.same _ .nil)),⟨show Aa Tryz.prog _ from Aa.nil,rfl,⟨show Ae Tryz.prog _ from Ae.nil,(AC.none (fun _=>rfl))⟩⟩⟩
 ·cases hs)
theorem YV:Ao Tryz.prog 89:=fun args w=>by kernel_rfl
def YW (i:Int) (b:(L.Sq Int)):Prop:=0<=i/\i<(b.n:Int)
def YX (i:Int) (b:(L.Sq Int)):SV:=.bool (decide (0<b.g i.toNat))
def Ik:List EV->Option (Prop×SV)
 |[.p (.int .i64 i),.p (.ref [.sl 1 b_n b_g] 0)]=>some ((∀i,i<b_n->b_g i = [.int .i64 ((DG (b_g i)))])/\YW i (⟨b_n,fun i=>DG (b_g i)⟩:(L.Sq Int)),YX i (⟨b_n,fun i=>DG (b_g i)⟩:(L.Sq Int)))
 |_=>none
abbrev YY:SE.Spec:=(AM Ik)
def xU:Aj:={ muts:=[],frz:=BH [],specs:=AF [],loops:=AY [],iters:=B6 [],rfs:=AU [],nils:=BD [] }
theorem xV (i:Int) (b:(L.Sq Int)) (hp:YW i b):vc Tryz.prog (xU) (Af Tryz.f136) (Ar Tryz.f136 [.p (.int .i64 i),.p (.ref [.sl 1 b.n (fun i=>[.int .i64 ((b.g i))])] 0)]) (AL Tryz.prog Tryz.f136 (YX i b)):=
 @Eq.mpr _ (((0:Int)<=i/\i<(↑b.n:Int))/\decide ((0:Int)<b.g (Ad6 i))=decide ((0:Int)<b.g (Ad6 i))) (by kernel_rfl) (by
 exact⟨hp,rfl⟩)
theorem xW:AB Tryz.prog 136 YY:=AP Tryz.func136 (c:=Af Tryz.f136) (by kernel_rfl) mixed (fun args p r hs hp=>by
 unfold Ik at hs;split at hs
 ·cases hs; exact⟨_, _, xV _ _ hp.2, (.same _ (.p (Bo.ref rfl (fun i hi =>by
  rcases i with _|i
  ·show Bo (SV.sl _ _ _) (SV.sl _ _ _);exact(Bo.sl hp.1)
  exact absurd hi (by simp;try omega))) .nil)),⟨show Aa Tryz.prog _ from Aa.nil,rfl,⟨show Ae Tryz.prog _ from Ae.nil,(AC.none (fun _=>rfl))⟩⟩⟩
 ·cases hs)
theorem xX:Ao Tryz.prog 136:=fun args w=>by kernel_rfl
theorem xY:∀args p r,Ik args=some (p,r)->∃b,r=.bool b:=by
 intro args p r h;unfold Ik at h;split at h
 ·cases h;exact⟨_,rfl⟩
 ·cases h
def YZ (l:(L.Sq L.Pt)) (p:AH):Prop:=AA l=true/\DV l.n p
def Za (l:(L.Sq L.Pt)) (p:AH):SV:=.bool (GB l p)
def Zb:List EV->Option (Prop×SV)
 |[.p (.sl 2 l_n l_g),.p (.agg [.int .i64 p_fr,.int .i64 p_to_,.int .i64 p_area])]=>some ((∀i,i<l_n->l_g i = [.int .i64 ((Ai (l_g i)).x),.int .i64 ((Ai (l_g i)).y)])/\YZ (⟨l_n,fun i=>Ai (l_g i)⟩:(L.Sq L.Pt)) (⟨p_fr,p_to_,p_area⟩:AH),Za (⟨l_n,fun i=>Ai (l_g i)⟩:(L.Sq L.Pt)) (⟨p_fr,p_to_,p_area⟩:AH))
 |_=>none
abbrev Zc:SE.Spec:=(AM Zb)
def xZ:Aj:={ cC with muts:=[5],frz:=BH [(3,[5])],specs:=AF [(134,UU),(89,Qp),(135,Uc),(136,YY)] }
theorem yA (l:(L.Sq L.Pt)) (p:AH) (hp:YZ l p):vc Tryz.prog (xZ) (Af Tryz.f87) (Ar Tryz.f87 [.p (.sl 2 l.n (fun i=>[.int .i64 ((l.g i).x),.int .i64 ((l.g i).y)])),.p (.agg [.int .i64 p.fr,.int .i64 p.to_,.int .i64 p.area])]) (AL Tryz.prog Tryz.f87 (Za l p)):=
 @Eq.mpr _ (let I:=SV.int .i64;let T:=Ad6;let A12:=(0:Nat);let A8:=(↑l.n:Int);let A6:=(1:Int);let A3:=(↑(BW A8 p+(1:Nat)):Int);let A9:=(A3-A6-A6);let A1:=(L.Sq.mk l.n fun(i:Nat)=>Ai ((fun(i:Nat)=>[I (l.g i).x,I (l.g i).y]) i));let A4:=[SV.ref [SV.sl (nat_lit 1) (bif AA A1 then A1.n else A12) fun(k:Nat)=>[I (FF A1 k)]] (nat_lit 0)];((∀(i:Nat),let A11:=[I (l.g i).x,I (l.g i).y];i<l.n->A11=A11)/\l.n<=(1000000:Nat))/\(A8<=(1000:Int)/\DV A8 p)/\Ac .i64 (A3-A6)/\((0:Int)<=A6/\A6<=A3-A6/\A3-A6<=A3)/\((∀(i:Nat),let A10:=[I (Ch A8 p (T A6+i))];i<T A9->A10=A10)/\EN (B1.mk (fun(«as»:List SV)=>De Ik (Ad9 EV.p «as» ++ Ad9 EV.p A4)) fun(«as»:List SV)=>DF Ik (Ad9 EV.p «as» ++ Ad9 EV.p A4))/\T A9<=(1000000:Nat)/\∀(i:Nat),i<T A9->(∀(i:Nat),let A7:=(L.Sq.mk l.n fun(i:Nat)=>l.g i);(i<bif AA A7 then l.n else A12) -> [I (FF A7 i)]= [I (FF A7 i)])/\(0:Int)<=Ch A8 p (T A6+i)/\Ch A8 p (T A6+i)<(↑(bif AA (L.Sq.mk l.n fun(i:Nat)=>l.g i)then l.n else A12):Int))/\(!BV (T A9) fun(i:Nat)=>let A2:=(L.Sq.mk l.n fun(i:Nat)=>Ai ((fun(i:Nat)=>[I (l.g i).x,I (l.g i).y]) i));let A5:=[SV.ref [SV.sl (nat_lit 1) (bif AA A2 then A2.n else A12) fun(k:Nat)=>[I (FF A2 k)]] (nat_lit 0)];Bi (B1.mk (fun(«as»:List SV)=>De Ik (Ad9 EV.p «as» ++ Ad9 EV.p A5)) fun(«as»:List SV)=>DF Ik (Ad9 EV.p «as» ++ Ad9 EV.p A5)) [I (Ch A8 p (T A6+i))])=GB l p) (by kernel_rfl) (by
 conv=>zeta
 obtain⟨hv,hk⟩:=(show AA l=true/\DV l.n p from hp);obtain⟨n3,n24,_,_⟩:=Dw hv;obtain⟨d1,d2,f0,f1,fr,fe,fs⟩:=LD hk;have eN:(((BW l.n p+1:Nat):Int)-1-1).toNat=BW l.n p-1:=by omega
 have eB:(bif AA l then l.n else 0)=l.n:=by rw[hv];rfl
 refine⟨⟨fun _ _=>rfl,by omega⟩,⟨by omega,hk⟩,jK,⟨by omega,by omega,by omega⟩,⟨fun _ _=>rfl,Lq xY _,by omega,fun i hi=>⟨fun _ _=>rfl,?_⟩⟩,?_⟩
 ·rw[eB];rw[eN]at hi;exact fr (1+i) (by omega)
 ·rw[eN];unfold GB;rfl)
theorem yB:AB Tryz.prog 87 Zc:=AP Tryz.func87 (c:=Af Tryz.f87) (by kernel_rfl) mixed (fun args p r hs hp=>by
 unfold Zb at hs;split at hs
 ·cases hs;exact⟨_,_,yA _ _ hp.2,(.p (.sl hp.1) (.same _ .nil)),⟨show Aa Tryz.prog _ from(Aa.cons pJ pK (Aa.cons YU YV (Aa.cons nP nQ (Aa.cons xW xX Aa.nil)))),rfl,⟨show Ae Tryz.prog _ from Ae.nil,(AC.none (fun _=>rfl))⟩⟩⟩
 ·cases hs)
theorem yC:Ao Tryz.prog 87:=fun args w=>by kernel_rfl
def Zd (s:Nat) (n:Int):Prop:=1<=n/\n<=2000000
def Ze (s:Nat) (n:Int):Nat->Prop:=fun _=>True
def Zf (s:Nat) (n:Int):Nat->Nat:=fun _=>0
def Zg (s:Nat) (n:Int):Nat->Nat->List SV:=fun _ _=>[]
def Zh:List EV->Option (Prop×(Nat->Prop)×(Nat->Nat)×(Nat->Nat->List SV))
 |[.p (.raw (.slice none 0 0)),.p (.int .i64 n)]=>some (Zd (0:Nat) n,Ze (0:Nat) n,Zf (0:Nat) n,Zg (0:Nat) n)
 |_=>none
abbrev Zi:SE.Spec:=(FC Nat 0 37 3 Zh)
def yD:Aj:={ cC with muts:=[22],cuts:=[25] }
theorem yE (s:Nat) (n:Int) (hp:Zd s n):vc Tryz.prog (yD) (Af Tryz.f179) (Ar Tryz.f179 [.p (.raw (.slice none 0 0)),.p (.int .i64 n)]) (EM Tryz.prog Tryz.f179 (Nat) (Ze s n) 37 3 (Zf s n) (Zg s n)):=
 @Eq.mpr _ (let A4:=(0:Nat);let A2:=(0:Int);let A1:=(↑A4:Int);let A3:=(A1-A1);(decide (n<A2)=true->False)/\(decide (n<A2)=false->Ac .i64 A3/\Ac .i64 (n-A3)/\(decide (A2<n-A3)=true->(A2<=A2/\A2<=A1/\A1<=A2)/\(A2<n-A3/\(n-A3)*(↑(nat_lit 24):Int)<=(140737488355328:Int))/\(A2<=A1/\A1<=(↑(Ad6 (n-A3)):Int))/\∃(t:Nat),(nat_lit 0=A4/\∀(i:Nat),i<nat_lit 0 -> [SV.int .i64 A2,SV.int .i64 A2,SV.int .i64 A2]= [])/\True)/\(decide (A2<n-A3)=false->∃(t:Nat),A4=A4/\True))) (by kernel_rfl) (by
 conv=>zeta
 obtain⟨h1,h2⟩:=hp;refine⟨fun h=>?_,fun _=>⟨jK,jK,fun h=>⟨⟨by omega,by omega,by omega⟩,⟨by omega,show(n-(((0:Nat):Int)-((0:Nat):Int)))*24<=140737488355328 by omega⟩,⟨by omega,by omega⟩,(0:Nat),⟨rfl,fun i hi=>absurd hi (oE _)⟩,trivial⟩,fun h=>⟨(0:Nat),rfl,trivial⟩⟩⟩;have:=of_decide_eq_true h;omega)
theorem yF:AB Tryz.prog 179 Zi:=Ge Tryz.func179 (c:=Af Tryz.f179) (by kernel_rfl) mixed (fun args p q n g hs hp=>by
 unfold Zh at hs;split at hs
 ·cases hs;exact⟨_,_,yE _ _ hp,(.same _ (.same _ .nil)),⟨show Aa Tryz.prog _ from Aa.nil,rfl,⟨show Ae Tryz.prog _ from Ae.nil,(AC.none (fun _=>rfl))⟩⟩⟩
 ·cases hs)
theorem yG:Ao Tryz.prog 179:=fun args w=>by kernel_rfl
def Zj (c:(Nat->L.Sq BA)):Prop:=(1<=(c 0).n/\(c 0).n<=10000)/\(c 1).n<=10000/\(c 2).n<=10000
def Zk (c:(Nat->L.Sq BA)):Nat->Prop:=fun _=>True
def Zl (c:(Nat->L.Sq BA)):Nat->Nat:=fun _=>(BB c 3).n
def Zm (c:(Nat->L.Sq BA)):Nat->Nat->List SV:=fun _ k=>[.int .i64 (((BB c 3).g k).a),.int .i64 (((BB c 3).g k).b),.int .i64 (((BB c 3).g k).c)]
def Zn:List EV->Option (Prop×(Nat->Prop)×(Nat->Nat)×(Nat->Nat->List SV))
 |[.p (.sl 1 3 c_g)]=>some ((H5 (c_g 0)/\H5 (c_g 1)/\H5 (c_g 2))/\Zj (CZ (Cy (c_g 0)) (Cy (c_g 1)) (Cy (c_g 2))),Zk (CZ (Cy (c_g 0)) (Cy (c_g 1)) (Cy (c_g 2))),Zl (CZ (Cy (c_g 0)) (Cy (c_g 1)) (Cy (c_g 2))),Zm (CZ (Cy (c_g 0)) (Cy (c_g 1)) (Cy (c_g 2))))
 |_=>none
abbrev Zo:SE.Spec:=(FC Nat 0 37 3 Zn)
def yH:Aj:={ cC with muts:=[24],specs:=AF [(179,Zi)],raws:=[179] }
theorem yI (c:(Nat->L.Sq BA)) (hp:Zj c):vc Tryz.prog ({ yH with loops:=AY [(3,{ T:=Nat,keep:=[0,9,10],keepO:=[],chg:=fun i=>[(3,.p (.int .i64 ((BB c i).n:Int))),(11,.p (.int .i64 (i:Int)))],own:=fun _=>[],inv:=fun i=>i<=3,mu:=fun i=>3-i }),(11,{ T:=Nat,keep:=[0,6,25,26],keepO:=[],chg:=fun i=>[(27,.p (.int .i64 (i:Int)))],own:=fun i=>[(24,.row 37 3 (BB c i).n (fun k=>[.int .i64 (((BB c i).g k).a),.int .i64 (((BB c i).g k).b),.int .i64 (((BB c i).g k).c)]))],inv:=fun i=>i<=3,mu:=fun i=>3-i })],rfs:=AU [] }) (Af Tryz.f138) (Ar Tryz.f138 [.p (.sl 1 3 (fun i=>[.sl 3 (c i).n (fun k=>[.int .i64 ((c i).g k).a,.int .i64 ((c i).g k).b,.int .i64 ((c i).g k).c])]))]) (EM Tryz.prog Tryz.f138 (Nat) (Zk c) 37 3 (Zl c) (Zm c)):=
  @Eq.mpr _ (let I:=SV.int .i64;let T:=Ad6;let A14:=(1:Int);let A13:=(0:Int);let A6:=(3:Nat);let A2:=(↑(nat_lit 3):Int);(∃(g:Nat),A13=(↑(BB c g).n:Int)/\A13=(↑g:Int)/\g<=A6)/\∀(g:Nat),let A8:=(↑g:Int);let A15:=(↑(c (T A8)).n:Int);let A7:=(↑(BB c g).n:Int);let A1:=(nat_lit 3=nat_lit 3/\∀(i:Nat),let A5 :=
 [SV.sl A6 (c i).n fun(k:Nat)=>[I ((c i).g k).a,I ((c i).g k).b,I ((c i).g k).c]];i<nat_lit 3->A5=A5);g<=A6->(decide (A8<A2)=true->(A13<=A8/\A8<A2)/\Ac .i64 (A7+A15)/\(false=true->False)/\(false=false->Ac .i64 (A8+A14)/\∃(g':Nat),A7+A15=(↑(BB c g').n:Int)/\A8+A14=(↑g'
:Int)/\A2=A2/\A1/\A1/\g'<=A6/\A6-g'<A6-g))/\(decide (A8<A2)=false->(A14<=A7/\A7<=(2000000:Int))/\∀(t:Nat),True->(∃(g:Nat),A13=(↑g:Int)/\((0:Nat)=(BB c g).n/\∀(i:Nat),let A12:=((BB c g).g i);i<(0:Nat) -> []= [I A12.a,I A12.b,I A12.c])/\g<=A6)/\∀(g_1:Nat),let A4:=(↑g_1:Int);let A9:=(c (T A4));let A3 :=
 (BB c g_1);g_1<=A6->(decide (A4<A2)=true->(A13<=A4/\A4<A2)/\(A3.n+A9.n)*nat_lit 24<=(140737488355328:Nat)/\Ac .i64 (A4+A14)/\∃(g':Nat),A4+A14=(↑g':Int)/\A2=A2/\A1/\A1/\(A3.n+A9.n=(BB c g').n/\∀(i:Nat),let A10:=((BB c g').g i);i<A3.n+A9.n->Ba A3.n (fun(k:Nat)=>[I (A3.g k).a,I (A3.g
 k).b,I (A3.g k).c]) (fun(k:Nat)=>[I (A9.g k).a,I (A9.g k).b,I (A9.g k).c]) i = [I A10.a,I A10.b,I A10.c])/\g'<=A6/\A6-g'<A6-g_1)/\(decide (A4<A2)=false->∃(t:Nat),(A3.n=(BB c A6).n/\∀(i:Nat),let A11:=((BB c A6).g i);i<A3.n -> [I (A3.g i).a,I (A3.g i).b,I (A3.g i).c]= [I A11.a,I A11.b,I A11.c])/\True))) (by kernel_rfl) (by
  conv=>zeta
  obtain⟨⟨h0,h1⟩,h2,h3⟩:=hp;have hc:∀i,i<3->(c i).n<=10000:=fun i hi=>by
   match i,hi with
   |0,_=>exact h1
   |1,_=>exact h2
   |2,_=>exact h3
  have e1:(BB c 1).n=0+(c 0).n:=rfl;have e2:(BB c 2).n=0+(c 0).n+(c 1).n:=rfl;have e3:(BB c 3).n=0+(c 0).n+(c 1).n+(c 2).n:=rfl;have ht:∀i,i<=3->(BB c i).n<=30000:=fun i hi=>by
   match i,hi with
   |0,_=>exact Ads _
   |1,_=>omega
   |2,_=>omega
   |3,_=>omega
  refine⟨⟨(0:Nat),rfl,rfl,Ads _⟩,fun g hg=>⟨fun hlt=>?_,fun hge=>?_⟩⟩
  ·have hb:(g:Int)<3:=of_decide_eq_true hlt;have e0:((g:Int)).toNat=g:=by omega
   have hcg:=hc g (by omega);have htg:=ht g hg;rw[e0];exact⟨⟨by omega,hb⟩,jK,fun h=>Bool.false_ne_true h,fun _=>⟨jK,g+1,by show((BB c g).n:Int)+((c g).n:Int)=(((BB c g).n+(c g).n:Nat):Int);omega,by omega,rfl,⟨rfl,fun _ _=>rfl⟩,⟨rfl,fun _ _=>rfl⟩,by omega,by omega⟩⟩
  ·have hb:¬ (g:Int)<3:=of_decide_eq_false hge;obtain rfl:g=3:=by omega
   refine⟨⟨by omega,by omega⟩,fun _ _=>⟨⟨(0:Nat),rfl,⟨rfl,fun i hi=>absurd hi (oE _)⟩,Ads _⟩,fun k hk=>⟨fun hlt=>?_,fun hge=>?_⟩⟩⟩
   ·have hb:(k:Int)<3:=of_decide_eq_true hlt;have e0:((k:Int)).toNat=k:=by omega
    have hck:=hc k (by omega);have htk:=ht k hk;rw[e0];refine⟨⟨by omega,hb⟩,show((BB c k).n+(c k).n)*24<=140737488355328 by omega,jK,k+1,by omega,rfl,⟨rfl,fun _ _=>rfl⟩,⟨rfl,fun _ _=>rfl⟩,⟨rfl,fun i hi=>?_⟩,by omega,by omega⟩;unfold Ba
    by_cases h:i<(BB c k).n
    ·have w : (BB c (k+1)).g i = (BB c k).g i :=by
      show(bif decide (i<(BB c k).n)then _ else _)=_;rw[decide_eq_true h];rfl
     rw[if_pos h,w]
    ·have w : (BB c (k+1)).g i = (c k).g (i-(BB c k).n):=by
      show(bif decide (i<(BB c k).n)then _ else _)=_;rw[decide_eq_false h];rfl
     rw[if_neg h,w]
   ·have hb:¬ (k:Int)<3:=of_decide_eq_false hge;obtain rfl:k=3:=by omega
    exact⟨(0:Nat),⟨rfl,fun _ _=>rfl⟩,trivial⟩)
theorem yJ:AB Tryz.prog 138 Zo:=Ge Tryz.func138 (c:=Af Tryz.f138) (by kernel_rfl) mixed (fun args p q n g hs hp=>by
 unfold Zn at hs;split at hs
 ·cases hs;exact⟨_,_,yI _ hp.2,(.p (xK hp.1) .nil),⟨show Aa Tryz.prog _ from(Aa.cons yF yG Aa.nil),rfl,⟨show Ae Tryz.prog _ from Ae.nil,(AC.none (fun _=>rfl))⟩⟩⟩
 ·cases hs)
theorem yK:Ao Tryz.prog 138:=fun args w=>by kernel_rfl
abbrev Il:Mk:={ T:=(L.Sq L.Pt)×(L.Sq Int)×(Int)×(Nat)×(Nat),U:=Nat,args:=fun t=>(fun l r bite a b=>[.p (.int .i64 (a:Int)),.p (.int .i64 (b:Int))] ++ [.loc 1000 0,.p (.ref [(.sl 2 l.n (fun i=>[.int .i64 ((l.g i).x),.int .i64 ((l.g i).y)]))] 0),.p (.ref [(.sl 1 r.n (fun i=>[.int .i64 ((r.g i))]))] 0),.p (.ref [.int .i64 bite] 0),.loc 1001 0]) t.1 t.2.1 t.2.2.1 t.2.2.2.1 t.2.2.2.2,lkeys:=[1000,1001,1002],keys:=[],lent:=fun t=>(fun l r bite a b=>[(1000,.blk 198 [.mapv 1002]),(1001,.blk 199 [.cl 137 [.loc 1000 0,.p (.ref [(.sl 2 l.n (fun i=>[.int .i64 ((l.g i).x),.int .i64 ((l.g i).y)]))] 0),.p (.ref [(.sl 1 r.n (fun i=>[.int .i64 ((r.g i))]))] 0),.p (.ref [.int .i64 bite] 0),.loc 1001 0]]),(1002,.ms 200 4 (C4 l r bite))]) t.1 t.2.1 t.2.2.1 t.2.2.2.1 t.2.2.2.2,pre:=fun t=>(fun l r bite a b=>GC l r bite/\a<b/\b<r.n) t.1 t.2.1 t.2.2.1 t.2.2.2.1 t.2.2.2.2,post:=fun t u=>(fun l r bite a b=>fun uu=>True) t.1 t.2.1 t.2.2.1 t.2.2.2.1 t.2.2.2.2 u,lent':=fun t u=>(fun l r bite a b=>fun uu=>[(1000,.blk 198 [.mapv 1002]),(1001,.blk 199 [.cl 137 [.loc 1000 0,.p (.ref [(.sl 2 l.n (fun i=>[.int .i64 ((l.g i).x),.int .i64 ((l.g i).y)]))] 0),.p (.ref [(.sl 1 r.n (fun i=>[.int .i64 ((r.g i))]))] 0),.p (.ref [.int .i64 bite] 0),.loc 1001 0]]),(1002,.ms 200 4 (C4 l r bite))]) t.1 t.2.1 t.2.2.1 t.2.2.2.1 t.2.2.2.2 u,own:=fun t u=>(fun l r bite a b=>fun uu=>[]) t.1 t.2.1 t.2.2.1 t.2.2.2.1 t.2.2.2.2 u,res:=fun t u=>(fun l r bite a b=>fun uu=>.p (.tup [.sl 3 (AN (BF l r bite a b)).n (fun i=>[.int .i64 (((AN (BF l r bite a b)).g i).a),.int .i64 (((AN (BF l r bite a b)).g i).b),.int .i64 (((AN (BF l r bite a b)).g i).c)]),.bool (BJ (BF l r bite a b))])) t.1 t.2.1 t.2.2.1 t.2.2.2.1 t.2.2.2.2 u }
abbrev Zp:Il.T->Nat:=fun t=>(fun l r bite a b=>b-a) t.1 t.2.1 t.2.2.1 t.2.2.2.1 t.2.2.2.2
theorem yL (rn:Nat) (l:L.Sq L.Pt) (r:L.Sq Int) (bite:Int) (a:Nat) (b:Nat) (hp:Il.pre (l,r,bite,a,b)) (hmu:b-a<rn+1):vc Tryz.prog ({ muts:=[],frz:=BH [],specs:=AF [(44,Qo),(138,Zo)],loops:=AY [(6,{ T:=Nat,keep:=[0,1,2,3,4,5,6],keepO:=[1000,1001,1002],chg:=fun i=>[(11,.p (.int .i64 ((a+1+i:Nat):Int)))],own:=fun _=>[],inv:=fun i=>i<=b-a-1/\∀j,j<i->DL l r bite a b (a+1+j)=none,mu:=fun i=>b-a-i })],iters:=B6 [],rfs:=AU [],nils:=BD [],mks:=EA [(137,Mk.lt Il Zp rn)],ren:=fun k=>k }) (Af Tryz.f137) (D3 Tryz.f137 (Il.args (l,r,bite,a,b)) (Il.lent (l,r,bite,a,b))) (FD Tryz.prog Tryz.f137 Il (l,r,bite,a,b)):=
 @Eq.mpr _ (let I:=SV.int .i64;let T:=Ad6;let A87:=(3:Nat);let A78:=(1001:Nat);let A77:=(1000:Nat);let A73:=(2:Nat);let A69:=(nat_lit 2);let A62:=(nat_lit 1001);let A61:=(nat_lit 1000);let A60:=(↑l.n:Int);let A57:=(10000:Nat);let A52:=(nat_lit 1);let A49:=(137:Nat);let A44:=(↑r.n:Int);let A43:=(1:Int);let A39:=(0:Int);let A25:=(0:Nat);let A24:=(nat_lit 137);let A23:=(1:Nat);let A18:=(∀(a b:Int),C4 l r bite a b->C4 l r bite a b);let A15:=(BF l r bite a b);let A40:=(AN A15);let A14:=(↑b:Int);let A68:=(A39<=r.g (T A14)/\r.g (T A14)<A60);let A56:=(A39<=A14/\A14<A44);let A34:=(r.g (T A14));let A71:=(l.g (T A34));let A13:=(↑a:Int);let A67:=(A39<=r.g (T A13)/\r.g (T A13)<A60);let A55:=(A39<=A13/\A13<A44);let A33:=(r.g (T A13));let A70:=(l.g (T A33));let A28:=(∃(g:Nat),A13+A43=(↑(a+A23+g):Int)/\g<=b-a-A23/\∀(j:Nat),j<g->DL l r bite a b (a+A23+j)=AdB);let A8:=[SV.sl A52 r.n fun(i:Nat)=>[I (r.g i)]];let A7:=(nat_lit 0);let A6:=[SV.sl A69 l.n fun(i:Nat)=>[I (l.g i).x,I (l.g i).y]];let A1:=[EV.loc A61 A7,EV.p (SV.ref A6 A7),EV.p (SV.ref A8 A7),EV.p (SV.ref [I bite] A7),EV.loc A62 A7];Ac .i64 (A13+A43)/\(decide (A14=A13+A43)=true->∃(u:Nat),A40.n=A25/\true=BJ A15/\EV.cl A24 A1=EV.cl A49 A1/\A18/\True)/\(decide (A14=A13+A43)=false->(C4 l r bite A13 A14->(true=true->∃(u:Nat),A40.n=A25/\false=BJ A15/\EV.cl A24 A1=EV.cl A49 A1/\A18/\True)/\(true=false->Ac .i64 (A13+A43)/\A28/\∀(g:Nat),let A9:=(↑(a+A23+g):Int);let A82:=(A39<=A9/\A9<A44);let A59:=(r.g (T A9));let A86:=[I A33,I A59,I A34];let A54:=(!Fx A70 (l.g (T A59)) A71 bite);let A17:=(L.Sq.mk A52 fun(i:Nat)=>BA.mk A33 A59 A34);(g<=b-a-A23/\∀(j:Nat),j<g->DL l r bite a b (a+A23+j)=AdB)->(decide (A9<A14)=true->A55/\A67/\A82/\(A39<=r.g (T A9)/\r.g (T A9)<A60)/\A56/\A68/\(Ei A70/\Ei (l.g (T A59))/\Ei A71/\A39<=bite/\bite<=(4096:Int))/\(A54=true->Ac .i64 (A9+A43)/\∃(g':Nat),A9+A43=(↑(a+A23+g'):Int)/\A13=A13/\A14=A14/\nat_lit 0=nat_lit 0/\SV.ref A6 A7=SV.ref A6 A7/\SV.ref A8 A7=SV.ref A8 A7/\SV.ref [I bite] A7=SV.ref [I bite] A7/\nat_lit 0=nat_lit 0/\EV.cl A24 A1=EV.cl A24 A1/\A18/\(g'<=b-a-A23/\∀(j:Nat),j<g'->DL l r bite a b (a+A23+j)=AdB)/\b-a-g'<b-a-g)/\(A54=false->∃(t:L.Sq L.Pt×L.Sq Int×Int×Nat×Nat),let A72:=[I t.snd.2.1];let A85:=(SV.ref A72 A7);let A41:=(BF t.1 t.2.1 t.snd.2.1 t.snd.snd.2.1 t.snd.snd.2.2);let A37:=[SV.sl A52 t.2.1.n fun(i:Nat)=>[I (t.2.1.g i)]];let A84:=(SV.ref A37 A7);let A26:=[SV.sl A69 t.1.n fun(i:Nat)=>[I (t.1.g i).x,I (t.1.g i).y]];let A83:=(SV.ref A26 A7);let A21:=[EV.loc A77 A7,EV.p A83,EV.p A84,EV.p A85,EV.loc A78 A7];let A4:=(AN A41);let A29:=(L.Sq.mk A4.n fun(i:Nat)=>A4.g i);A13=(↑t.snd.snd.2.1:Int)/\A9=(↑t.snd.snd.2.2:Int)/\nat_lit 0=A25/\SV.ref A6 A7=SV.ref [SV.sl A73 t.1.n fun(i:Nat)=>[I (t.1.g i).x,I (t.1.g i).y]] A25/\SV.ref A8 A7=SV.ref [SV.sl A23 t.2.1.n fun(i:Nat)=>[I (t.2.1.g i)]] A25/\SV.ref [I bite] A7=SV.ref A72 A25/\nat_lit 0=A25/\EV.cl A24 A1=EV.cl A49 [EV.loc A61 A7,EV.p A83,EV.p A84,EV.p A85,EV.loc A62 A7]/\(∀(a b:Int),C4 l r bite a b->C4 t.1 t.2.1 t.snd.2.1 a b)/\((GC t.1 t.2.1 t.snd.2.1/\t.snd.snd.2.1<t.snd.snd.2.2/\t.snd.snd.2.2<t.2.1.n)/\t.snd.snd.2.2-t.snd.snd.2.1<rn)/\∀(u:Nat),True->((!BJ A41)=true->Ac .i64 (A9+A43)/\∃(g':Nat),A9+A43=(↑(a+A23+g'):Int)/\A13=A13/\A14=A14/\nat_lit 0=nat_lit 0/\SV.ref A6 A7=SV.ref A6 A7/\SV.ref A8 A7=SV.ref A8 A7/\SV.ref [I bite] A7=SV.ref [I bite] A7/\nat_lit 0=nat_lit 0/\EV.cl A24 A21=EV.cl A24 A1/\(∀(a b:Int),C4 t.1 t.2.1 t.snd.2.1 a b->C4 l r bite a b)/\(g'<=b-a-A23/\∀(j:Nat),j<g'->DL l r bite a b (a+A23+j)=AdB)/\b-a-g'<b-a-g)/\((!BJ A41)=false->∃(t_1:L.Sq L.Pt×L.Sq Int×Int×Nat×Nat),let A74:=(SV.ref [I t_1.snd.2.1] A7);let A50:=(∀(a b:Int),C4 t_1.1 t_1.2.1 t_1.snd.2.1 a b->C4 l r bite a b);let A47:=(SV.ref [SV.sl A52 t_1.2.1.n fun(i:Nat)=>[I (t_1.2.1.g i)]] A7);let A45:=(SV.ref [SV.sl A69 t_1.1.n fun(i:Nat)=>[I (t_1.1.g i).x,I (t_1.1.g i).y]] A7);let A35:=(BF t_1.1 t_1.2.1 t_1.snd.2.1 t_1.snd.snd.2.1 t_1.snd.snd.2.2);let A19:=[EV.loc A77 A7,EV.p A45,EV.p A47,EV.p A74,EV.loc A78 A7];let A2:=(AN A35);let A30:=(L.Sq.mk A2.n fun(i:Nat)=>A2.g i);let A79:=(CZ A17 A29 A30 A25);A9=(↑t_1.snd.snd.2.1:Int)/\A14=(↑t_1.snd.snd.2.2:Int)/\nat_lit 0=A25/\SV.ref A26 A7=SV.ref [SV.sl A73 t_1.1.n fun(i:Nat)=>[I (t_1.1.g i).x,I (t_1.1.g i).y]] A25/\SV.ref A37 A7=SV.ref [SV.sl A23 t_1.2.1.n fun(i:Nat)=>[I (t_1.2.1.g i)]] A25/\SV.ref A72 A7=SV.ref [I t_1.snd.2.1] A25/\nat_lit 0=A25/\EV.cl A24 A21=EV.cl A49 [EV.loc A61 A7,EV.p A45,EV.p A47,EV.p A74,EV.loc A62 A7]/\(∀(a b:Int),C4 t.1 t.2.1 t.snd.2.1 a b->C4 t_1.1 t_1.2.1 t_1.snd.2.1 a b)/\((GC t_1.1 t_1.2.1 t_1.snd.2.1/\t_1.snd.snd.2.1<t_1.snd.snd.2.2/\t_1.snd.snd.2.2<t_1.2.1.n)/\t_1.snd.snd.2.2-t_1.snd.snd.2.1<rn)/\∀(u:Nat),True->(BJ A35=true->A55/\A82/\A56/\(((∀(i:Nat),i<nat_lit 1->A86=A86)/\(∀(i:Nat),let A63:=[I (A4.g i).a,I (A4.g i).b,I (A4.g i).c];i<A4.n->A63=A63)/\∀(i:Nat),let A64:=[I (A2.g i).a,I (A2.g i).b,I (A2.g i).c];i<A2.n->A64=A64)/\(A23<=A79.n/\A79.n<=A57)/\(CZ A17 A29 A30 A23).n<=A57/\(CZ A17 A29 A30 A73).n<=A57)/\∀(t_2:Nat),True->∃(u:Nat),((BB (CZ A17 A29 A30) A87).n=A40.n/\∀(i:Nat),let A12:=(BB (CZ (L.Sq.mk A52 fun(i:Nat)=>BA.mk A33 A59 A34) (L.Sq.mk A4.n fun(i:Nat)=>A4.g i) (L.Sq.mk A2.n fun(i:Nat)=>A2.g i)) A87);i<A12.n -> [I (A12.g i).a,I (A12.g i).b,I (A12.g i).c]= [I (A40.g i).a,I (A40.g i).b,I (A40.g i).c])/\true=BJ A15/\EV.cl A24 A19=EV.cl A49 A1/\A50/\True)/\(BJ A35=false->Ac .i64 (A9+A43)/\∃(g':Nat),A9+A43=(↑(a+A23+g'):Int)/\A13=A13/\A14=A14/\nat_lit 0=nat_lit 0/\SV.ref A6 A7=SV.ref A6 A7/\SV.ref A8 A7=SV.ref A8 A7/\SV.ref [I bite] A7=SV.ref [I bite] A7/\nat_lit 0=nat_lit 0/\EV.cl A24 A19=EV.cl A24 A1/\A50/\(g'<=b-a-A23/\∀(j:Nat),j<g'->DL l r bite a b (a+A23+j)=AdB)/\b-a-g'<b-a-g))))/\(decide (A9<A14)=false->true=true/\C4 l r bite A13 A14/\∃(u:Nat),A40.n=A25/\false=BJ A15/\EV.cl A24 A1=EV.cl A49 A1/\A18/\True)))/\(false=true->∃(u:Nat),A40.n=A25/\false=BJ A15/\EV.cl A24 A1=EV.cl A49 A1/\A18/\True)/\(false=false->Ac .i64 (A13+A43)/\A28/\∀(g:Nat),let A10:=(↑(a+A23+g):Int);let A80:=(A39<=A10/\A10<A44);let A58:=(r.g (T A10));let A91:=[I A33,I A58,I A34];let A53:=(!Fx A70 (l.g (T A58)) A71 bite);let A16:=(L.Sq.mk A52 fun(i:Nat)=>BA.mk A33 A58 A34);(g<=b-a-A23/\∀(j:Nat),j<g->DL l r bite a b (a+A23+j)=AdB)->(decide (A10<A14)=true->A55/\A67/\A80/\(A39<=r.g (T A10)/\r.g (T A10)<A60)/\A56/\A68/\(Ei A70/\Ei (l.g (T A58))/\Ei A71/\A39<=bite/\bite<=(4096:Int))/\(A53=true->Ac .i64 (A10+A43)/\∃(g':Nat),A10+A43=(↑(a+A23+g'):Int)/\A13=A13/\A14=A14/\nat_lit 0=nat_lit 0/\SV.ref A6 A7=SV.ref A6 A7/\SV.ref A8 A7=SV.ref A8 A7/\SV.ref [I bite] A7=SV.ref [I bite] A7/\nat_lit 0=nat_lit 0/\EV.cl A24 A1=EV.cl A24 A1/\A18/\(g'<=b-a-A23/\∀(j:Nat),j<g'->DL l r bite a b (a+A23+j)=AdB)/\b-a-g'<b-a-g)/\(A53=false->∃(t:L.Sq L.Pt×L.Sq Int×Int×Nat×Nat),let A75:=[I t.snd.2.1];let A90:=(SV.ref A75 A7);let A42:=(BF t.1 t.2.1 t.snd.2.1 t.snd.snd.2.1 t.snd.snd.2.2);let A38:=[SV.sl A52 t.2.1.n fun(i:Nat)=>[I (t.2.1.g i)]];let A89:=(SV.ref A38 A7);let A27:=[SV.sl A69 t.1.n fun(i:Nat)=>[I (t.1.g i).x,I (t.1.g i).y]];let A88:=(SV.ref A27 A7);let A22:=[EV.loc A77 A7,EV.p A88,EV.p A89,EV.p A90,EV.loc A78 A7];let A5:=(AN A42);let A31:=(L.Sq.mk A5.n fun(i:Nat)=>A5.g i);A13=(↑t.snd.snd.2.1:Int)/\A10=(↑t.snd.snd.2.2:Int)/\nat_lit 0=A25/\SV.ref A6 A7=SV.ref [SV.sl A73 t.1.n fun(i:Nat)=>[I (t.1.g i).x,I (t.1.g i).y]] A25/\SV.ref A8 A7=SV.ref [SV.sl A23 t.2.1.n fun(i:Nat)=>[I (t.2.1.g i)]] A25/\SV.ref [I bite] A7=SV.ref A75 A25/\nat_lit 0=A25/\EV.cl A24 A1=EV.cl A49 [EV.loc A61 A7,EV.p A88,EV.p A89,EV.p A90,EV.loc A62 A7]/\(∀(a b:Int),C4 l r bite a b->C4 t.1 t.2.1 t.snd.2.1 a b)/\((GC t.1 t.2.1 t.snd.2.1/\t.snd.snd.2.1<t.snd.snd.2.2/\t.snd.snd.2.2<t.2.1.n)/\t.snd.snd.2.2-t.snd.snd.2.1<rn)/\∀(u:Nat),True->((!BJ A42)=true->Ac .i64 (A10+A43)/\∃(g':Nat),A10+A43=(↑(a+A23+g'):Int)/\A13=A13/\A14=A14/\nat_lit 0=nat_lit 0/\SV.ref A6 A7=SV.ref A6 A7/\SV.ref A8 A7=SV.ref A8 A7/\SV.ref [I bite] A7=SV.ref [I bite] A7/\nat_lit 0=nat_lit 0/\EV.cl A24 A22=EV.cl A24 A1/\(∀(a b:Int),C4 t.1 t.2.1 t.snd.2.1 a b->C4 l r bite a b)/\(g'<=b-a-A23/\∀(j:Nat),j<g'->DL l r bite a b (a+A23+j)=AdB)/\b-a-g'<b-a-g)/\((!BJ A42)=false->∃(t_1:L.Sq L.Pt×L.Sq Int×Int×Nat×Nat),let A76:=(SV.ref [I t_1.snd.2.1] A7);let A51:=(∀(a b:Int),C4 t_1.1 t_1.2.1 t_1.snd.2.1 a b->C4 l r bite a b);let A48:=(SV.ref [SV.sl A52 t_1.2.1.n fun(i:Nat)=>[I (t_1.2.1.g i)]] A7);let A46:=(SV.ref [SV.sl A69 t_1.1.n fun(i:Nat)=>[I (t_1.1.g i).x,I (t_1.1.g i).y]] A7);let A36:=(BF t_1.1 t_1.2.1 t_1.snd.2.1 t_1.snd.snd.2.1 t_1.snd.snd.2.2);let A20:=[EV.loc A77 A7,EV.p A46,EV.p A48,EV.p A76,EV.loc A78 A7];let A3:=(AN A36);let A32:=(L.Sq.mk A3.n fun(i:Nat)=>A3.g i);let A81:=(CZ A16 A31 A32 A25);A10=(↑t_1.snd.snd.2.1:Int)/\A14=(↑t_1.snd.snd.2.2:Int)/\nat_lit 0=A25/\SV.ref A27 A7=SV.ref [SV.sl A73 t_1.1.n fun(i:Nat)=>[I (t_1.1.g i).x,I (t_1.1.g i).y]] A25/\SV.ref A38 A7=SV.ref [SV.sl A23 t_1.2.1.n fun(i:Nat)=>[I (t_1.2.1.g i)]] A25/\SV.ref A75 A7=SV.ref [I t_1.snd.2.1] A25/\nat_lit 0=A25/\EV.cl A24 A22=EV.cl A49 [EV.loc A61 A7,EV.p A46,EV.p A48,EV.p A76,EV.loc A62 A7]/\(∀(a b:Int),C4 t.1 t.2.1 t.snd.2.1 a b->C4 t_1.1 t_1.2.1 t_1.snd.2.1 a b)/\((GC t_1.1 t_1.2.1 t_1.snd.2.1/\t_1.snd.snd.2.1<t_1.snd.snd.2.2/\t_1.snd.snd.2.2<t_1.2.1.n)/\t_1.snd.snd.2.2-t_1.snd.snd.2.1<rn)/\∀(u:Nat),True->(BJ A36=true->A55/\A80/\A56/\(((∀(i:Nat),i<nat_lit 1->A91=A91)/\(∀(i:Nat),let A65:=[I (A5.g i).a,I (A5.g i).b,I (A5.g i).c];i<A5.n->A65=A65)/\∀(i:Nat),let A66:=[I (A3.g i).a,I (A3.g i).b,I (A3.g i).c];i<A3.n->A66=A66)/\(A23<=A81.n/\A81.n<=A57)/\(CZ A16 A31 A32 A23).n<=A57/\(CZ A16 A31 A32 A73).n<=A57)/\∀(t_2:Nat),True->∃(u:Nat),((BB (CZ A16 A31 A32) A87).n=A40.n/\∀(i:Nat),let A11:=(BB (CZ (L.Sq.mk A52 fun(i:Nat)=>BA.mk A33 A58 A34) (L.Sq.mk A5.n fun(i:Nat)=>A5.g i) (L.Sq.mk A3.n fun(i:Nat)=>A3.g i)) A87);i<A11.n -> [I (A11.g i).a,I (A11.g i).b,I (A11.g i).c]= [I (A40.g i).a,I (A40.g i).b,I (A40.g i).c])/\true=BJ A15/\EV.cl A24 A20=EV.cl A49 A1/\A51/\True)/\(BJ A36=false->Ac .i64 (A10+A43)/\∃(g':Nat),A10+A43=(↑(a+A23+g'):Int)/\A13=A13/\A14=A14/\nat_lit 0=nat_lit 0/\SV.ref A6 A7=SV.ref A6 A7/\SV.ref A8 A7=SV.ref A8 A7/\SV.ref [I bite] A7=SV.ref [I bite] A7/\nat_lit 0=nat_lit 0/\EV.cl A24 A20=EV.cl A24 A1/\A51/\(g'<=b-a-A23/\∀(j:Nat),j<g'->DL l r bite a b (a+A23+j)=AdB)/\b-a-g'<b-a-g))))/\(decide (A10<A14)=false->true=true/\C4 l r bite A13 A14/\∃(u:Nat),A40.n=A25/\false=BJ A15/\EV.cl A24 A1=EV.cl A49 A1/\A18/\True)))) (by kernel_rfl) (by
 conv=>zeta
 have hp:GC l r bite/\a<b/\b<r.n:=hp;have hmu:b-a<rn+1:=hmu;obtain⟨hok,hab,hbr⟩:=hp;obtain⟨⟨hln,hrn,q0,q1⟩,hri,hli⟩:=id hok;have ea:((a:Int)).toNat=a:=Ad3 a;have eb:((b:Int)).toNat=b:=Ad3 b;have no:∀x y,C4 l r bite x y->C4 l r bite x y:=fun _ _ h=>h;refine⟨jK,fun h1=>?_,fun h1=>⟨fun hn=>⟨fun _=>?_,fun h=>(by cases h)⟩,(fun h=>by cases h),fun _=>⟨jK,⟨(0:Nat),by omega,Ads _,fun j hj=>absurd hj (oE _)⟩,fun g hg=>⟨fun hc=>?_,fun hc=>?_⟩⟩⟩⟩
 ·have h1:(b:Int)=(a:Int)+1:=of_decide_eq_true h1;rw[xN l r bite (show b=a+1 by omega) hbr];exact⟨(0:Nat),rfl,rfl,rfl,no,trivial⟩
 ·have e : BF l r bite a b = none :=by
   have:=hn;unfold C4 at this;rwa[ea,eb]at this
  rw[e];exact⟨(0:Nat),rfl,rfl,rfl,no,trivial⟩
 ·have h1:¬ (b:Int)=(a:Int)+1:=of_decide_eq_false h1;have hc:((a+1+g:Nat):Int)<(b:Int):=of_decide_eq_true hc;have hm:a+1+g<b:=by omega
  obtain⟨hg1,hg2⟩:=hg;have em:(((a+1+g:Nat):Int)).toNat=a+1+g:=Ad3 _;rw[ea,eb,em];have ra:=hri a (by omega);have rm:=hri (a+1+g) (by omega);have rb:=hri b hbr;have cst:((a+1+g:Nat):Int)+1=((a+1+(g+1):Nat):Int):=by omega
  have w1:Ac .i64 (((a+1+g:Nat):Int)+1):=jK;have w2:g+1<=b-a-1:=by omega
  have w3:b-a-(g+1)<b-a-g:=by omega
  have nx:DL l r bite a b (a+1+g)=none->∀j,j<g+1->DL l r bite a b (a+1+j)=none:=fun h j hj=>by
   rcases Ad1.1 hj with h'|rfl
   ·exact hg2 j h'
   ·exact h
  have i1:0<=(a:Int)/\(a:Int)<(r.n:Int):=by omega
  have i2:0<=((a+1+g:Nat):Int)/\((a+1+g:Nat):Int)<(r.n:Int):=by omega
  have i3:0<=(b:Int)/\(b:Int)<(r.n:Int):=by omega
  refine⟨i1,ra,i2,rm,i3,rb,⟨hli _ (by omega),hli _ (by omega),hli _ (by omega),q0,q1⟩,fun hl=>?_,fun hl=>?_⟩
  ·have hl:Fi l r bite a (a+1+g) b=false:=CV hl;have dn:DL l r bite a b (a+1+g)=none:=by unfold DL Ev;rw[hl];rfl
   exact⟨w1,g+1,cst,rfl,rfl,rfl,rfl,rfl,rfl,rfl,rfl,no,⟨w2,nx dn⟩,w3⟩
  have hl:Fi l r bite a (a+1+g) b=true:=Cl hl;have m1:a<a+1+g:=by omega
  have m2:a+1+g<r.n:=by omega
  have m3:a+1+g-a<rn:=by omega
  have m4:b-(a+1+g)<rn:=by omega
  refine⟨(l,r,bite,a,a+1+g),rfl,rfl,rfl,rfl,rfl,rfl,rfl,rfl,no,⟨⟨hok,m1,m2⟩,m3⟩,fun u _=>⟨fun h2=>?_,fun h2=>?_⟩⟩
  ·have h2:BJ (BF l r bite a (a+1+g))=false:=CV h2;have dn:DL l r bite a b (a+1+g)=none:=by
    unfold DL Ev;rw[hl];cases hx:BF l r bite a (a+1+g)with
    |none=>rfl
    |some x=>rw[hx]at h2;cases h2
   exact⟨w1,g+1,cst,rfl,rfl,rfl,rfl,rfl,rfl,rfl,rfl,no,⟨w2,nx dn⟩,w3⟩
  have h2:BJ (BF l r bite a (a+1+g))=true:=Cl h2;refine⟨(l,r,bite,a+1+g,b),rfl,rfl,rfl,rfl,rfl,rfl,rfl,rfl,no,⟨⟨hok,hm,hbr⟩,m4⟩,fun u2 _=>⟨fun h3=>?_,fun h3=>?_⟩⟩
  ·have h3:BJ (BF l r bite (a+1+g) b)=true:=h3;have o1:=YL (l:=l) (r:=r) (bite:=bite) m1;have o2:=YL (l:=l) (r:=r) (bite:=bite) hm;have o3:(AN (BF l r bite a (a+1+g))).n<=10000:=by omega
   have o4:(AN (BF l r bite (a+1+g) b)).n<=10000:=by omega
   have key:((BB (CZ ⟨1,fun _=>⟨r.g a,r.g (a+1+g),r.g b⟩⟩ (AN (BF l r bite a (a+1+g))) (AN (BF l r bite (a+1+g) b))) 3).n=(AN (BF l r bite a b)).n/\∀i,i<(BB (CZ ⟨1,fun _=>⟨r.g a,r.g (a+1+g),r.g b⟩⟩ (AN (BF l r bite a (a+1+g))) (AN (BF l r bite (a+1+g) b))) 3).n->(BB (CZ ⟨1,fun _=>⟨r.g a,r.g (a+1+g),r.g b⟩⟩ (AN (BF l r bite a (a+1+g))) (AN (BF l r bite (a+1+g) b))) 3).g i=(AN (BF l r bite a b)).g i)/\BJ (BF l r bite a b)=true:=by
    cases hx:BF l r bite a (a+1+g)with
    |none=>rw[hx]at h2;cases h2
    |some x =>
      cases hy:BF l r bite (a+1+g) b with
      |none=>rw[hy]at h3;cases h3
      |some y =>
        have e:BF l r bite a b=some (⟨r.g a,r.g (a+1+g),r.g b⟩::(x++y)):=by
         rw[YK l r bite hab (by omega) hbr];refine YJ (k:=g) ?_ hg2 (by omega);unfold DL Ev;rw[hl,hx,hy];rfl
        rw[e];exact⟨xO _ x y,rfl⟩
   exact⟨i1,i2,i3,⟨⟨fun _ _=>rfl,fun _ _=>rfl,fun _ _=>rfl⟩,⟨⟨by show 1<=1;omega,by show 1<=10000;omega⟩,o3,o4⟩⟩,fun _ _=>⟨(0:Nat),⟨key.1.1,fun i hi=>congrArg xP (key.1.2 i hi)⟩,key.2.symm,rfl,no,trivial⟩⟩
  ·have h3:BJ (BF l r bite (a+1+g) b)=false:=h3;have dn:DL l r bite a b (a+1+g)=none:=by
    unfold DL Ev;rw[hl];cases hx:BF l r bite a (a+1+g)with
    |none=>rfl
    |some x =>
      cases hy:BF l r bite (a+1+g) b with
      |none=>rfl
      |some y=>rw[hy]at h3;cases h3
   exact⟨w1,g+1,cst,rfl,rfl,rfl,rfl,rfl,rfl,rfl,rfl,no,⟨w2,nx dn⟩,w3⟩
 ·have h1:¬ (b:Int)=(a:Int)+1:=of_decide_eq_false h1;have hc:¬ ((a+1+g:Nat):Int)<(b:Int):=of_decide_eq_false hc;obtain⟨hg1,hg2⟩:=hg;obtain rfl:g=b-a-1:=by omega
  have e:BF l r bite a b=none:=by
   rw[YK l r bite hab (by omega) hbr];exact Qm hg2
  have e2:C4 l r bite a b:=by unfold C4;rw[ea,eb];exact e
  rw[e];exact⟨rfl,e2,(0:Nat),rfl,rfl,rfl,no,trivial⟩)
theorem Zq:Ao Tryz.prog 137:=fun args w=>by kernel_rfl
theorem yM:Du Tryz.prog 137 Il:=MZ Zp ⟨fun t=>rfl,fun t u=>rfl,fun t u=>rfl,fun t u=>⟨rfl,rfl,rfl⟩,.inl rfl,fun k h=>(by cases h)⟩ (fun rn ih=>Gf (n:=7) Tryz.func137 (c:=Af Tryz.f137) (by kernel_rfl) mixed ⟨fun t=>rfl,fun t=>rfl,fun t u=>rfl,fun t u=>rfl,fun t u=>rfl,fun t u=>⟨rfl,rfl⟩,by kernel_rfl,by kernel_rfl⟩ (fun⟨l,r,bite,a,b⟩ hp=>⟨_,yL rn l r bite a b hp.1 hp.2,⟨show Aa Tryz.prog _ from(Aa.cons YP YQ (Aa.cons yJ yK Aa.nil)),rfl,⟨show Ae Tryz.prog _ from Ae.nil,⟨AC.no1 (fun _=>rfl),⟨show By Tryz.prog _ from(By.cons ih Zq By.nil),FamsOk.none (fun _=>rfl)⟩⟩⟩⟩⟩))
abbrev Kj:Mk:={ T:=(L.Sq L.Pt)×(L.Sq Int)×(Int),U:=Nat,args:=fun t=>(fun l r bite=>[.p ((.sl 2 l.n (fun i=>[.int .i64 ((l.g i).x),.int .i64 ((l.g i).y)]))),.p ((.sl 1 r.n (fun i=>[.int .i64 ((r.g i))]))),.p (.int .i64 bite)]) t.1 t.2.1 t.2.2,lkeys:=[],keys:=[],lent:=fun t=>(fun l r bite=>[]) t.1 t.2.1 t.2.2,pre:=fun t=>(fun l r bite=>GC l r bite/\2<=r.n) t.1 t.2.1 t.2.2,post:=fun t u=>(fun l r bite=>fun uu=>True) t.1 t.2.1 t.2.2 u,lent':=fun t u=>(fun l r bite=>fun uu=>[]) t.1 t.2.1 t.2.2 u,own:=fun t u=>(fun l r bite=>fun uu=>[]) t.1 t.2.1 t.2.2 u,res:=fun t u=>(fun l r bite=>fun uu=>.p (.tup [.sl 3 (AN (Hb l r bite)).n (fun i=>[.int .i64 (((AN (Hb l r bite)).g i).a),.int .i64 (((AN (Hb l r bite)).g i).b),.int .i64 (((AN (Hb l r bite)).g i).c)]),.bool (BJ (Hb l r bite))])) t.1 t.2.1 t.2.2 u }
theorem yN (l:L.Sq L.Pt) (r:L.Sq Int) (bite:Int) (hp:Kj.pre (l,r,bite)):vc Tryz.prog ({ cC with muts:=[8,9],mks:=EA [(137,Il)],ren:=fun k=>if k=1000 then 8 else if k=1001 then 9 else if k=1002 then 10 else k,mss:=Ru [(10,C4 l r bite)] }) (Af Tryz.f88) (D3 Tryz.f88 (Kj.args (l,r,bite)) (Kj.lent (l,r,bite))) (FD Tryz.prog Tryz.f88 Kj (l,r,bite)):=
 @Eq.mpr _ (let I:=SV.int .i64;let A7:=(0:Nat);let A5:=[SV.sl (nat_lit 1) r.n fun(i:Nat)=>[I (r.g i)]];let A4:=(AN (Hb l r bite));let A3:=[SV.sl (nat_lit 2) l.n fun(i:Nat)=>[I (l.g i).x,I (l.g i).y]];let A2:=(nat_lit 0);Ac .i64 ((↑r.n:Int)-(1:Int))/\∃(t:L.Sq L.Pt×L.Sq Int×Int×Nat×Nat),let A1:=(BF t.1 t.2.1 t.snd.2.1 t.snd.snd.2.1 t.snd.snd.2.2);let A6:=(AN A1);(0:Int)=(↑t.snd.snd.2.1:Int)/\(↑r.n:Int)-(1:Int)=(↑t.snd.snd.2.2:Int)/\nat_lit 0=A7/\SV.ref A3 A2=SV.ref [SV.sl (2:Nat) t.1.n fun(i:Nat)=>[I (t.1.g i).x,I (t.1.g i).y]] A7/\SV.ref A5 A2=SV.ref [SV.sl (1:Nat) t.2.1.n fun(i:Nat)=>[I (t.2.1.g i)]] A7/\SV.ref [I bite] A2=SV.ref [I t.snd.2.1] A7/\nat_lit 0=A7/\EV.cl (nat_lit 137) [EV.loc (nat_lit 8) A2,EV.p (SV.ref A3 A2),EV.p (SV.ref A5 A2),EV.p (SV.ref [I bite] A2),EV.loc (nat_lit 9) A2]=EV.cl (137:Nat) [EV.loc (8:Nat) A2,EV.p (SV.ref [SV.sl (nat_lit 2) t.1.n fun(i:Nat)=>[I (t.1.g i).x,I (t.1.g i).y]] A2),EV.p (SV.ref [SV.sl (nat_lit 1) t.2.1.n fun(i:Nat)=>[I (t.2.1.g i)]] A2),EV.p (SV.ref [I t.snd.2.1] A2),EV.loc (9:Nat) A2]/\(∀(a b:Int),C4 l r bite a b->C4 t.1 t.2.1 t.snd.2.1 a b)/\(GC t.1 t.2.1 t.snd.2.1/\t.snd.snd.2.1<t.snd.snd.2.2/\t.snd.snd.2.2<t.2.1.n)/\∀(u:Nat),True->∃(u:Nat),(A6.n=A4.n/\∀(i:Nat),i<A6.n -> [I (A6.g i).a,I (A6.g i).b,I (A6.g i).c]= [I (A4.g i).a,I (A4.g i).b,I (A4.g i).c])/\BJ A1=BJ (Hb l r bite)/\True) (by kernel_rfl) (by
 conv=>zeta
 have hp:GC l r bite/\2<=r.n:=hp;obtain⟨hok,h2⟩:=hp;obtain⟨⟨hln,hrn,q0,q1⟩,hri,hli⟩:=id hok;exact⟨jK,(l,r,bite,0,r.n-1),rfl,by show(r.n:Int)-1=((r.n-1:Nat):Int);omega,rfl,rfl,rfl,rfl,rfl,rfl,fun _ _ h=>h,⟨hok,by show 0<r.n-1;omega,by show r.n-1<r.n;omega⟩,fun _ _=>⟨(0:Nat),⟨rfl,fun _ _=>rfl⟩,rfl,trivial⟩⟩)
theorem yO:Ao Tryz.prog 88:=fun args w=>by kernel_rfl
theorem yP:Du Tryz.prog 88 Kj:=Gf (n:=3) Tryz.func88 (c:=Af Tryz.f88) (by kernel_rfl) mixed ⟨fun t=>rfl,fun t=>rfl,fun t u=>rfl,fun t u=>rfl,fun t u=>rfl,fun t u=>⟨rfl,rfl⟩,by kernel_rfl,by kernel_rfl⟩ (fun⟨l,r,bite⟩ hp=>⟨_,yN l r bite hp,⟨show Aa Tryz.prog _ from Aa.nil,rfl,⟨show Ae Tryz.prog _ from Ae.nil,⟨AC.no1 (fun _=>rfl),⟨show By Tryz.prog _ from(By.cons yM Zq By.nil),FamsOk.none (fun _=>rfl)⟩⟩⟩⟩⟩)
def Ew (a b:AH):Bool:=decide (a.fr=b.fr)&&(decide (a.to_=b.to_)&&decide (a.area=b.area))
def N6 (l:L.Sq AH) (v:AH):Int:=B4 l.n (fun i=>Ew v (l.g i))
def Im (l:L.Sq L.Pt) (p:AH):Bool:=BV (D9 l) fun i=>Ew p ((Cg l).g i)
def CO (l:L.Sq L.Pt) (p:AH) (bite:Int):Int:=bif (bif (bif !decide ((bif AA l then(0:Int)else 1)=0)then true else !AG bite 0 4096)then true else !Im l p)then 1 else bif !BJ (Ca l p bite)then 51 else 0
def CP (l:L.Sq L.Pt) (p:AH) (bite:Int):L.Sq BA:=AN (bif decide (CO l p bite=0)then Ca l p bite else none)
def Kk (l:L.Sq L.Pt):Prop:=∀i,i<(Cg l).n->DV l.n ((Cg l).g i)
theorem yQ {a b:AH} (h:Ew a b=true):a=b:=by
 unfold Ew at h;simp only[pR,decide_eq_true_eq]at h;cases a;cases b;simp only[AH.mk.injEq];exact h
theorem yR {α:Type} {n:Nat} {f u:Nat->α} {q:α->Bool} (h:((Adu n).map u).Perm ((Adu n).map f)):BV n (fun i=>q (u i))=BV n (fun i=>q (f i)):=by
 rw[Bool.eq_iff_iff,Gg,Gg];have k:∀g:Nat->α,(∃i,i<n/\q (g i)=true)↔∃x,x∈(Adu n).map g/\q x=true:=fun g=>by
  constructor
  ·rintro⟨i,hi,h⟩;exact⟨g i,Ado.2 ⟨i,Adz.2 hi,rfl⟩,h⟩
  ·rintro⟨x,hx,h⟩;obtain⟨i,hi,rfl⟩:=Ado.1 hx;exact⟨i,Adz.1 hi,h⟩
 rw[k,k];exact⟨fun⟨x,hx,h1⟩=>⟨x,h.mem_iff.1 hx,h1⟩,fun⟨x,hx,h1⟩=>⟨x,h.mem_iff.2 hx,h1⟩⟩
theorem yS {l:L.Sq L.Pt} {p:AH} {bite:Int} (hv:AA l=true) (hk:DV l.n p) (h0:0<=bite) (h1:bite<=4096):GC l (Hc l p) bite/\2<=(Hc l p).n:=by
 obtain⟨n3,n24,_,_⟩:=Dw hv;obtain⟨d1,d2,f0,f1,fr,fe,fs⟩:=LD hk;refine⟨⟨⟨by omega,by show BW l.n p+1<=1000;omega,h0,h1⟩,fun i hi=>fr i (by have hi:i<BW l.n p+1:=hi;omega),fun i hi=>FI.1 (Qc hv i hi)⟩,by show 2<=BW l.n p+1;omega⟩
theorem yT {l:L.Sq L.Pt} (hv:AA l=true):(Cg l).n<=1000:=by
 obtain⟨n3,n24,_,_⟩:=Dw hv;have cl:∀m:L.Sq L.Pt,(Bu m).n<=m.n:=fun m=>by
  have:=Ja m m.n;show(Bv m m.n).length-1<=m.n;omega
 have c1:(Bu (Aw l)).n<=l.n:=cl (Aw l);have c2:(Bu (Dn (Aw l))).n<=l.n:=cl (Dn (Aw l));have h1:(Ap l).n<=1000:=by
  show 0+(Bu (Aw l)).n+(Bu (Dn (Aw l))).n<=1000;omega
 have h2:(Cg l).n<=(Ap l).n:=IS;omega
def Zr (l:(L.Sq AH)) (v:AH):Prop:=l.n<=1000000
def Zs (l:(L.Sq AH)) (v:AH):SV:=.int .i64 (N6 l v)
def Zt:List EV->Option (Prop×SV)
 |[.p (.sl 3 l_n l_g),.p (.agg [.int .i64 v_fr,.int .i64 v_to_,.int .i64 v_area])]=>some ((∀i,i<l_n->l_g i = [.int .i64 ((GY (l_g i)).fr),.int .i64 ((GY (l_g i)).to_),.int .i64 ((GY (l_g i)).area)])/\Zr (⟨l_n,fun i=>GY (l_g i)⟩:(L.Sq AH)) (⟨v_fr,v_to_,v_area⟩:AH),Zs (⟨l_n,fun i=>GY (l_g i)⟩:(L.Sq AH)) (⟨v_fr,v_to_,v_area⟩:AH))
 |_=>none
abbrev Zu:SE.Spec:=(AM Zt)
def yU:Aj:={ muts:=[],frz:=BH [],specs:=AF [],loops:=fun _=>none,iters:=B6 [],rfs:=AU [],nils:=BD [] }
theorem yV (l:(L.Sq AH)) (v:AH) (hp:Zr l v):vc Tryz.prog ({ yU with loops:=AY [(2,{ T:=Nat,keep:=[0,3,6,7],keepO:=[],chg:=fun i=>[(8,.p (.int .i64 i))],own:=fun _=>[],inv:=fun i=>i<=l.n/\(∀j,j<i->Ew v (l.g j)=false),mu:=fun i=>l.n-i })],rfs:=AU [] }) (Af Tryz.f86) (Ar Tryz.f86 [.p (.sl 3 l.n (fun i=>[.int .i64 ((l.g i).fr),.int .i64 ((l.g i).to_),.int .i64 ((l.g i).area)])),.p (.agg [.int .i64 v.fr,.int .i64 v.to_,.int .i64 v.area])]) (AL Tryz.prog Tryz.f86 (Zs l v)):=
 @Eq.mpr _ (let I:=SV.int .i64;let T:=Ad6;let A6:=[I v.fr,I v.to_,I v.area];let A5:=(↑l.n:Int);let A2:=(l.n=l.n/\∀(i:Nat),let A4:=[I (l.g i).fr,I (l.g i).to_,I (l.g i).area];i<l.n->A4=A4);(∃(g:Nat),(0:Int)=(↑g:Int)/\g<=l.n/\∀(j:Nat),j<g->Ew v (l.g j)=false)/\∀(g:Nat),let A3:=(↑g:Int);let A7:=(l.g (T A3));let A1:=(decide (v.fr=A7.fr)&&(decide (v.to_=A7.to_)&&decide (v.area=A7.area)));(g<=l.n/\∀(j:Nat),j<g->Ew v (l.g j)=false)->(decide (A3<A5)=true->((0:Int)<=A3/\A3<A5)/\(A1=true->A3=N6 l v)/\(A1=false->Ac .i64 (A3+(1:Int))/\∃(g':Nat),A3+(1:Int)=(↑g':Int)/\A5=A5/\A2/\SV.ref A6 (nat_lit 0)=SV.ref A6 (nat_lit 0)/\A2/\(g'<=l.n/\∀(j:Nat),j<g'->Ew v (l.g j)=false)/\l.n-g'<l.n-g))/\(decide (A3<A5)=false->(-1:Int)=N6 l v)) (by kernel_rfl) (by
 conv=>zeta
 have hn:l.n<=1000000:=hp;refine⟨⟨(0:Nat),rfl,Ads _,fun j hj=>absurd hj (oE _)⟩,fun g hg=>⟨fun hlt=>?_,fun hge=>?_⟩⟩
 ·have hb:(g:Int)<(l.n:Int):=of_decide_eq_true hlt;have e0:((g:Int)).toNat=g:=by omega
  rw[e0];refine⟨⟨by omega,hb⟩,fun h=>?_,fun h=>?_⟩
  ·have h:Ew v (l.g g)=true:=h;exact(IR (f:=fun i=>Ew v (l.g i)) hg.2 h (by omega)).symm
  ·have h:Ew v (l.g g)=false:=h;exact⟨jK,g+1,by omega,rfl,⟨rfl,fun _ _=>rfl⟩,rfl,⟨rfl,fun _ _=>rfl⟩,⟨by omega,fun j hj=>by
    rcases Ad1.1 hj with h'|rfl
    ·exact hg.2 j h'
    ·exact h⟩,by omega⟩
 ·have hb:¬ (g:Int)<(l.n:Int):=of_decide_eq_false hge;exact(Ie (f:=fun i=>Ew v (l.g i)) (fun j hj=>hg.2 j (by omega))).symm)
theorem yW:AB Tryz.prog 86 Zu:=AP Tryz.func86 (c:=Af Tryz.f86) (by kernel_rfl) mixed (fun args p r hs hp=>by
 unfold Zt at hs;split at hs
 ·cases hs;exact⟨_,_,yV _ _ hp.2,(.p (.sl hp.1) (.same _ .nil)),⟨show Aa Tryz.prog _ from Aa.nil,rfl,⟨show Ae Tryz.prog _ from Ae.nil,(AC.none (fun _=>rfl))⟩⟩⟩
 ·cases hs)
theorem yX:Ao Tryz.prog 86:=fun args w=>by kernel_rfl
def Zv (l:(L.Sq AH)) (v:AH):Prop:=l.n<=1000000
def Zw (l:(L.Sq AH)) (v:AH):SV:=.bool (BV l.n fun i=>Ew v (l.g i))
def Zx:List EV->Option (Prop×SV)
 |[.p (.sl 3 l_n l_g),.p (.agg [.int .i64 v_fr,.int .i64 v_to_,.int .i64 v_area])]=>some ((∀i,i<l_n->l_g i = [.int .i64 ((GY (l_g i)).fr),.int .i64 ((GY (l_g i)).to_),.int .i64 ((GY (l_g i)).area)])/\Zv (⟨l_n,fun i=>GY (l_g i)⟩:(L.Sq AH)) (⟨v_fr,v_to_,v_area⟩:AH),Zw (⟨l_n,fun i=>GY (l_g i)⟩:(L.Sq AH)) (⟨v_fr,v_to_,v_area⟩:AH))
 |_=>none
abbrev Zy:SE.Spec:=(AM Zx)
def yY:Aj:={ cC with specs:=AF [(86,Zu)] }
theorem yZ (l:(L.Sq AH)) (v:AH) (hp:Zv l v):vc Tryz.prog (yY) (Af Tryz.f41) (Ar Tryz.f41 [.p (.sl 3 l.n (fun i=>[.int .i64 ((l.g i).fr),.int .i64 ((l.g i).to_),.int .i64 ((l.g i).area)])),.p (.agg [.int .i64 v.fr,.int .i64 v.to_,.int .i64 v.area])]) (AL Tryz.prog Tryz.f41 (Zw l v)):=
 @Eq.mpr _ (let I:=SV.int .i64;((∀(i:Nat),let A1:=[I (l.g i).fr,I (l.g i).to_,I (l.g i).area];i<l.n->A1=A1)/\l.n<=(1000000:Nat))/\decide ((0:Int)<=N6 (L.Sq.mk l.n fun(i:Nat)=>l.g i) v)=BV l.n fun(i:Nat)=>Ew v (l.g i)) (by kernel_rfl) (by
 conv=>zeta
 refine⟨⟨fun _ _=>rfl,hp⟩,Ly⟩)
theorem zA:AB Tryz.prog 41 Zy:=AP Tryz.func41 (c:=Af Tryz.f41) (by kernel_rfl) mixed (fun args p r hs hp=>by
 unfold Zx at hs;split at hs
 ·cases hs;exact⟨_,_,yZ _ _ hp.2,(.p (.sl hp.1) (.same _ .nil)),⟨show Aa Tryz.prog _ from(Aa.cons yW yX Aa.nil),rfl,⟨show Ae Tryz.prog _ from Ae.nil,(AC.none (fun _=>rfl))⟩⟩⟩
 ·cases hs)
theorem zB:Ao Tryz.prog 41:=fun args w=>by kernel_rfl
def Zz (l:(L.Sq L.Pt)) (p:AH) (b:Int):Prop:=AA l=true/\DV l.n p/\0<=b/\b<=4096
def Z0 (l:(L.Sq L.Pt)) (p:AH) (b:Int):SV:=.tup [.sl 3 (AN (Ca l p b)).n (fun i=>[.int .i64 (((AN (Ca l p b)).g i).a),.int .i64 (((AN (Ca l p b)).g i).b),.int .i64 (((AN (Ca l p b)).g i).c)]),.bool (BJ (Ca l p b))]
def Z1:List EV->Option (Prop×SV)
 |[.p (.sl 2 l_n l_g),.p (.agg [.int .i64 p_fr,.int .i64 p_to_,.int .i64 p_area]),.p (.int .i64 b)]=>some ((∀i,i<l_n->l_g i = [.int .i64 ((Ai (l_g i)).x),.int .i64 ((Ai (l_g i)).y)])/\Zz (⟨l_n,fun i=>Ai (l_g i)⟩:(L.Sq L.Pt)) (⟨p_fr,p_to_,p_area⟩:AH) b,Z0 (⟨l_n,fun i=>Ai (l_g i)⟩:(L.Sq L.Pt)) (⟨p_fr,p_to_,p_area⟩:AH) b)
 |_=>none
abbrev Qq:SE.Spec:=(AM Z1)
def zC:Aj:={ cC with specs:=AF [(87,Zc),(89,Qp)],mks:=EA [(88,Kj)],ren:=fun k=>k-1000 }
theorem zD (l:(L.Sq L.Pt)) (p:AH) (b:Int) (hp:Zz l p b):vc Tryz.prog (zC) (Af Tryz.f42) (Ar Tryz.f42 [.p (.sl 2 l.n (fun i=>[.int .i64 ((l.g i).x),.int .i64 ((l.g i).y)])),.p (.agg [.int .i64 p.fr,.int .i64 p.to_,.int .i64 p.area]),.p (.int .i64 b)]) (AL Tryz.prog Tryz.f42 (Z0 l p b)):=
  @Eq.mpr _ (let I:=SV.int .i64;let A6:=(Ca l p b);let A4:=(↑l.n:Int);let A3:=(L.Sq.mk l.n fun(i:Nat)=>l.g i);let A2:=(AN A6);((∀(i:Nat),let A5:=[I (l.g i).x,I (l.g i).y];i<l.n->A5=A5)/\AA A3=true/\DV A4 p)/\((!GB A3 p)=true->A2.n=(0:Nat)/\false=BJ A6)/\((!GB A3 p)=false->(A4<=(1000:Int)
 /\ DV A4 p)/\∃(t:L.Sq L.Pt×L.Sq Int×Int),let A7:=(Hb t.1 t.2.1 t.2.2);let A1:=(AN A7);(l.n=t.1.n/\∀(i:Nat),i<l.n -> [I (l.g i).x,I (l.g i).y]= [I (t.1.g i).x,I (t.1.g i).y])/\(BW A4 p+(1:Nat)=t.2.1.n/\∀(i:Nat),i<BW A4 p+(1:Nat) -> [I (Ch A4 p i)]= [I (t.2.1.g i)])/\b=t.2.2/\(GC t.1 t.2.1 t.2.2/\(2:Nat)<=t.2.1.n)/\∀(u
:Nat),True->(A1.n=A2.n/\∀(i:Nat),i<A1.n -> [I (A1.g i).a,I (A1.g i).b,I (A1.g i).c]= [I (A2.g i).a,I (A2.g i).b,I (A2.g i).c])/\BJ A7=BJ A6)) (by kernel_rfl) (by
 conv=>zeta
 obtain⟨hv,hk,h0,h1⟩:=(show AA l=true/\DV l.n p/\0<=b/\b<=4096 from hp);obtain⟨ok,h2⟩:=yS hv hk h0 h1;obtain⟨n3,n24,_,_⟩:=Dw hv;refine⟨⟨fun _ _=>rfl,hv,hk⟩,fun h=>?_,fun h=>⟨⟨by omega,hk⟩,(l,Hc l p,b),⟨rfl,fun _ _=>rfl⟩,⟨rfl,fun _ _=>rfl⟩,rfl,⟨ok,h2⟩,fun _ _=>?_⟩⟩
 ·have h:(!GB l p)=true:=h;have e:Ca l p b=none:=by unfold Ca;rw[h];rfl
  rw[e];exact⟨rfl,rfl⟩
 ·have h:(!GB l p)=false:=h;have e:Ca l p b=Hb l (Hc l p) b:=by unfold Ca;rw[h];rfl
  rw[e];exact⟨⟨rfl,fun _ _=>rfl⟩,rfl⟩)
theorem Z2:AB Tryz.prog 42 Qq:=AP Tryz.func42 (c:=Af Tryz.f42) (by kernel_rfl) mixed (fun args p r hs hp=>by
 unfold Z1 at hs;split at hs
 ·cases hs;exact⟨_,_,zD _ _ _ hp.2,(.p (.sl hp.1) (.same _ (.same _ .nil))),⟨show Aa Tryz.prog _ from(Aa.cons yB yC (Aa.cons YU YV Aa.nil)),rfl,⟨show Ae Tryz.prog _ from Ae.nil,⟨AC.no1 (fun _=>rfl),⟨show By Tryz.prog _ from(By.cons yP yO By.nil),FamsOk.none (fun _=>rfl)⟩⟩⟩⟩⟩
 ·cases hs)
theorem Z3:Ao Tryz.prog 42:=fun args w=>by kernel_rfl
def Z4 (l:(L.Sq L.Pt)) (p:AH) (b:Int):Prop:=l.n<=1000000/\(AA l=true->Kk l)
def Z5 (l:(L.Sq L.Pt)) (p:AH) (b:Int):SV:=.tup [.sl 3 (CP l p b).n (fun i=>[.int .i64 (((CP l p b).g i).a),.int .i64 (((CP l p b).g i).b),.int .i64 (((CP l p b).g i).c)]),.int .i64 (CO l p b)]
def Z6:List EV->Option (Prop×SV)
 |[.p (.sl 2 l_n l_g),.p (.agg [.int .i64 p_fr,.int .i64 p_to_,.int .i64 p_area]),.p (.int .i64 b)]=>some ((∀i,i<l_n->l_g i = [.int .i64 ((Ai (l_g i)).x),.int .i64 ((Ai (l_g i)).y)])/\Z4 (⟨l_n,fun i=>Ai (l_g i)⟩:(L.Sq L.Pt)) (⟨p_fr,p_to_,p_area⟩:AH) b,Z5 (⟨l_n,fun i=>Ai (l_g i)⟩:(L.Sq L.Pt)) (⟨p_fr,p_to_,p_area⟩:AH) b)
 |_=>none
abbrev Qr:SE.Spec:=(AM Z6)
def zF:Aj:={ cC with specs:=AF [(40,PJ),(38,Jd),(41,Zy),(42,Qq)] }
theorem zG (l:(L.Sq L.Pt)) (p:AH) (b:Int) (hp:Z4 l p b):vc Tryz.prog (zF) (Af Tryz.f10) (Ar Tryz.f10 [.p (.sl 2 l.n (fun i=>[.int .i64 ((l.g i).x),.int .i64 ((l.g i).y)])),.p (.agg [.int .i64 p.fr,.int .i64 p.to_,.int .i64 p.area]),.p (.int .i64 b)]) (AL Tryz.prog Tryz.f10 (Z5 l p b)):=
 @Eq.mpr _ (let I:=SV.int .i64;let A11:=(4096:Int);let A7:=(0:Int);let A6:=(CP l p b);let A5:=(∀(i:Nat),let A9:=[I (l.g i).x,I (l.g i).y];i<l.n->A9=A9);let A1:=(L.Sq.mk l.n fun(i:Nat)=>l.g i);let A10:=(Ca A1 p b);let A4:=(bif AA A1 then A7 else(1:Int));(A5/\l.n<=(1000000:Nat))/\∀(t:Nat->AH),let A2:=(bif bif !decide (A4=A7)then true else !AG b A7 A11 then true else !BV (D9 A1) fun(i:Nat)=>Ew p (t i));(AA A1=true->CU EO (Cg A1).n (Cg A1).g t)->((!!decide (A4=A7))=true->True)/\((!bif !decide (A4=A7)then true else !AG b A7 A11)=true->(∀(i:Nat),let A8:=[I (t i).fr,I (t i).to_,I (t i).area];i<D9 (L.Sq.mk l.n fun(i:Nat)=>l.g i)->A8=A8)/\D9 A1<=(1000000:Nat))/\(A2=true->A6.n=(0:Nat)/\(1:Int)=CO l p b)/\(A2=false->(A5/\AA A1=true/\DV (↑l.n:Int) p/\A7<=b/\b<=A11)/\((!BJ A10)=true->A6.n=(0:Nat)/\(51:Int)=CO l p b)/\((!BJ A10)=false->((AN A10).n=A6.n/\∀(i:Nat),let A3:=(AN (Ca (L.Sq.mk l.n fun(i:Nat)=>l.g i) p b));i<A3.n -> [I (A3.g i).a,I (A3.g i).b,I (A3.g i).c]= [I (A6.g i).a,I (A6.g i).b,I (A6.g i).c])/\A7=CO l p b))) (by kernel_rfl) (by
 conv=>zeta
 obtain⟨hn,hok⟩:=(show l.n<=1000000/\(AA l=true->Kk l)from hp);refine⟨⟨fun _ _=>rfl,hn⟩,fun t ht=>?_⟩;have eN:∀hv:AA l=true,D9 l=(Cg l).n:=fun hv=>by unfold D9;rw[hv];rfl
 have eZ:AA l=false->D9 l=0:=fun hv=>by unfold D9;rw[hv];rfl
 have eH:(BV (D9 l) fun i=>Ew p (t i))=Im l p:=by
  unfold Im;cases hv:AA l with
  |true=>rw[eN hv];exact yR (q:=fun x=>Ew p x) (ht hv).perm
  |false=>rw[eZ hv];rfl
 have hl:D9 l<=1000000:=by
  cases hv:AA l with
  |true=>rw[eN hv];have:=yT hv;omega
  |false=>rw[eZ hv];exact Ads _
 rw[eH];refine⟨fun _=>trivial,fun h=>⟨fun _ _=>rfl,hl⟩,fun h=>?_,fun h=>?_⟩
 ·have e:CO l p b=1:=by unfold CO;rw[h];rfl
  have e2:CP l p b=AN none:=by unfold CP;rw[e];rfl
  rw[e,e2];exact⟨rfl,rfl⟩
 ·have hv : AA l = true :=by
   cases hv:AA l with
   |true=>rfl
   |false=>rw[hv]at h;cases h
  have hw:AG b 0 4096=true:=by
   cases hw:AG b 0 4096 with
   |true=>rfl
   |false=>rw[hv,hw]at h;cases h
  have hh:Im l p=true:=by
   cases hh:Im l p with
   |true=>rfl
   |false=>rw[hv,hw,hh]at h;cases h
  have hb:0<=b/\b<=4096:=by
   unfold AG at hw;rw[pR,decide_eq_true_eq,decide_eq_true_eq]at hw;exact⟨by omega,by omega⟩
  have hk:DV l.n p:=by
   have hh:=hh;unfold Im at hh;rw[Gg,eN hv]at hh;obtain⟨i,hi,h⟩:=hh;rw[yQ h];exact hok hv i hi
  have e0:CO l p b=bif !BJ (Ca l p b)then 51 else 0:=by unfold CO;rw[h];rfl
  refine⟨⟨fun _ _=>rfl,hv,hk,hb⟩,fun h2=>?_,fun h2=>?_⟩
  ·have h2:(!BJ (Ca l p b))=true:=h2;rw[h2]at e0;have e2:CP l p b=AN none:=by unfold CP;rw[e0];rfl
   rw[e0,e2];exact⟨rfl,rfl⟩
  ·have h2:(!BJ (Ca l p b))=false:=h2;rw[h2]at e0;have e2:CP l p b=AN (Ca l p b):=by unfold CP;rw[e0];rfl
   rw[e0,e2];exact⟨⟨rfl,fun _ _=>rfl⟩,rfl⟩)
theorem Z7:AB Tryz.prog 10 Qr:=AP Tryz.func10 (c:=Af Tryz.f10) (by kernel_rfl) mixed (fun args p r hs hp=>by
 unfold Z6 at hs;split at hs
 ·cases hs;exact⟨_,_,zG _ _ _ hp.2,(.p (.sl hp.1) (.same _ (.same _ .nil))),⟨show Aa Tryz.prog _ from(Aa.cons Wp Wq (Aa.cons Kh Ki (Aa.cons zA zB (Aa.cons Z2 Z3 Aa.nil)))),rfl,⟨show Ae Tryz.prog _ from Ae.nil,(AC.none (fun _=>rfl))⟩⟩⟩
 ·cases hs)
theorem Z8:Ao Tryz.prog 10:=fun args w=>by kernel_rfl
def Fy (p q:L.Pt):Int:=p.x*q.y-q.x*p.y
def Ej (f:Nat->L.Pt):Nat->Int
 |0=>0
 |k+1=>Ej f k+Fy (f k) (f (k+1))
theorem LF (p q:L.Pt):Fy q p = - Fy p q:=by unfold Fy;omega
theorem Qs {n k:Nat} (h:k+1<n):BE n k=k+1:=by
 unfold BE;rw[Int.tmod_eq_of_lt (by omega) (by omega)];omega
theorem Z9 (d:Nat):BE (d+1) d=0:=by
 unfold BE;rw[show(d:Int)+1=((d+1:Nat):Int)by omega,Int.tmod_self];rfl
theorem ZA {x:L.Sq L.Pt}:∀k,k<x.n->B7 x k=Ej x.g k
 |0,_=>rfl
 |k+1,h=>by
   show B7 x k+((x.g k).x*(x.g (BE x.n k)).y-(x.g (BE x.n k)).x*(x.g k).y)=Ej x.g k+Fy (x.g k) (x.g (k+1));rw[ZA k (by omega),Qs h];rfl
theorem Qt {x:L.Sq L.Pt} {d:Nat} (h:x.n=d+1):B7 x x.n=Ej x.g d+Fy (x.g d) (x.g 0):=by
 have e:B7 x (d+1)=B7 x d+((x.g d).x*(x.g (BE x.n d)).y-(x.g (BE x.n d)).x*(x.g d).y):=rfl;rw[ZA d (by omega),h,Z9]at e;rw[h,e];rfl
theorem ZB (f:Nat->L.Pt) (d:Nat):∀k,k<=d->Ej (fun j=>f (d-j)) k=Ej f (d-k)-Ej f d
 |0,_=>by rw[Nat.sub_zero];show(0:Int)=_;omega
 |k+1,h=>by
   show Ej (fun j=>f (d-j)) k+Fy (f (d-k)) (f (d-(k+1)))=_;rw[ZB f d k (by omega)];obtain⟨m,e⟩:∃m,d-k=m+1:=⟨d-k-1,by omega⟩;have e2:Ej f (m+1)=Ej f m+Fy (f m) (f (m+1)):=rfl;rw[e,show d-(k+1)=m by omega,e2,LF];omega
theorem Qu {f g:Nat->L.Pt}:∀k,(∀j,j<=k->f j=g j)->Ej f k=Ej g k
 |0,_=>rfl
 |k+1,h=>by rw[Ej,Ej,Qu k (fun j hj=>h j (by omega)),h k (by omega),h (k+1) (Adp _)]
theorem zH {l:L.Sq L.Pt} (hn:0<l.n) {fr to_:Int} (f0:0<=fr) (f1:fr<(l.n:Int)) (t0:0<=to_):B7 (H1 l fr to_) (H1 l fr to_).n=0-B7 (CX l fr to_) (CX l fr to_).n:=by
 obtain⟨c1,c2⟩:=Nz hn fr to_;have el:EP l.n fr to_=CW l.n fr to_:=by
  unfold EP CW;rw[AdA (by omega),show to_+(l.n:Int)-fr=to_-fr+(l.n:Int)by omega,Aef]
 have e:∀k,k<=CW l.n fr to_->(H1 l fr to_).g k=(CX l fr to_).g (CW l.n fr to_-k):=fun k hk=>by
  show l.g (C8 l.n to_ k).toNat=l.g (BN l.n (fr+((CW l.n fr to_-k:Nat):Int)));congr 1;have h3:=W9 (n:=l.n) (a:=fr+((CW l.n fr to_-k:Nat):Int)) hn;unfold C8;rw[AdA (by omega)];have h4:=Int.mul_ediv_add_emod (to_-fr) (l.n:Int);have h5:fr+((CW l.n fr to_-k:Nat):Int)+(l.n:Int)*((to_-fr) / (l.n:Int)+1)=to_+(l.n:Int)-(k:Int):=by
   rw[Int.mul_add,Int.mul_one];omega
  rw[<- h5,Int.add_mul_emod_self_left];omega
 rw[Qt (x:=H1 l fr to_) (d:=CW l.n fr to_) (by show EP l.n fr to_+1=_;rw[el]),Qt (x:=CX l fr to_) (d:=CW l.n fr to_) rfl,Qu _ e,ZB _ _ _ (Adp _),e _ (Adp _),e 0 (Ads _),Nat.sub_self,Nat.sub_zero,LF];show(0:Int)-_+_=_;omega
theorem N7 (c:Bool) (ks:L.Sq L.Pt) (p:L.Pt):ks.n<=(Gh c ks p).n/\(c=true->1<=(Gh c ks p).n):=by
 unfold Gh Fs;cases c with
 |false=>exact⟨Adp _,fun h=>by cases h⟩
 |true =>
   cases h:IX ks p with
   |false=>exact⟨Nat.le_succ _,fun _=>Nat.succ_le_succ (Ads _)⟩
   |true =>
     obtain⟨i,hi,_⟩:=Gg.1 h;exact⟨Adp _,fun _=>Nat.lt_of_le_of_lt (Ads _) hi⟩
theorem zI (a b d:L.Pt):C7 a b a d≠0:=by
 have h:1<=(CN a b a d 2).n:=Aec (Aec (Aec ((N7 (C1 a d (D6 a b 0)) (D7 a b a d 0) (D6 a b 0)).2 PU) (N7 _ (D7 a b a d 1) _).1) (N7 _ (CN a b a d 0) _).1) (N7 _ (CN a b a d 1) _).1;unfold C7
 by_cases h1:(1:Int)<((CN a b a d 2).n:Int)
 ·rw[decide_eq_true h1];exact(show(3:Int)≠0 by decide)
 ·rw[decide_eq_false h1,decide_eq_true (show((CN a b a d 2).n:Int)=1 by omega)];exact(show(1:Int)≠0 by decide)
theorem zJ (p q:L.Pt):Ax p p q=0:=by unfold Ax;simp
theorem ZC {l:L.Sq L.Pt} (hv:AA l=true):∀i k,i<l.n->k<l.n->l.g i=l.g k->i=k:=by
 obtain⟨n3,n24,hsm,hbd⟩:=Dw hv;have key:∀i k,i<k->k<l.n->l.g i=l.g k->False:=fun i k h1 h2 e=>by
  have ho:BZ l i k=true:=by
   have hv:=hv;unfold AA at hv;rw[pR,pR]at hv;have h:=hv.2.2;unfold DR at h;have:=Dk.1 (Dk.1 h i (by omega)) k h2;rw[decide_eq_true h1]at this;exact this
  have bad:∀k,k<l.n->l.g (Eg l.n k)=l.g k->False:=fun k hk e=>(Ii hv).2 k hk (by rw[e];exact zJ _ _);unfold BZ at ho;cases hx:L1 l i k with
  |false =>
    rw[hx]at ho;have ho:JV l i k=0:=of_decide_eq_true ho;unfold JV at ho;rw[<- e]at ho;exact zI _ _ _ ho
  |true =>
    unfold L1 at hx;rw[Dl,AdN,FE,pR,decide_eq_true_eq,decide_eq_true_eq,decide_eq_true_eq]at hx;rcases hx with h|⟨h,h'⟩
    ·refine bad k h2 ?_;have:Eg l.n k=i:=by
      unfold Eg;rw[show(k:Int)+(l.n:Int)-1=(i:Int)+(l.n:Int)by omega,AdA (by omega),Aef,AdV (by omega) (by omega)];omega
     rw[this,e]
    ·refine bad i (by omega) ?_;have:Eg l.n i=k:=by
      unfold Eg;rw[AdA (by omega),AdV (by omega) (by omega)];omega
     rw[this,e]
 intro i k hi hk e;rcases Aev i k with q|q|q
 ·exact(key i k q hk e).elim
 ·exact q
 ·exact(key k i q hi e.symm).elim
theorem Kl {l:L.Sq L.Pt} (hv:AA l=true):Nx l (Ap l)/\AW l=(Ap l).n/\∀i k,i<l.n->k<l.n->l.g i=l.g k->i=k:=by
 obtain⟨n3,n24,hsm,hbd⟩:=Dw hv;have hinj:=ZC hv;have hset:Nw l l:=⟨by omega,hinj,fun i hi=>⟨i,hi,rfl⟩,fun j hj=>⟨j,hj,rfl⟩⟩;obtain⟨H,hle⟩:=Yd hset;exact⟨H,Ye H (by omega),hinj⟩
theorem Km {x:L.Sq L.Pt} (h:∀i k,i<x.n->k<x.n->x.g i=x.g k->i=k) {i:Nat} (hi:i<x.n):AR x (x.g i)=(i:Int):=
 Qa hi (fun j hj=>by
  cases hs:Bt (x.g i) (x.g j)with
  |false=>rfl
  |true=>exact absurd (h i j hi (by omega) (IZ hs)) (by omega)) (GX _)
theorem LG {p:Nat->Bool}:∀{n:Nat},(Adu (AD p n)).map (B2 p n)=(Adu n).filter p
 |0=>rfl
 |n+1=>by
   rw[AeL,List.filter_append,<- LG (n:=n)];cases hp:p n with
   |false =>
     rw[Hy hp];have : [n].filter p = []:=by simp[hp]
     rw[this,AeM];exact AeI fun k _=>IV hp
   |true =>
     rw[If hp,AeL,AeA];have : [n].filter p = [n]:=by simp[hp]
     rw[this];congr 1
     ·exact AeI fun k hk=>IU (by have:=Adz.1 hk;omega)
     ·show [B2 p (n+1) (AD p n)]= [n];rw[IT hp]
theorem N8 {l:L.Sq L.Pt} (hv:AA l=true) {k i:Nat} (hk:k<(Ap l).n) (hi:i<l.n) (e:(Ap l).g k=l.g i):Gk l i=(k:Int)/\Dx l (Ap l) k=(i:Int)/\CJ l i=D8 l (Ap l) k/\Eh l i=EC l (Ap l) k:=by
 obtain⟨H,hN,hinj⟩:=Kl hv;obtain⟨n3,n24,hsm,hbd⟩:=Dw hv;have rg:∀j,j<(Ap l).n->(Ha l).g j=(Ap l).g j:=fun j hj=>H.at_ j hj;have rn:(Ha l).n=(Ap l).n:=hN;have hK:Gk l i=(k:Int):=by
  unfold Gk;refine Qa (by omega) (fun j hj=>?_) (by rw[rg k hk,e];exact GX _);cases hs:Bt (l.g i) ((Ha l).g j)with
  |false=>rfl
  |true =>
    have:=IZ hs;rw[rg j (by omega),<- e]at this;exact absurd (Ny H hk (by omega) this) (by omega)
 have hF:Dx l (Ap l) k=(i:Int):=by
  unfold Dx;rw[e];exact Km hinj hi
 have hT:DI l (Ap l) k=ED l i:=by
  unfold DI ED;rw[hK,rn,Ns hk,rg _ (GW (by omega))]
 have tb:=Yh (l:=l) (by omega) i;refine⟨hK,hF,?_,?_⟩
 ·unfold CJ D8;rw[hK,hT,hF,decide_eq_false (by omega)];rfl
 ·unfold Eh EC;rw[hF,hT,zH (by omega) (by omega) (by omega) tb.1]
theorem ZD {l:L.Sq L.Pt} (hv:AA l=true):(((Adu (Ap l).n).filter (D8 l (Ap l))).map (EC l (Ap l))).Perm (((Adu l.n).filter (CJ l)).map (Eh l)):=by
 obtain⟨H,hN,hinj⟩:=Kl hv;obtain⟨n3,n24,hsm,hbd⟩:=Dw hv;have inL:∀k,k<(Ap l).n->∃i,i<l.n/\(Ap l).g k=l.g i:=fun k hk=>by
  obtain⟨j,hj,e⟩:=N0 (l:=l) (by omega) k;exact⟨j,hj,by rw[<- H.at_ k hk];exact e⟩
 refine(List.perm_ext_iff_of_nodup ?_ ?_).2 (fun x=>?_)
 ·rw[AeK,Aek];refine List.Pairwise.imp_of_mem (R:=fun a b=>a<b) (fun {a b} ha hb hab e=>?_) (List.pairwise_lt_range.filter _);have ha:=Adz.1 (Adn.1 ha).1;have hb:=Adz.1 (Adn.1 hb).1;obtain⟨i,hi,e1⟩:=inL a ha;obtain⟨j,hj,e2⟩:=inL b hb;have p1:=(N8 hv ha hi e1).2.1;have p2:=(N8 hv hb hj e2).2.1;have e3:Dx l (Ap l) a=Dx l (Ap l) b:=congrArg AH.fr e;rw[p1,p2]at e3;have e4:i=j:=by omega
  rw[e4,<- e2]at e1;exact absurd (Ny H ha hb e1) (by omega)
 ·rw[AeK,Aek];refine(List.pairwise_lt_range.filter _).imp (fun {a b} hab e=>?_);have e3:(a:Int)=(b:Int):=congrArg AH.fr e;omega
 ·rw[Ado,Ado];constructor
  ·rintro⟨k,hk,rfl⟩;obtain⟨h1,h2⟩:=Adn.1 hk;have h1:=Adz.1 h1;obtain⟨i,hi,e⟩:=inL k h1;obtain⟨_,_,q1,q2⟩:=N8 hv h1 hi e;exact⟨i,Adn.2 ⟨Adz.2 hi,by rw[q1];exact h2⟩,q2⟩
  ·rintro⟨i,hi,rfl⟩;obtain⟨h1,h2⟩:=Adn.1 hi;have h1:=Adz.1 h1;have h3:¬ Gk l i<0:=fun c=>by
    unfold CJ at h2;rw[decide_eq_true c]at h2;cases h2
   obtain⟨k,hk,e⟩:∃k,k<(Ap l).n/\(Ap l).g k=l.g i:=by
    unfold Gk AR at h3;rcases Jc (f:=fun j=>Bt (l.g i) ((Ha l).g j)) (n:=(Ha l).n)with ⟨q,_⟩|⟨k,q1,q2,q3,_⟩
    ·rw[q]at h3;exact absurd (by decide) h3
    ·have q1:k<AW l:=q1;refine⟨k,by omega,?_⟩;rw[<- H.at_ k (by omega)];exact(IZ q3).symm
   obtain⟨_,_,q1,q2⟩:=N8 hv hk h1 e;exact⟨k,Adn.2 ⟨Adz.2 hk,by rw[<- q1];exact h2⟩,q2.symm⟩
theorem zK {a b:AH}:EO a b<0↔a.fr<b.fr:=by
 unfold EO Bs
 by_cases h1:a.fr<b.fr
 ·simp[h1]
 ·by_cases h2:b.fr<a.fr<;>simp[h1,h2]
theorem zL {l:L.Sq L.Pt} (hv:AA l=true) {u:Nat->AH} (hu:CU EO (Cg l).n (Cg l).g u):(Cg l).n=(AK l).n/\∀i,i<(Cg l).n->u i=(AK l).g i:=by
 have eP:(Adu (Cg l).n).map (Cg l).g=((Adu (Ap l).n).filter (D8 l (Ap l))).map (EC l (Ap l)):=by
  rw[<- LG,Aew];rfl
 have eR:(Adu (AK l).n).map (AK l).g=((Adu l.n).filter (CJ l)).map (Eh l):=by
  rw[<- LG,Aew];rfl
 have hperm:=hu.perm;rw[eP]at hperm;have hp2:=hperm.trans (ZD hv);have hR:(((Adu l.n).filter (CJ l)).map (Eh l)).Pairwise (fun a b=>a.fr<=b.fr):=by
  rw[Aek];refine(List.pairwise_lt_range.filter _).imp (fun {a b} hab=>?_);show(a:Int)<=(b:Int);omega
 have hU:((Adu (Cg l).n).map u).Pairwise (fun a b=>a.fr<=b.fr):=by
  rw[Aek];refine List.Pairwise.imp_of_mem (R:=fun a b=>a<b) (fun {a b} ha hb hab=>?_) List.pairwise_lt_range;have:=hu.asc a b hab (Adz.1 hb);rw[zK]at this;omega
 have e:(Adu (Cg l).n).map u=((Adu l.n).filter (CJ l)).map (Eh l):=by
  refine List.Perm.eq_of_pairwise (le:=fun a b:AH=>a.fr<=b.fr) (fun a b ha hb h1 h2=>?_) hU hR hp2;have ha:=hp2.mem_iff.1 ha;obtain⟨i,_,rfl⟩:=Ado.1 ha;obtain⟨j,_,rfl⟩:=Ado.1 hb;have h1:(i:Int)<=(j:Int):=h1;have h2:(j:Int)<=(i:Int):=h2;rw[show i=j by omega]
 rw[<- eR]at e;have hl:=congrArg List.length e;rw[AdW,List.length_range,AdW,List.length_range]at hl;refine⟨hl,fun i hi=>?_⟩;have:=congrArg (fun x=>x[i]?) e;simpa[hi,hl ▸ hi]using this
theorem LH {l:L.Sq L.Pt} (hv:AA l=true) {k:Nat} (hk:k<(Ap l).n):∃i,i<l.n/\(Ap l).g k=l.g i:=by
 obtain⟨H,hN,hinj⟩:=Kl hv;obtain⟨n3,n24,hsm,hbd⟩:=Dw hv;obtain⟨j,hj,e⟩:=N0 (l:=l) (by omega) k;exact⟨j,hj,by rw[<- H.at_ k hk];exact e⟩
theorem zM {l:L.Sq L.Pt} (hv:AA l=true) {k:Nat} (hk:k<(Ap l).n):DV l.n (EC l (Ap l) k):=by
 obtain⟨H,hN,hinj⟩:=Kl hv;have h2:=H.pos;have hx:BE (Ap l).n k<(Ap l).n:=GW (by omega);obtain⟨i,hi,ei⟩:=LH hv hk;obtain⟨j,hj,ej⟩:=LH hv hx;have f:Dx l (Ap l) k=(i:Int):=by unfold Dx;rw[ei];exact Km hinj hi
 have t:DI l (Ap l) k=(j:Int):=by unfold DI;rw[ej];exact Km hinj hj
 show((0:Int)<=Dx l (Ap l) k/\Dx l (Ap l) k<(l.n:Int))/\((0:Int)<=DI l (Ap l) k/\DI l (Ap l) k<(l.n:Int))/\Dx l (Ap l) k≠DI l (Ap l) k;rw[f,t];refine⟨by omega,by omega,fun e=>?_⟩;have e:i=j:=by omega
 subst e;have e:=Ny H hk hx (ei.trans ej.symm)
 by_cases c:k+1<(Ap l).n
 ·rw[Qs c]at e;omega
 ·obtain⟨m,hm⟩:∃m,(Ap l).n=m+1:=⟨(Ap l).n-1,by omega⟩;rw[hm,show k=m by omega,Z9]at e;omega
theorem ZE (l:L.Sq L.Pt):(Adu (Cg l).n).map (Cg l).g=((Adu (Ap l).n).filter (D8 l (Ap l))).map (EC l (Ap l)):=by
 rw[<- LG,Aew];rfl
theorem zN (l:L.Sq L.Pt):(Adu (AK l).n).map (AK l).g=((Adu l.n).filter (CJ l)).map (Eh l):=by
 rw[<- LG,Aew];rfl
theorem ZF {l:L.Sq L.Pt} (hv:AA l=true):Kk l:=fun i hi=>by
 have m:(Cg l).g i∈(Adu (Cg l).n).map (Cg l).g:=Ado.2 ⟨i,Adz.2 hi,rfl⟩;rw[ZE]at m;obtain⟨k,hk,e⟩:=Ado.1 m;rw[<- e];exact zM hv (Adz.1 (Adn.1 hk).1)
theorem ZG {l:L.Sq L.Pt} (hv:AA l=true) {i:Nat} (hi:i<(AK l).n):∃k,k<(Cg l).n/\(Cg l).g k=(AK l).g i:=by
 have m:(AK l).g i∈(Adu (Cg l).n).map (Cg l).g:=by
  rw[ZE];refine(ZD hv).mem_iff.2 ?_;rw[<- zN];exact Ado.2 ⟨i,Adz.2 hi,rfl⟩
 obtain⟨k,hk,e⟩:=Ado.1 m;exact⟨k,Adz.1 hk,e⟩
theorem Qv {l:L.Sq L.Pt} (hv:AA l=true) {i:Nat} (hi:i<(AK l).n):DV l.n ((AK l).g i):=by
 obtain⟨k,hk,e⟩:=ZG hv hi;rw[<- e];exact ZF hv k hk
theorem zO {l:L.Sq L.Pt} (hv:AA l=true) {i:Nat} (hi:i<(AK l).n):Im l ((AK l).g i)=true:=by
 obtain⟨k,hk,e⟩:=ZG hv hi;unfold Im D9;rw[hv];refine Gg.2 ⟨k,hk,?_⟩;rw[e];unfold Ew;rw[decide_eq_true rfl,decide_eq_true rfl,decide_eq_true rfl];rfl
def Ek (l:L.Sq L.Pt) (r:L.Sq Int) (i:Nat):L.Pt:=l.g (r.g i).toNat
def Qw (l:L.Sq L.Pt) (t:BA):Int:=H6 (l.g t.a.toNat) (l.g t.b.toNat) (l.g t.c.toNat)
def Gl (l:L.Sq L.Pt):List BA->Int
 |[]=>0
 |t::x=>Qw l t+Gl l x
theorem Qx (l:L.Sq L.Pt):∀x y,Gl l (x++y)=Gl l x+Gl l y
 |[],y=>by show Gl l y=0+_;omega
 |t::x,y=>by show _+Gl l (x++y)=_+Gl l x+_;rw[Qx l x y];omega
def zP (l:L.Sq L.Pt) (r:L.Sq Int) (bite:Int) (a b:Nat) (t:BA):Prop:=∃i m k,a<=i/\i<=b/\a<=m/\m<=b/\a<=k/\k<=b/\t=⟨r.g i,r.g m,r.g k⟩/\Fi l r bite i m k=true
def Qy (l:L.Sq L.Pt) (r:L.Sq Int) (bite:Int) (a b:Nat) (x:List BA):Prop:=(∀t,t∈x->zP l r bite a b t)/\Gl l x = -(Ej (Ek l r) b-Ej (Ek l r) a+Fy (Ek l r b) (Ek l r a))
theorem zQ (u m v:L.Pt):H6 u m v = -(Fy u m+Fy m v+Fy v u):=by
 unfold H6 Fy;grind
theorem Qz (l:L.Sq L.Pt) (r:L.Sq Int) (bite:Int):∀(n a b:Nat),a<b->∀x,Di (Fi l r bite) r.g n a b=some x->Qy l r bite a b x
 |0,a,b,_,x,e=>by cases e
 |n+1,a,b,hab,x,e=>by
   rw[Di]at e
   by_cases e1:b=a+1
   ·rw[if_pos e1]at e;cases e;refine⟨fun t h=>(by cases h),?_⟩;subst e1;show(0:Int)= -(Ej (Ek l r) a+Fy (Ek l r a) (Ek l r (a+1))-Ej (Ek l r) a+_);rw[LF (Ek l r a) (Ek l r (a+1))];omega
   ·rw[if_neg e1]at e;have key:∀m,a<m->m<b->∀x,Ev (Di (Fi l r bite) r.g n) (Fi l r bite) r.g a b m=some x->Qy l r bite a b x:=fun m h1 h2 x e=>by
     unfold Ev at e;cases h3:Fi l r bite a m b with
     |false=>rw[h3]at e;cases e
     |true =>
       rw[h3,cond_true]at e;cases h4:Di (Fi l r bite) r.g n a m with
       |none=>rw[h4]at e;cases e
       |some y =>
         cases h5:Di (Fi l r bite) r.g n m b with
         |none=>rw[h4,h5]at e;cases e
         |some z =>
           rw[h4,h5]at e;cases e;obtain⟨y1,y2⟩:=Qz l r bite n a m h1 y h4;obtain⟨z1,z2⟩:=Qz l r bite n m b h2 z h5;refine⟨fun t ht=>?_,?_⟩
           ·rcases Adq.1 ht with rfl|ht
            ·exact⟨a,m,b,by omega,by omega,by omega,by omega,by omega,by omega,rfl,h3⟩
            rcases Ad4.1 ht with ht|ht
            ·obtain⟨i,j,k,q1,q2,q3,q4,q5,q6,q7,q8⟩:=y1 t ht;exact⟨i,j,k,q1,by omega,q3,by omega,q5,by omega,q7,q8⟩
            ·obtain⟨i,j,k,q1,q2,q3,q4,q5,q6,q7,q8⟩:=z1 t ht;exact⟨i,j,k,by omega,q2,by omega,q4,by omega,q6,q7,q8⟩
           ·show H6 (Ek l r a) (Ek l r m) (Ek l r b)+Gl l (y++z)=_;rw[Qx,y2,z2,zQ,LF (Ek l r a) (Ek l r m),LF (Ek l r m) (Ek l r b)];omega
    have:∀m,m<=b-a-1->∀x,DW (fun k=>Ev (Di (Fi l r bite) r.g n) (Fi l r bite) r.g a b (a+1+k)) m=some x->Qy l r bite a b x:=fun m=>by
     induction m with
     |zero=>intro _ x e;cases e
     |succ m ih =>
       intro hm x e;rw[DW]at e;cases e2:DW (fun k=>Ev (Di (Fi l r bite) r.g n) (Fi l r bite) r.g a b (a+1+k)) m with
       |some y=>rw[e2]at e;cases e;exact ih (by omega) _ e2
       |none=>rw[e2]at e;exact key _ (by omega) (by omega) x e
    exact this _ (Adp _) x e
theorem Q0 {α:Type} {f:Nat->Option α}:∀{n},(DW f n).isSome=true↔∃k,k<n/\(f k).isSome=true
 |0=>⟨fun h=>(by cases h),fun⟨k,hk,_⟩=>absurd hk (oE _)⟩
 |n+1=>by
   have ih:=Q0 (f:=f) (n:=n);rw[DW];cases h:DW f n with
   |some x =>
     rw[h]at ih;obtain⟨k,hk,h2⟩:=ih.1 rfl;exact⟨fun _=>⟨k,by omega,h2⟩,fun _=>rfl⟩
   |none =>
     rw[h]at ih;refine⟨fun h2=>⟨n,Nat.lt_succ_self _,h2⟩,fun⟨k,hk,h2⟩=>?_⟩
     by_cases e:k=n
     ·subst e;exact h2
     ·exact absurd (ih.2 ⟨k,by omega,h2⟩) (fun h=>by cases h)
theorem ZH {f:Nat->Nat->Option (List BA)} {lw:Nat->Nat->Nat->Bool} {r:Nat->Int} {a b m:Nat}:(Ev f lw r a b m).isSome=true↔lw a m b=true/\(f a m).isSome=true/\(f m b).isSome=true:=by
 unfold Ev;cases lw a m b<;>cases f a m<;>cases f m b<;>simp
theorem Q1 {lw lw':Nat->Nat->Nat->Bool} {r:Nat->Int} (h:∀a m b,lw a m b=true->lw' a m b=true):∀n a b,(Di lw r n a b).isSome=true->(Di lw' r n a b).isSome=true
 |0,_,_,e=>by cases e
 |n+1,a,b,e=>by
   rw[Di]at e ⊢
   by_cases c:b=a+1
   ·rw[if_pos c];rfl
   ·rw[if_neg c]at e ⊢;obtain⟨k,hk,e⟩:=Q0.1 e;obtain⟨e1,e2,e3⟩:=ZH.1 e;exact Q0.2 ⟨k,hk,ZH.2 ⟨h _ _ _ e1,Q1 h n _ _ e2,Q1 h n _ _ e3⟩⟩
theorem ZI (a:Int):0<=a*a:=by
 rcases Int.le_total 0 a with h|h
 ·exact AdZ h h
 ·have:=AdZ (show 0 <= -a by omega) (show 0 <= -a by omega);rwa[Int.neg_mul_neg]at this
theorem zR {u m v:L.Pt} {b c:Int} (h0:0<=b) (h1:b<=c) (h:Fx u m v b=true):Fx u m v c=true:=by
 unfold Fx at *;rw[FE,pR]at h ⊢;refine⟨h.1,decide_eq_true ?_⟩;have h2:=of_decide_eq_true h.2;have f0:0<=Qk u v:=by
  unfold Qk;have x:=ZI (v.x-u.x);have y:=ZI (v.y-u.y);omega
 have hb:b*b<=c*c:=Int.mul_le_mul h1 h1 h0 (by omega);have:=Int.mul_le_mul_of_nonneg_right hb f0;omega
theorem ZJ {l:L.Sq L.Pt} {p:AH} {b c:Int} (h0:0<=b) (h1:b<=c) (h:BJ (Ca l p b)=true):BJ (Ca l p c)=true:=by
 unfold BJ Ca at *;cases hh:GB l p with
 |false=>rw[hh]at h;cases h
 |true =>
   rw[hh]at h;exact Q1 (fun i m k hw=>zR h0 h1 hw) _ _ _ h
theorem zS {l:L.Sq L.Pt} {p:AH} {b:Int} (hn:0<l.n) (hk:DV l.n p) {x:List BA} (h:Ca l p b=some x):(∀t,t∈x->((0<=t.a/\t.a<(l.n:Int))/\(0<=t.b/\t.b<(l.n:Int))/\(0<=t.c/\t.c<(l.n:Int)))/\Fx (l.g t.a.toNat) (l.g t.b.toNat) (l.g t.c.toNat) b=true)/\Gl l x=0-B7 (CX l p.fr p.to_) (CX l p.fr p.to_).n:=by
 obtain⟨d1,d2,f0,f1,fr,fe,fs⟩:=LD hk;unfold Ca at h;cases hh:GB l p with
 |false=>rw[hh]at h;cases h
 |true =>
   rw[hh]at h;have h:BF l (Hc l p) b 0 (BW l.n p+1-1)=some x:=h;rw[Nat.add_sub_cancel]at h;obtain⟨x1,x2⟩:=Qz _ _ _ _ _ _ (by omega) x h;refine⟨fun t ht=>?_,?_⟩
   ·obtain⟨i,m,k,_,q2,_,q4,_,q6,rfl,q8⟩:=x1 t ht;exact⟨⟨fr i q2,fr m q4,fr k q6⟩,q8⟩
   ·have e : ∀j, j<=BW l.n p->Ek l (Hc l p) j = (CX l p.fr p.to_).g j :=fun j hj =>by
     show l.g (Ch l.n p j).toNat=l.g (BN l.n (p.fr+(j:Int)));have:=W9 (n:=l.n) (a:=p.fr+(j:Int)) hn;congr 1;unfold Ch;omega
    have e0:Ej (Ek l (Hc l p)) 0=0:=rfl;rw[x2,Qt (x:=CX l p.fr p.to_) (d:=BW l.n p) rfl,Qu _ e,e0,e _ (Adp _),e 0 (Ads _)];omega
def Dp (l:L.Sq L.Pt) (b:Int):Bool:=CG (AK l).n fun i=>BJ (Ca l ((AK l).g i) b)
theorem zT {l:L.Sq L.Pt} (hv:AA l=true):Fu l=false:=by
 obtain⟨n3,n24,hsm,hbd⟩:=Dw hv;have hf:=X5 (l:=l) (k:=1) (by omega) (fun j hj=>by rw[show j=0 by omega]) (fun e=>by have:=ZC hv 1 0 (by omega) (by omega) e;omega);unfold Fu;rw[hf,decide_eq_false (show ¬ ((1:Nat):Int)<0 by omega),cond_false,Gg.2 ⟨2,by omega,?_⟩]
 ·rfl
 ·have h:=(Ii hv).2 1 (by omega);rw[Qs (by omega),show Eg l.n 1=0 by unfold Eg;rw[show((1:Nat):Int)+(l.n:Int)-1=(l.n:Int)by omega,Int.tmod_self];rfl]at h;show(!decide (Ax (l.g 0) (l.g ((1:Nat):Int).toNat) (l.g 2)=0))=true;rw[decide_eq_false (show ¬ Ax (l.g 0) (l.g ((1:Nat):Int).toNat) (l.g 2)=0 from h)];rfl
theorem ZK:∀(n:Nat) (f:Nat->Nat),(∀i,i<=n->f i<n)->∃i j,i<j/\j<=n/\f i=f j
 |0,f,h=>absurd (h 0 (Adp _)) (oE _)
 |n+1,f,h=>by
   by_cases hx:∃i,i<=n/\f i=f (n+1)
   ·obtain⟨i,hi,e⟩:=hx;exact⟨i,n+1,by omega,Adp _,e⟩
   ·have hv:=h (n+1) (Adp _);obtain⟨i,j,hij,hj,e⟩:=ZK n (fun i=>if f i=n then f (n+1)else f i) (fun i hi=>by
     have h1:=h i (by omega);have h2:f i≠f (n+1):=fun e=>hx ⟨i,hi,e⟩
     by_cases hin:f i=n
     ·simp[hin];omega
     ·simp[hin];omega)
    refine⟨i,j,hij,by omega,?_⟩;have h1:f i≠f (n+1):=fun e=>hx ⟨i,by omega,e⟩;have h2:f j≠f (n+1):=fun e=>hx ⟨j,by omega,e⟩
    by_cases hi:f i=n<;>by_cases hjn:f j=n
    ·omega
    ·simp[hi,hjn]at e;omega
    ·simp[hi,hjn]at e;omega
    ·simpa[hi,hjn]using e
theorem zU {l:L.Sq L.Pt} (hv:AA l=true):(Ap l).n<=l.n:=by
 obtain⟨H,hN,hinj⟩:=Kl hv;refine Nat.le_of_not_lt fun hlt=>?_;obtain⟨i,j,hij,hj,e⟩:=ZK l.n (fun k=>(AR l ((Ap l).g k)).toNat) (fun k hk=>by
  obtain⟨a,ha,e⟩:=LH hv (k:=k) (by omega);show(AR l ((Ap l).g k)).toNat<l.n;rw[e,Km hinj ha,Ad3];exact ha)
 obtain⟨a,ha,ea⟩:=LH hv (k:=i) (by omega);obtain⟨b,hb,eb⟩:=LH hv (k:=j) (by omega);have e:(AR l ((Ap l).g i)).toNat=(AR l ((Ap l).g j)).toNat:=e;rw[ea,eb,Km hinj ha,Km hinj hb,Ad3,Ad3]at e;rw[e,<- eb]at ea;have:=Ny H (by omega) (by omega) ea;omega
theorem zV {l:L.Sq L.Pt} (hv:AA l=true):Dy l (Ap (Cp (Aw l))).n=0/\(Ap (Cp (Aw l))).n=AW l/\(∀k,k<AW l->(Ap (Cp (Aw l))).g k=AT l k)/\2<=AW l/\AW l<=l.n:=by
 obtain⟨n3,n24,hsm,hbd⟩:=Dw hv;obtain⟨H,hN,hinj⟩:=Kl hv;have hle:=zU hv;have h2:=H.pos;have hf:=zT hv;have hp:DH l=true:=Dk.2 (Ii hv).1;obtain⟨c1,c2,c3,c4⟩:=PZ l;have hset:Nw l (Cp (Aw l)):=by
  refine⟨XT (X6 hf (by omega)),fun i k hi hk e=>?_,c3,fun j hj=>by obtain⟨i,hi,e⟩:=c2 j hj;exact⟨i,hi,e.symm⟩⟩;rcases Aev i k with q|q|q
  ·have:=c1 i k q hk;rw[e]at this;unfold BI Et at this;omega
  ·exact q
  ·have:=c1 k i q hi;rw[e]at this;unfold BI Et at this;omega
 obtain⟨H2,hle2⟩:=Yd hset;have hN2:=Ye H2 (by omega);refine⟨?_,hN2.symm,fun k hk=>(H2.at_ k (by omega)).symm,by omega,by omega⟩;unfold Dy;rw[hf,hp,decide_eq_false (show ¬ 400<(l.n:Int)by omega),decide_eq_false (by omega)];rfl
def Q2 (l:L.Sq L.Pt) (k:Nat):L.Pt:=AT l (BE (AW l) k)
def Kn (l:L.Sq L.Pt) (k:Nat):Bool:=bif !decide ((AT l k).x=(Q2 l k).x)then !decide ((AT l k).y=(Q2 l k).y)else false
def C9 (l:L.Sq L.Pt) (k:Nat):Nat:=AD (Kn l) k
def Ex (l:L.Sq L.Pt) (k i:Nat):Int:=AR l (AT l (B2 (Kn l) k i))
def Ey (l:L.Sq L.Pt) (k i:Nat):Int:=AR l (Q2 l (B2 (Kn l) k i))
def CQ (l:L.Sq L.Pt) (b:Int) (k:Nat):List BA:=(Ca l ((AK l).g k) b).getD []
def DM (l:L.Sq L.Pt) (b:Int):Nat->List BA
 |0=>[]
 |k+1=>DM l b k++CQ l b k
def Cz (l:L.Sq L.Pt) (b:Int) (k j:Nat):List BA:=DM l b k++(CQ l b k).take j
def BQ (x:List BA):Nat:=x.length
def ES (x:List BA) (i:Nat):Int:=(x.getD i ⟨0,0,0⟩).a
def ET (x:List BA) (i:Nat):Int:=(x.getD i ⟨0,0,0⟩).b
def EU (x:List BA) (i:Nat):Int:=(x.getD i ⟨0,0,0⟩).c
def Hd (l:L.Sq L.Pt) (b:Int) (k:Nat):Bool:=CG k fun i=>BJ (Ca l ((AK l).g i) b)
def Ko (l:L.Sq L.Pt) (b:Int):Nat:=bif Dp l b then C9 l (AW l)else 0
def Kp (l:L.Sq L.Pt) (b:Int):Nat:=bif Dp l b then BQ (DM l b (AK l).n)else 0
theorem Q3 {l:L.Sq L.Pt} (hv:AA l=true) {b:Int} {k:Nat} (hk:k<(AK l).n):(CQ l b k).length<=1000:=by
 obtain⟨n3,n24,hsm,hbd⟩:=Dw hv;obtain⟨d1,d2,_⟩:=LD (Qv hv hk);unfold CQ Ca;cases GB l ((AK l).g k)with
 |false=>exact Ads _
 |true =>
   show((BF l (Hc l ((AK l).g k)) b 0 (BW l.n ((AK l).g k)+1-1)).getD []).length<=1000;rw[Nat.add_sub_cancel];cases e:BF l (Hc l ((AK l).g k)) b 0 (BW l.n ((AK l).g k))with
   |none=>exact Ads _
   |some x =>
     have:=N5 _ _ _ _ _ (by omega) x e;show x.length<=1000;omega
theorem ZL {l:L.Sq L.Pt} (hv:AA l=true) {b:Int}:∀k,k<=(AK l).n->(DM l b k).length<=1000*k
 |0,_=>Ads _
 |k+1,h=>by
   have:=ZL hv (b:=b) k (by omega);have:=Q3 hv (b:=b) (k:=k) (by omega);rw[DM,AdL];omega
theorem ZM {l:L.Sq L.Pt} (hv:AA l=true):(AK l).n<=24:=by
 obtain⟨n3,n24,hsm,hbd⟩:=Dw hv;have:AD (CJ l) l.n<=l.n:=IS;show AD (CJ l) l.n<=24;omega
theorem zW {l:L.Sq L.Pt} {b:Int} {k j:Nat} (hj:j<(CQ l b k).length):Cz l b k (j+1)=Cz l b k j ++ [(CQ l b k).getD j ⟨0,0,0⟩]:=by
 unfold Cz;rw[AeP,List.take_add_one,AS,List.getElem?_eq_getElem hj];rfl
theorem zX (x:List BA) (t:BA) (i:Nat) (hi:i<x.length+1):(x ++ [t]).getD i ⟨0,0,0⟩=if i<x.length then x.getD i ⟨0,0,0⟩else t:=by
 by_cases h:i<x.length
 ·rw[if_pos h,AS,Ad7 h,<- AS]
 ·rw[if_neg h,AS,Ad8 (by omega),show i-x.length=0 by omega];rfl
theorem zY {l:L.Sq L.Pt} {b:Int} {k j:Nat} (hj:j<(CQ l b k).length):BQ (Cz l b k j)+1=BQ (Cz l b k (j+1))/\∀i,i<BQ (Cz l b k j)+1->Ba (BQ (Cz l b k j)) (fun i=>[SV.sl 1 3 (Bb [.int .i64 (ES (Cz l b k j) i),.int .i64 (ET (Cz l b k j) i),.int .i64 (EU (Cz l b k j) i)] 1)]) (fun _=>[SV.sl 1 3 (Bb [.int .i64 ((CQ l b k).getD j ⟨0,0,0⟩).a,.int .i64 ((CQ l b k).getD j ⟨0,0,0⟩).b,.int .i64 ((CQ l b k).getD j ⟨0,0,0⟩).c] 1)]) i = [SV.sl 1 3 (Bb [.int .i64 (ES (Cz l b k (j+1)) i),.int .i64 (ET (Cz l b k (j+1)) i),.int .i64 (EU (Cz l b k (j+1)) i)] 1)]:=by
 rw[zW hj];unfold BQ;refine⟨by rw[AdL];rfl,fun i hi=>?_⟩;unfold Ba ES ET EU;rw[zX _ _ _ hi]
 by_cases h:i<(Cz l b k j).length
 ·rw[if_pos h,if_pos h]
 ·rw[if_neg h,if_neg h]
theorem zZ (l:L.Sq L.Pt) (b:Int) (k:Nat):Cz l b k 0=DM l b k:=by unfold Cz;rw[List.take_zero,AeM]
theorem Aaa (l:L.Sq L.Pt) (b:Int) (k:Nat):Cz l b k (BQ (CQ l b k))=DM l b (k+1):=by unfold Cz BQ;rw[List.take_length];rfl
def FJ (u m v:L.Pt) (b:Int):Bool:=bif bif bif !B8 u then true else !B8 m then true else !B8 v then true else !AG b 0 4096
def DN (l:L.Sq L.Pt) (b:Int):Bool:=bif !AA l then true else !AG b 0 4096
def ZN (u:L.Pt) (m:L.Pt) (v:L.Pt) (b:Int):Prop:=True
def ZO (u:L.Pt) (m:L.Pt) (v:L.Pt) (b:Int):SV:=.tup [.bool (bif FJ u m v b then false else Fx u m v b),.int .i64 (bif FJ u m v b then 1 else 0)]
def ZP:List EV->Option (Prop×SV)
 |[.p (.agg [.int .i64 u_x,.int .i64 u_y]),.p (.agg [.int .i64 m_x,.int .i64 m_y]),.p (.agg [.int .i64 v_x,.int .i64 v_y]),.p (.int .i64 b)]=>some (ZN (⟨u_x,u_y⟩:L.Pt) (⟨m_x,m_y⟩:L.Pt) (⟨v_x,v_y⟩:L.Pt) b,ZO (⟨u_x,u_y⟩:L.Pt) (⟨m_x,m_y⟩:L.Pt) (⟨v_x,v_y⟩:L.Pt) b)
 |_=>none
abbrev ZQ:SE.Spec:=(AM ZP)
def Aab:Aj:={ cC with specs:=AF [(43,P0),(38,Jd),(44,Qo)] }
theorem Aac (u:L.Pt) (m:L.Pt) (v:L.Pt) (b:Int) (hp:ZN u m v b):vc Tryz.prog (Aab) (Af Tryz.f11) (Ar Tryz.f11 [.p (.agg [.int .i64 u.x,.int .i64 u.y]),.p (.agg [.int .i64 m.x,.int .i64 m.y]),.p (.agg [.int .i64 v.x,.int .i64 v.y]),.p (.int .i64 b)]) (AL Tryz.prog Tryz.f11 (ZO u m v b)):=
 @Eq.mpr _ (let A2:=(0:Int);let A1:=(bif bif bif !B8 u then true else !B8 m then true else !B8 v then true else !AG b A2 (4096:Int));True/\((!!B8 u)=true->True)/\((!bif !B8 u then true else !B8 m)=true->True)/\((!bif bif !B8 u then true else !B8 m then true else !B8 v)=true->True)/\(A1=true->(false=bif FJ u m v b then false else Fx u m v b)/\(1:Int)=bif FJ u m v b then(1:Int)else A2)/\(A1=false->(Ei u/\Ei m/\Ei v/\A2<=b/\b<=(4096:Int))/\(Fx u m v b=bif FJ u m v b then false else Fx u m v b)/\A2=bif FJ u m v b then(1:Int)else A2)) (by kernel_rfl) (by
 conv=>zeta
 refine⟨trivial,fun _=>trivial,fun _=>trivial,fun _=>trivial,fun h=>?_,fun h=>?_⟩
 ·have h:FJ u m v b=true:=h;rw[h];exact⟨rfl,rfl⟩
 ·have h:FJ u m v b=false:=h;rw[h];unfold FJ at h;rw[Dl,Dl,Dl,AdD,AdD,AdD]at h;obtain⟨⟨⟨h1,h2⟩,h3⟩,h4⟩:=h;have h4:AG b 0 4096=true:=Cl h4;unfold AG at h4;rw[pR,decide_eq_true_eq,decide_eq_true_eq]at h4;exact⟨⟨FI.1 (Cl h1),FI.1 (Cl h2),FI.1 (Cl h3),h4.1,h4.2⟩,rfl,rfl⟩)
theorem Aad:AB Tryz.prog 11 ZQ:=AP Tryz.func11 (c:=Af Tryz.f11) (by kernel_rfl) mixed (fun args p r hs hp=>by
 unfold ZP at hs;split at hs
 ·cases hs;exact⟨_,_,Aac _ _ _ _ hp,(.same _ (.same _ (.same _ (.same _ .nil)))),⟨show Aa Tryz.prog _ from(Aa.cons Uu Uv (Aa.cons Kh Ki (Aa.cons YP YQ Aa.nil))),rfl,⟨show Ae Tryz.prog _ from Ae.nil,(AC.none (fun _=>rfl))⟩⟩⟩
 ·cases hs)
theorem Aae:Ao Tryz.prog 11:=fun args w=>by kernel_rfl
def ZR (l:(L.Sq L.Pt)):Prop:=AA l=true
def ZS (l:(L.Sq L.Pt)):SV:=.sl 1 (C9 l (AW l)) (fun i=>[.sl 1 2 (Bb [.int .i64 (Ex l (AW l) i),.int .i64 (Ey l (AW l) i)] 1)])
def ZT:List EV->Option (Prop×SV)
 |[.p (.sl 2 l_n l_g)]=>some ((∀i,i<l_n->l_g i = [.int .i64 ((Ai (l_g i)).x),.int .i64 ((Ai (l_g i)).y)])/\ZR (⟨l_n,fun i=>Ai (l_g i)⟩:(L.Sq L.Pt)),ZS (⟨l_n,fun i=>Ai (l_g i)⟩:(L.Sq L.Pt)))
 |_=>none
abbrev ZU:SE.Spec:=(AM ZT)
def Aaf:Aj:={ cC with muts:=[7,8],specs:=AF [(125,Yb),(82,PB)],nils:=BD [(3,[(3,50,69,1)])] }
theorem Aag (l:(L.Sq L.Pt)) (hp:ZR l):vc Tryz.prog ({ Aaf with loops:=AY [(4,{ T:=Nat,keep:=[0,4,14,15],keepO:=[],chg:=fun k=>[(3,.row 50),(16,.p (.int .i64 (k:Int)))],own:=fun k=>[(50,.row 69 1 (C9 l k) (fun i=>[.sl 1 2 (Bb [.int .i64 (Ex l k i),.int .i64 (Ey l k i)] 1)]))],inv:=fun k=>k<=AW l,mu:=fun k=>AW l-k })],rfs:=AU [] }) (Af Tryz.f80) (Ar Tryz.f80 [.p (.sl 2 l.n (fun i=>[.int .i64 ((l.g i).x),.int .i64 ((l.g i).y)]))]) (AL Tryz.prog Tryz.f80 (ZS l)):=
 @Eq.mpr _ (let I:=SV.int .i64;let T:=Ad6;let M:=AdF;let A21:=(0:Nat);let A16:=(2:Nat);let A15:=(0:Int);let A13:=(L.Sq.mk l.n fun(i:Nat)=>l.g i);let A12:=(1:Nat);let A10:=(l.n=l.n/\∀(i:Nat),let A19:=[I (l.g i).x,I (l.g i).y];i<l.n->A19=A19);let A6:=((∀(i:Nat),let A20:=[I (l.g i).x,I (l.g i).y];i<l.n->A20=A20)/\l.n<=(1000000:Nat));let A3:=(Ap (Cp (Aw A13)));let A1:=(bif decide (Dy A13 A3.n=A15)then A3.n else A21);let A9:=(↑A1:Int);A6/\(∃(g:Nat),A15=(↑g:Int)/\(nat_lit 0=C9 l g/\∀(i:Nat),i<nat_lit 0 -> []= [SV.sl A12 A16 (Bb [I (Ex l g i),I (Ey l g i)] A12)])/\g<=AW l)/\∀(g:Nat),let A14:=(↑g:Int);let A8:=(A14+(1:Int));let A5:=(bif !decide ((A3.g (T A14)).x=(A3.g (T (M A8 A9))).x)then !decide ((A3.g (T A14)).y=(A3.g (T (M A8 A9))).y)else false);let A2:=((A1=bif decide (Dy A13 A3.n=A15)then A3.n else A21)/\∀(i:Nat),let A17:=(L.Sq.mk l.n fun(i:Nat)=>l.g i);let A4:=(Ap (Cp (Aw A17)));let A18:=[I (A4.g i).x,I (A4.g i).y];(i<bif decide (Dy A17 A4.n=A15)then A4.n else A21)->A18=A18);g<=AW l->(decide (A14<A9)=true->(A15<=A14/\A14<A9)/\Ac .i64 A8/\A9≠A15/\(A15<=M A8 A9/\M A8 A9<A9)/\(A5=true->A6/\A6/\(C9 l g+nat_lit 1)*nat_lit 24<=(140737488355328:Nat)/\Ac .i64 A8/\∃(g':Nat),A14+(1:Int)=(↑g':Int)/\A9=A9/\A2/\A2/\A10/\(C9 l g+nat_lit 1=C9 l g'/\∀(i:Nat),let A7:=(L.Sq.mk l.n fun(i:Nat)=>l.g i);let A11:=(Ap (Cp (Aw A7)));i<C9 l g+nat_lit 1->Ba (C9 l g) (fun(i:Nat)=>[SV.sl A12 A16 (Bb [I (Ex l g i),I (Ey l g i)] A12)]) (fun(x:Nat)=>[SV.sl (nat_lit 1) (nat_lit 2) (Bb [I (AR A7 (A11.g (T A14))),I (AR A7 (A11.g (T (M A8 (↑(bif decide (Dy A7 A11.n=A15)then A11.n else A21):Int)))))] (nat_lit 1))]) i = [SV.sl A12 A16 (Bb [I (Ex l g' i),I (Ey l g' i)] A12)])/\g'<=AW l/\AW l-g'<AW l-g)/\(A5=false->Ac .i64 A8/\∃(g':Nat),A14+(1:Int)=(↑g':Int)/\A9=A9/\A2/\A2/\A10/\(C9 l g=C9 l g'/\∀(i:Nat),i<C9 l g -> [SV.sl A12 A16 (Bb [I (Ex l g i),I (Ey l g i)] A12)]= [SV.sl A12 A16 (Bb [I (Ex l g' i),I (Ey l g' i)] A12)])/\g'<=AW l/\AW l-g'<AW l-g))/\(decide (A14<A9)=false->C9 l g=C9 l (AW l)/\∀(i:Nat),i<C9 l g -> [SV.sl A12 A16 (Bb [I (Ex l g i),I (Ey l g i)] A12)]= [SV.sl A12 A16 (Bb [I (Ex l (AW l) i),I (Ey l (AW l) i)] A12)])) (by kernel_rfl) (by
 conv=>zeta
 have hv:AA l=true:=hp;obtain⟨n3,n24,hsm,hbd⟩:=Dw hv;obtain⟨hE,hN,hG,w2,wl⟩:=zV hv;have eN:(bif decide (Dy l (Ap (Cp (Aw l))).n=0)then(Ap (Cp (Aw l))).n else 0)=AW l:=by rw[hE,decide_eq_true rfl];exact hN
 rw[eN];refine⟨⟨fun _ _=>rfl,by omega⟩,⟨0,rfl,⟨rfl,fun i hi=>absurd hi (oE _)⟩,Ads _⟩,fun g hg=>⟨fun hlt=>?_,fun hge=>?_⟩⟩
 ·have hlt:(g:Int)<(AW l:Int):=of_decide_eq_true hlt;have e0:((g:Int)).toNat=g:=Ad3 g;have e1:(AdF ((g:Int)+1) (AW l:Int)).toNat=BE (AW l) g:=rfl;have hx:=GW (n:=AW l) (k:=g) (by omega);rw[e0,e1,hG g (by omega),hG _ hx];have t3:=Int.tmod_nonneg (AW l:Int) (show 0<=(g:Int)+1 by omega);have t4:=Int.tmod_lt_of_pos ((g:Int)+1) (show 0<(AW l:Int)by omega);have c0:C9 l g<=g:=IS;have ln:l.n<=1000000:=by omega
  refine⟨⟨by omega,by omega⟩,jK,by omega,⟨t3,t4⟩,fun hp=>?_,fun hp=>?_⟩
  ·have hp:Kn l g=true:=hp;have row:C9 l g+1=C9 l (g+1)/\∀(i:Nat),i<C9 l g+1->Ba (C9 l g) (fun(i:Nat)=>[SV.sl 1 2 (Bb [.int .i64 (Ex l g i),.int .i64 (Ey l g i)] 1)]) (fun(x:Nat)=>[SV.sl 1 2 (Bb [.int .i64 (AR l (AT l g)),.int .i64 (AR l (AT l (BE (AW l) g)))] 1)]) i = [SV.sl 1 2 (Bb [.int .i64 (Ex l (g+1) i),.int .i64 (Ey l (g+1) i)] 1)]:=by
    refine⟨(If hp).symm,fun i hi=>?_⟩;unfold Ba Ex Ey
    by_cases h':i<C9 l g
    ·rw[if_pos h',IU (Nat.ne_of_lt h')]
    ·rw[if_neg h'];obtain rfl:i=C9 l g:=by omega
     have sn:B2 (Kn l) (g+1) (C9 l g)=g:=IT hp;rw[sn];rfl
   have o:(C9 l g+1)*24<=140737488355328:=by omega
   refine⟨⟨fun _ _=>rfl,ln⟩,⟨fun _ _=>rfl,ln⟩,o,jK,g+1,?_⟩;exact(by(try dsimp only);(repeat' with_reducible apply And.intro)<;>first|with_reducible rfl|with_reducible exact row.1|with_reducible exact row.2|with_reducible exact fun _=>rfl|with_reducible exact fun _ _=>rfl|with_reducible exact trivial|exact rfl|(intro _;exact rfl)|(intro _ _;exact rfl)|exact row.1|exact row.2|exact(by omega)|exact trivial|(intro _ h_;exact absurd h_ (oE _)))
  ·have hp:Kn l g=false:=hp;refine⟨jK,g+1,?_⟩;have row:C9 l g=C9 l (g+1)/\∀(i:Nat),i<C9 l g -> [SV.sl 1 2 (Bb [.int .i64 (Ex l g i),.int .i64 (Ey l g i)] 1)]= [SV.sl 1 2 (Bb [.int .i64 (Ex l (g+1) i),.int .i64 (Ey l (g+1) i)] 1)]:=by
    refine⟨(Hy hp).symm,fun i hi=>?_⟩;unfold Ex Ey;rw[IV hp]
   exact(by(try dsimp only);(repeat' with_reducible apply And.intro)<;>first|with_reducible rfl|with_reducible exact row.1|with_reducible exact row.2|with_reducible exact fun _=>rfl|with_reducible exact fun _ _=>rfl|with_reducible exact trivial|exact rfl|(intro _;exact rfl)|(intro _ _;exact rfl)|exact row.1|exact row.2|exact(by omega)|exact trivial|(intro _ h_;exact absurd h_ (oE _)))
 ·have hge:¬ (g:Int)<(AW l:Int):=of_decide_eq_false hge;obtain rfl:g=AW l:=by omega
  exact⟨rfl,fun _ _=>rfl⟩)
theorem Aah:AB Tryz.prog 80 ZU:=AP Tryz.func80 (c:=Af Tryz.f80) (by kernel_rfl) mixed (fun args p r hs hp=>by
 unfold ZT at hs;split at hs
 ·cases hs;exact⟨_,_,Aag _ hp.2,(.p (.sl hp.1) .nil),⟨show Aa Tryz.prog _ from(Aa.cons vR vS (Aa.cons Vl Vm Aa.nil)),rfl,⟨show Ae Tryz.prog _ from Ae.nil,(AC.none (fun _=>rfl))⟩⟩⟩
 ·cases hs)
theorem Aai:Ao Tryz.prog 80:=fun args w=>by kernel_rfl
def ZV (l:(L.Sq L.Pt)) (b:Int):Prop:=AA l=true/\0<=b/\b<=4096
def ZW (l:(L.Sq L.Pt)) (b:Int):SV:=.tup [.sl 1 (Ko l b) (fun i=>[.sl 1 2 (Bb [.int .i64 (Ex l (AW l) i),.int .i64 (Ey l (AW l) i)] 1)]),.sl 1 (Kp l b) (fun i=>[.sl 1 3 (Bb [.int .i64 (ES (DM l b (AK l).n) i),.int .i64 (ET (DM l b (AK l).n) i),.int .i64 (EU (DM l b (AK l).n) i)] 1)]),.bool (Dp l b)]
def ZX:List EV->Option (Prop×SV)
 |[.p (.sl 2 l_n l_g),.p (.int .i64 b)]=>some ((∀i,i<l_n->l_g i = [.int .i64 ((Ai (l_g i)).x),.int .i64 ((Ai (l_g i)).y)])/\ZV (⟨l_n,fun i=>Ai (l_g i)⟩:(L.Sq L.Pt)) b,ZW (⟨l_n,fun i=>Ai (l_g i)⟩:(L.Sq L.Pt)) b)
 |_=>none
abbrev ZY:SE.Spec:=(AM ZX)
def Aaj:Aj:={ cC with muts:=[10,14],specs:=AF [(40,PJ),(42,Qq),(80,ZU)],nils:=BD [(2,[(5,50,69,1)])] }
theorem Aak (l:(L.Sq L.Pt)) (b:Int) (hp:ZV l b):vc Tryz.prog ({ Aaj with loops:=AY [(3,{ T:=Nat,keep:=[0,1,20,21],keepO:=[],chg:=fun k=>[(5,.row 50),(22,.p (.int .i64 (k:Int)))],own:=fun k=>[(50,.row 69 1 (BQ (DM l b k)) (fun i=>[.sl 1 3 (Bb [.int .i64 (ES (DM l b k) i),.int .i64 (ET (DM l b k) i),.int .i64 (EU (DM l b k) i)] 1)]))],inv:=fun k=>k<=(AK l).n/\Hd l b k=true,mu:=fun k=>(AK l).n-k }),(9,{ T:=Nat×Nat,keep:=[0,1,20,21,22,35,36],keepO:=[],tie:=fun g=>[(22,.int .i64 (g.1:Int))],chg:=fun g=>[(5,.row 50),(37,.p (.int .i64 (g.2:Int)))],own:=fun g=>[(50,.row 69 1 (BQ (Cz l b g.1 g.2)) (fun i=>[.sl 1 3 (Bb [.int .i64 (ES (Cz l b g.1 g.2) i),.int .i64 (ET (Cz l b g.1 g.2) i),.int .i64 (EU (Cz l b g.1 g.2) i)] 1)]))],inv:=fun g=>(g.1<(AK l).n/\Hd l b g.1=true)/\g.2<=BQ (CQ l b g.1),mu:=fun g=>BQ (CQ l b g.1)-g.2 })],rfs:=AU [] }) (Af Tryz.f39) (Ar Tryz.f39 [.p (.sl 2 l.n (fun i=>[.int .i64 ((l.g i).x),.int .i64 ((l.g i).y)])),.p (.int .i64 b)]) (AL Tryz.prog Tryz.f39 (ZW l b)):=
 @Eq.mpr _ (let I:=SV.int .i64;let T:=Ad6;let A29:=(1:Int);let A25:=(0:Int);let A19:=(3:Nat);let A15:=(AK l);let A24:=(DM l b A15.n);let A13:=(l.n=l.n/\∀(i:Nat),let A27:=[I (l.g i).x,I (l.g i).y];i<l.n->A27=A27);let A9:=(1:Nat);let A8:=(∀(i:Nat),let A28:=[I (l.g i).x,I (l.g i).y];i<l.n->A28=A28);let A1:=(L.Sq.mk l.n fun(i:Nat)=>l.g i);let A12:=(↑(D9 A1):Int);(A8/\l.n<=(1000000:Nat))/\∀(t:Nat->AH),let A6:=(D9 A1=D9 A1/\∀(i:Nat),let A21:=[I (t i).fr,I (t i).to_,I (t i).area];i<D9 (L.Sq.mk l.n fun(i:Nat)=>l.g i)->A21=A21);(AA A1=true->CU EO (Cg A1).n (Cg A1).g t)->(∃(g:Nat),let A23:=(DM l b g);A25=(↑g:Int)/\(nat_lit 0=BQ A23/\∀(i:Nat),i<nat_lit 0 -> []= [SV.sl A9 A19 (Bb [I (ES A23 i),I (ET A23 i),I (EU A23 i)] A9)])/\g<=A15.n/\Hd l b g=true)/\∀(g:Nat),let A11:=(↑g:Int);let A26:=(t (T A11));let A10:=(DM l b g);let A4:=(Ca A1 A26 b);let A14:=(↑(AN A4).n:Int);g<=A15.n/\Hd l b g=true->(decide (A11<A12)=true->(A25<=A11/\A11<A12)/\(A8/\AA A1=true/\DV (↑l.n:Int) A26/\A25<=b/\b<=(4096:Int))/\((!BJ A4)=true->Ko l b=(0:Nat)/\Kp l b=(0:Nat)/\false=Dp l b)/\((!BJ A4)=false->(∃(g_1:Nat×Nat),let A17:=(Cz l b g_1.1 g_1.2);A25=(↑g_1.2:Int)/\(BQ A10=BQ A17/\∀(i:Nat),i<BQ A10 -> [SV.sl A9 A19 (Bb [I (ES A10 i),I (ET A10 i),I (EU A10 i)] A9)]= [SV.sl A9 A19 (Bb [I (ES A17 i),I (ET A17 i),I (EU A17 i)] A9)])/\A11=(↑g_1.1:Int)/\(g_1.1<A15.n/\Hd l b g_1.1=true)/\g_1.2<=BQ (CQ l b g_1.1))/\∀(g_1:Nat×Nat),let A16:=(↑g_1.2:Int);let A3:=(Cz l b g_1.1 g_1.2);A11=(↑g_1.1:Int)/\(g_1.1<A15.n/\Hd l b g_1.1=true)/\g_1.2<=BQ (CQ l b g_1.1)->(decide (A16<A14)=true->(A25<=A16/\A16<A14)/\(BQ A3+nat_lit 1)*nat_lit 24<=(140737488355328:Nat)/\Ac .i64 (A16+A29)/\∃(g':Nat×Nat),let A18:=(Cz l b g'.1 g'.2);A16+A29=(↑g'.2:Int)/\A14=A14/\((AN A4).n=(AN A4).n/\∀(i:Nat),let A2:=(AN (Ca (L.Sq.mk l.n fun(i:Nat)=>l.g i) A26 b));let A20:=[I (A2.g i).a,I (A2.g i).b,I (A2.g i).c];i<A2.n->A20=A20)/\A11=A11/\A12=A12/\A6/\A13/\b=b/\(BQ A3+nat_lit 1=BQ A18/\∀(i:Nat),let A5:=((AN (Ca (L.Sq.mk l.n fun(i:Nat)=>l.g i) A26 b)).g (T A16));i<BQ A3+nat_lit 1->Ba (BQ A3) (fun(i:Nat)=>[SV.sl A9 A19 (Bb [I (ES A3 i),I (ET A3 i),I (EU A3 i)] A9)]) (fun(x:Nat)=>[SV.sl (nat_lit 1) (nat_lit 3) (Bb [I A5.a,I A5.b,I A5.c] (nat_lit 1))]) i = [SV.sl A9 A19 (Bb [I (ES A18 i),I (ET A18 i),I (EU A18 i)] A9)])/\(A11=(↑g'.1:Int)/\(g'.1<A15.n/\Hd l b g'.1=true)/\g'.2<=BQ (CQ l b g'.1))/\BQ (CQ l b g'.1)-g'.2<BQ (CQ l b g_1.1)-g_1.2)/\(decide (A16<A14)=false->Ac .i64 (A11+A29)/\∃(g':Nat),let A22:=(DM l b g');A11+A29=(↑g':Int)/\A12=A12/\A6/\A13/\b=b/\(BQ A3=BQ A22/\∀(i:Nat),i<BQ A3 -> [SV.sl A9 A19 (Bb [I (ES A3 i),I (ET A3 i),I (EU A3 i)] A9)]= [SV.sl A9 A19 (Bb [I (ES A22 i),I (ET A22 i),I (EU A22 i)] A9)])/\(g'<=A15.n/\Hd l b g'=true)/\A15.n-g'<A15.n-g)))/\(decide (A11<A12)=false->(A8/\AA A1=true)/\(C9 A1 (AW A1)=Ko l b/\∀(i:Nat),let A7:=(L.Sq.mk l.n fun(i:Nat)=>l.g i);let A30:=(AW A7);i<C9 A7 A30 -> [SV.sl A9 (2:Nat) (Bb [I (Ex A7 A30 i),I (Ey A7 A30 i)] A9)]= [SV.sl A9 (2:Nat) (Bb [I (Ex l (AW l) i),I (Ey l (AW l) i)] A9)])/\(BQ A10=Kp l b/\∀(i:Nat),i<BQ A10 -> [SV.sl A9 A19 (Bb [I (ES A10 i),I (ET A10 i),I (EU A10 i)] A9)]= [SV.sl A9 A19 (Bb [I (ES A24 i),I (ET A24 i),I (EU A24 i)] A9)])/\true=Dp l b)) (by kernel_rfl) (by
 conv=>zeta
 obtain⟨hv,b0,b1⟩:=(show AA l=true/\0<=b/\b<=4096 from hp);obtain⟨n3,n24,hsm,hbd⟩:=Dw hv;have ln:l.n<=1000000:=by omega
 refine⟨⟨fun _ _=>rfl,ln⟩,fun t ht=>?_⟩;obtain⟨pn,pg⟩:=zL hv (ht hv);have eN:D9 l=(AK l).n:=by unfold D9;rw[hv];exact pn
 have hr:=ZM hv;rw[eN];refine⟨⟨0,rfl,⟨rfl,fun i hi=>absurd hi (oE _)⟩,Ads _,rfl⟩,fun g hg0=>⟨fun hlt=>?_,fun hge=>?_⟩⟩
 ·obtain⟨hg,hcan⟩:=hg0;have hlt:g<(AK l).n:=by have:=of_decide_eq_true hlt;omega
  have e0:((g:Int)).toNat=g:=Ad3 g;rw[e0,pg g (by omega)];have lw:=Q3 hv (b:=b) hlt;have lb:=ZL hv (b:=b) g hg;have eW:(AN (Ca l ((AK l).g g) b)).n=(CQ l b g).length:=rfl;refine⟨⟨by omega,by omega⟩,⟨fun _ _=>rfl,hv,Qv hv hlt,b0,b1⟩,fun h=>?_,fun h=>⟨⟨(g,0),rfl,?_,rfl,⟨hlt,hcan⟩,Ads _⟩,fun g1 hg1=>?_⟩⟩
  ·have h:BJ (Ca l ((AK l).g g) b)=false:=CV h;have e:Dp l b=false:=Hw (i:=g) hlt h;unfold Ko Kp;rw[e];exact⟨rfl,rfl,rfl⟩
  ·show BQ (DM l b g)=BQ (Cz l b g 0)/\∀i,i<BQ (DM l b g)->_ = [SV.sl 1 3 (Bb [.int .i64 (ES (Cz l b g 0) i),.int .i64 (ET (Cz l b g 0) i),.int .i64 (EU (Cz l b g 0) i)] 1)];rw[zZ];exact⟨rfl,fun _ _=>rfl⟩
  ·obtain⟨k,j⟩:=g1;obtain⟨q1,q2,q3⟩:=hg1;have q1:(g:Int)=(k:Int):=q1;obtain rfl:g=k:=by omega
   have q3:j<=(CQ l b g).length:=q3;have e3:((j:Int)).toNat=j:=Ad3 j;refine⟨fun hl=>?_,fun hl=>?_⟩
   ·have hj : j<(CQ l b g).length :=by
     have hl:(j:Int)<((CQ l b g).length:Int):=of_decide_eq_true hl;omega
    have row:=zY (l:=l) (b:=b) (k:=g) hj;have lt:BQ (Cz l b g j)<=100000:=by
     unfold BQ Cz;rw[AdL,List.length_take];omega
    have o:(BQ (Cz l b g j)+1)*24<=140737488355328:=by omega
    have bd:0<=(j:Int)/\(j:Int)<((AN (Ca l ((AK l).g g) b)).n:Int):=by rw[eW];omega
    have hm:BQ (CQ l b g)-(j+1)<BQ (CQ l b g)-j:=by unfold BQ;omega
    dsimp only;rw[e3];refine⟨bd,o,jK,(g,j+1),?_⟩;exact(by(try dsimp only);(repeat' with_reducible apply And.intro)<;>first|with_reducible rfl|with_reducible assumption|with_reducible exact row.1|with_reducible exact row.2|with_reducible exact fun _=>rfl|with_reducible exact fun _ _=>rfl|with_reducible exact trivial|exact rfl|(intro _;exact rfl)|(intro _ _;exact rfl)|exact row.1|exact row.2|exact hlt|exact hcan|exact hj|exact hm|exact(by omega)|exact trivial|(intro _ h_;exact absurd h_ (oE _)))
   ·have hj : j = (CQ l b g).length :=by
     have hl:¬ (j:Int)<((CQ l b g).length:Int):=of_decide_eq_false hl;omega
    have row:=Aaa l b g;unfold BQ at row;subst hj;have nx:Hd l b (g+1)=true:=by
     unfold Hd at *;show(CG g _&&_)=true;rw[hcan];exact Cl h
    refine⟨jK,g+1,?_⟩;dsimp only;rw[row];exact(by(try dsimp only);(repeat' with_reducible apply And.intro)<;>first|with_reducible rfl|with_reducible assumption|with_reducible exact fun _=>rfl|with_reducible exact fun _ _=>rfl|with_reducible exact trivial|exact rfl|(intro _;exact rfl)|(intro _ _;exact rfl)|exact hlt|exact nx|exact(by omega)|exact trivial|(intro _ h_;exact absurd h_ (oE _)))
 ·have hge:¬ (g:Int)<((AK l).n:Int):=of_decide_eq_false hge;obtain rfl:g=(AK l).n:=by omega
  have hc:Dp l b=true:=hg0.2;have e1:Ko l b=C9 l (AW l):=by unfold Ko;rw[hc];rfl
  have e2:Kp l b=BQ (DM l b (AK l).n):=by unfold Kp;rw[hc];rfl
  rw[e1,e2,hc];exact⟨⟨fun _ _=>rfl,hv⟩,⟨rfl,fun _ _=>rfl⟩,⟨rfl,fun _ _=>rfl⟩,rfl⟩)
theorem Aal:AB Tryz.prog 39 ZY:=AP Tryz.func39 (c:=Af Tryz.f39) (by kernel_rfl) mixed (fun args p r hs hp=>by
 unfold ZX at hs;split at hs
 ·cases hs;exact⟨_,_,Aak _ _ hp.2,(.p (.sl hp.1) (.same _ .nil)),⟨show Aa Tryz.prog _ from(Aa.cons Wp Wq (Aa.cons Z2 Z3 (Aa.cons Aah Aai Aa.nil))),rfl,⟨show Ae Tryz.prog _ from Ae.nil,(AC.none (fun _=>rfl))⟩⟩⟩
 ·cases hs)
theorem Aam:Ao Tryz.prog 39:=fun args w=>by kernel_rfl
def ZZ (l:(L.Sq L.Pt)) (b:Int):Prop:=l.n<=1000000
def aA (l:(L.Sq L.Pt)) (b:Int):SV:=.tup [.bool (bif DN l b then false else Dp l b),.int .i64 (bif DN l b then 1 else 0)]
def aB:List EV->Option (Prop×SV)
 |[.p (.sl 2 l_n l_g),.p (.int .i64 b)]=>some ((∀i,i<l_n->l_g i = [.int .i64 ((Ai (l_g i)).x),.int .i64 ((Ai (l_g i)).y)])/\ZZ (⟨l_n,fun i=>Ai (l_g i)⟩:(L.Sq L.Pt)) b,aA (⟨l_n,fun i=>Ai (l_g i)⟩:(L.Sq L.Pt)) b)
 |_=>none
abbrev aC:SE.Spec:=(AM aB)
def Aan:Aj:={ cC with specs:=AF [(37,JW),(38,Jd),(39,ZY)] }
theorem Aao (l:(L.Sq L.Pt)) (b:Int) (hp:ZZ l b):vc Tryz.prog (Aan) (Af Tryz.f9) (Ar Tryz.f9 [.p (.sl 2 l.n (fun i=>[.int .i64 ((l.g i).x),.int .i64 ((l.g i).y)])),.p (.int .i64 b)]) (AL Tryz.prog Tryz.f9 (aA l b)):=
 @Eq.mpr _ (let I:=SV.int .i64;let A4:=(0:Int);let A2:=(∀(i:Nat),let A5:=[I (l.g i).x,I (l.g i).y];i<l.n->A5=A5);let A1:=(L.Sq.mk l.n fun(i:Nat)=>l.g i);let A3:=(bif !AA A1 then true else !AG b A4 (4096:Int));(A2/\l.n<=(1000000:Nat))/\((!!AA A1)=true->True)/\(A3=true->(false=bif DN l b then false else Dp l b)/\(1:Int)=bif DN l b then(1:Int)else A4)/\(A3=false->(A2/\AA A1=true/\A4<=b/\b<=(4096:Int))/\(Dp A1 b=bif DN l b then false else Dp l b)/\A4=bif DN l b then(1:Int)else A4)) (by kernel_rfl) (by
 conv=>zeta
 have hn:l.n<=1000000:=hp;refine⟨⟨fun _ _=>rfl,hn⟩,fun _=>trivial,fun h=>?_,fun h=>?_⟩
 ·have h:DN l b=true:=h;rw[h];exact⟨rfl,rfl⟩
 ·have h:DN l b=false:=h;rw[h];unfold DN at h;rw[Dl,AdD]at h;have hv:=Cl h.1;have hw:=Cl h.2;unfold AG at hw;rw[pR,decide_eq_true_eq,decide_eq_true_eq]at hw;exact⟨⟨fun _ _=>rfl,hv,hw.1,hw.2⟩,rfl,rfl⟩)
theorem Aap:AB Tryz.prog 9 aC:=AP Tryz.func9 (c:=Af Tryz.f9) (by kernel_rfl) mixed (fun args p r hs hp=>by
 unfold aB at hs;split at hs
 ·cases hs;exact⟨_,_,Aao _ _ hp.2,(.p (.sl hp.1) (.same _ .nil)),⟨show Aa Tryz.prog _ from(Aa.cons L2 L3 (Aa.cons Kh Ki (Aa.cons Aal Aam Aa.nil))),rfl,⟨show Ae Tryz.prog _ from Ae.nil,(AC.none (fun _=>rfl))⟩⟩⟩
 ·cases hs)
theorem Aaq:Ao Tryz.prog 9:=fun args w=>by kernel_rfl
def Ad (f:Int->L.Sq Ag) (k:Int):SV:=.sl 2 (f k).n (fun i=>[.int .i64 ((f k).g i).w,.int .i64 ((f k).g i).h])
def aD (g:Int):Int:=Em g (0-g)
def Fj (g:Int):Int:=Dj g (aD g)
def DB (g:Int):Nat->Int
 |0=>0
 |k+1=>Em (DB g k-Fj g) (Fj g)
def AJ (g:Int):Nat:=((Adu 16).find? (fun k=>decide (DB g k=Fj g))).getD 0
def Aq (g:Int) (k:Nat):Int:=FM (DB g k) (aD g)
def aF (n:Nat):Bool:=decide (DB n (AJ n)=Fj n)&&(Adu (AJ n)).all (fun k=>!decide (DB n k=Fj n)&&decide (-16<=DB n k-Fj n)&&decide (DB n k-Fj n<=16))
theorem Aar:((Adu 16).all aF)=true:=by kernel_rfl
theorem Aas {g:Int} (h:0<=g) (h':g<=15):DB g (AJ g)=Fj g/\∀k,k<AJ g->DB g k≠Fj g /\ -16<=DB g k-Fj g/\DB g k-Fj g<=16:=by
 obtain⟨n,rfl⟩:=Aeb h;have hn:n<16:=by omega
 have h1:=Ad0.1 Aar n (Adz.2 hn);unfold aF at h1;rw[pR,decide_eq_true_eq]at h1;refine⟨h1.1,fun k hk=>?_⟩;have h2:=Ad0.1 h1.2 k (Adz.2 hk);rw[pR,pR,decide_eq_true_eq,decide_eq_true_eq,AdO,decide_eq_false_iff_not]at h2;exact⟨h2.1.1,h2.1.2,h2.2⟩
abbrev H7:Mk:={ T:=(L.Sq Ah)×(Int)×(Int->L.Sq Ag),U:=Nat,args:=fun t=>(fun w gr f=>[.p ((.sl 4 w.n (fun i=>[.int .i64 ((w.g i).id),.int .i64 ((w.g i).colour),.int .i64 ((w.g i).grain),.sl 2 (w.g i).ol.n (fun i1=>[.int .i64 (((w.g i).ol.g i1).x),.int .i64 (((w.g i).ol.g i1).y)])]))),.p (.int .i64 gr)]) t.1 t.2.1 t.2.2,lkeys:=[],keys:=[9,7],lent:=fun t=>(fun w gr f=>[]) t.1 t.2.1 t.2.2,pre:=fun t=>(fun w gr f=>True) t.1 t.2.1 t.2.2,post:=fun t u=>(fun w gr f=>fun uu=>True) t.1 t.2.1 t.2.2 u,lent':=fun t u=>(fun w gr f=>fun uu=>[]) t.1 t.2.1 t.2.2 u,own:=fun t u=>(fun w gr f=>fun uu=>[(9,.blk 172 [.p ((.sl 4 w.n (fun i=>[.int .i64 ((w.g i).id),.int .i64 ((w.g i).colour),.int .i64 ((w.g i).grain),.sl 2 (w.g i).ol.n (fun i1=>[.int .i64 (((w.g i).ol.g i1).x),.int .i64 (((w.g i).ol.g i1).y)])]))),.p (.int .i64 gr),.mapv 7]),(7,.mq 3 64 (fun _=>false) (Ad f))]) t.1 t.2.1 t.2.2 u,res:=fun t u=>(fun w gr f=>fun uu=>.loc 9 0) t.1 t.2.1 t.2.2 u }
theorem Aat (w:L.Sq Ah) (gr:Int) (f:Int->L.Sq Ag) (hp:H7.pre (w,gr,f)):vc Tryz.prog ({ cC with muts:=[9],mqs:=Tt [(7,Ad f)] }) (Af Tryz.f65) (D3 Tryz.f65 (H7.args (w,gr,f)) (H7.lent (w,gr,f))) (FD Tryz.prog Tryz.f65 H7 (w,gr,f)):=
 @Eq.mpr _ (let I:=SV.int .i64;∃(u:Nat),nat_lit 0=(0:Nat)/\(w.n=w.n/\∀(i:Nat),let A1:=[I (w.g i).id,I (w.g i).colour,I (w.g i).grain,SV.sl (2:Nat) (w.g i).ol.n fun(i1:Nat)=>[I ((w.g i).ol.g i1).x,I ((w.g i).ol.g i1).y]];i<w.n->A1=A1)/\gr=gr/\(∀(x:Int),false=false)/\(∀(x:Int),false=true->Ad f x=Ad f x)/\True) (by kernel_rfl) (by
 conv=>zeta
 exact⟨(0:Nat),rfl,⟨rfl,fun _ _=>rfl⟩,rfl,fun _=>rfl,fun _ _=>rfl,trivial⟩)
theorem N9:Ao Tryz.prog 65:=fun args w=>by kernel_rfl
theorem NA:Du Tryz.prog 65 H7:=Gf (n:=2) Tryz.func65 (c:=Af Tryz.f65) (by kernel_rfl) mixed ⟨fun t=>rfl,fun t=>rfl,fun t u=>rfl,fun t u=>rfl,fun t u=>rfl,fun t u=>⟨rfl,rfl⟩,by kernel_rfl,by kernel_rfl⟩ (fun⟨w,gr,f⟩ hp=>⟨_,Aat w gr f hp,⟨show Aa Tryz.prog _ from Aa.nil,rfl,⟨show Ae Tryz.prog _ from Ae.nil,(AC.none (fun _=>rfl))⟩⟩⟩)
def aG (g:Int):Prop:=0<=g/\g<=15
def Q4 (g:Int):Nat:=AJ g
def aH (g:Int):Nat->List SV:=fun k=>[.int .i64 (Aq g k)]
def aI:List SV->Option (Prop×Nat×(Nat->List SV))
 |[.ref [.int .i64 g] 0]=>some (aG g,Q4 g,aH g)
 |_=>none
abbrev Q5:F0:=JM aI
def Aau:Aj:={ muts:=[],frz:=BH [],specs:=AF [],loops:=fun _=>none,iters:=B6 [],rfs:=AU [] }
theorem Aav (yl:Nat) (g:Int) (hp:aG g):vc Tryz.prog { Aau with loops:=AY [(3,{ T:=Nat,keep:=[0,1,3,4],keepO:=[],chg:=fun i=>[(5,.p (.int .i64 (DB g i)))],own:=fun _=>[],inv:=fun i=>i<=AJ g,mu:=fun i=>AJ g-i,yk:=some (fun i=>i) })],yld:=some ⟨yl,Q4 g,aH g⟩ } (Af Tryz.f156) (Ar Tryz.f156 (.yield yl::([.ref [.int .i64 g] 0]:List SV).map .p)) (JL Tryz.prog Tryz.f156 (Q4 g)):=
 @Eq.mpr _ (let A6:=[SV.int .i64 g];let A5:=(1:Nat);let A3:=((0:Int)-g);let A1:=(Em g A3);let A7:=(Dj g A1);Ac .i64 A3/\(∃(g_1:Nat),nat_lit 0=g_1/\false=false/\(0:Int)=DB g g_1/\g_1<=AJ g)/\∀(g_1:Nat),let A4:=(!decide (DB g g_1=Dj g A1));let A2:=(DB g g_1-Dj g A1);g_1<=AJ g->(A4=true->yl=yl/\g_1<AJ g /\ [SV.int .i64 (FM (DB g g_1) A1)]= [SV.int .i64 (Aq g g_1)]/\((false=true->g_1+A5=AJ g\/g_1+A5=AJ g+A5)/\(false=false->Ac .i64 A2/\∃(g':Nat),g_1+A5=g'/\false=false/\Em A2 A7=DB g g'/\Dj g A1=Dj g A1/\Em g A3=Em g A3/\yl=yl/\SV.ref A6 (nat_lit 0)=SV.ref A6 (nat_lit 0)/\g'<=AJ g/\AJ g-g'<AJ g-g_1))/\(true=true->AJ g+A5=AJ g\/AJ g+A5=AJ g+A5)/\(true=false->Ac .i64 A2/\∃(g':Nat),AJ g+A5=g'/\false=false/\Em A2 A7=DB g g'/\Dj g A1=Dj g A1/\Em g A3=Em g A3/\yl=yl/\False/\g'<=AJ g/\AJ g-g'<AJ g-g_1))/\(A4=false->g_1=AJ g\/g_1=AJ g+A5)) (by kernel_rfl) (by
 conv=>zeta
 obtain⟨h1,h2⟩:=hp;obtain⟨t1,t2⟩:=Aas h1 h2;refine⟨jK,⟨(0:Nat),rfl,rfl,rfl,Ads _⟩,fun k hk=>⟨fun hne=>?_,fun he=>?_⟩⟩
 ·have hne:¬ DB g k=Fj g:=of_decide_eq_false (CV hne);have hlt:k<AJ g:=by
   rcases AdX k (AJ g)with h|h
   ·exact h
   ·obtain rfl:k=AJ g:=by omega
    exact absurd t1 hne
  obtain⟨_,b1,b2⟩:=t2 k hlt;refine⟨rfl,hlt,rfl,⟨(fun h=>by cases h),fun _=>⟨Ac.of (show _<=DB g k-Fj g by omega) (show DB g k-Fj g<=_ by omega),k+1,rfl,rfl,rfl,rfl,rfl,rfl,rfl,by omega,by omega⟩⟩,fun _=>.inr rfl,(fun h=>by cases h)⟩
 ·have he:DB g k=Fj g:=of_decide_eq_true (Cl he);rcases AdX k (AJ g)with h|h
  ·exact absurd he (t2 k h).1
  ·exact .inl (by omega))
theorem aJ:Hp Tryz.prog 156 Q5:=MV Tryz.func156 (c:=Af Tryz.f156) (by kernel_rfl) mixed (fun caps l p n g hs hp=>by
 unfold aI at hs;split at hs
 ·cases hs;exact⟨_,_,Aav l _ hp,(.cons (Bo.refl _) .nil),rfl,show Aa Tryz.prog _ from Aa.nil,⟨show Ae Tryz.prog _ from Ae.nil,AC.none (fun _=>rfl)⟩⟩
 ·cases hs)
theorem aK:Ao Tryz.prog 156:=fun args w=>by kernel_rfl
instance:Inhabited Ag:=⟨⟨0,0⟩⟩
def aL (p:Ag):List Int:=[p.w,p.h]
def Dz (a b:Ag):Int:=Hx (Bs a.w b.w) (Bs a.h b.h)
theorem aM {a b:Ag}:Dz a b<0↔a.w<b.w\/(a.w=b.w/\a.h<b.h):=by
 unfold Dz Hx Bs;rcases Int.lt_trichotomy a.w b.w with h1|h1|h1<;>rcases Int.lt_trichotomy a.h b.h with h2|h2|h2<;>grind
theorem Aaw:Go.Sort.SWO (Go.Proofs.ltOf Dz):=by
 have k:∀x y,Go.Proofs.ltOf Dz x y=true↔x.w<y.w\/(x.w=y.w/\x.h<y.h):=fun x y=>by
  unfold Go.Proofs.ltOf;rw[decide_eq_true_iff,aM]
 have kf:∀x y,Go.Proofs.ltOf Dz x y=false↔¬ (x.w<y.w\/(x.w=y.w/\x.h<y.h)):=fun x y=>by
  rw[<- k,Bool.not_eq_true]
 refine⟨fun x=>?_,fun x y z=>?_,fun x y z=>?_⟩
 ·rw[kf];omega
 ·simp only[k];omega
 ·simp only[kf];omega
def Aax:Go.Shelf.Ren:=⟨fun|6=>157|15=>132|14=>185|28=>176|29=>177|20=>196|21=>197|22=>198|23=>199|24=>200|25=>201|26=>202|27=>203|46=>213|47=>191|48=>192|49=>214|50=>215|57=>219|n=>n,fun|22=>64|24=>73|25=>218|3=>3|39=>193|0=>0|53=>235|55=>237|4=>4|46=>228|45=>227|50=>232|5=>5|9=>9|66=>246|70=>250|76=>262|77=>263|n=>n,fun|n=>n⟩
theorem Aay:Go.Proofs.SlLaysF0.n6 Tryz.prog Aax:={
 mixed:=by kernel_rfl
 f6:=⟨Tryz.f157.name,by decide,Tryz.func157.trans (congrArg some (by kernel_rfl))⟩
 f14:=⟨Tryz.f185.name,by decide,Tryz.func185.trans (congrArg some (by kernel_rfl))⟩
 f15:=Tryz.func132.trans (congrArg some (by kernel_rfl))
 f20:=⟨Tryz.f196.name,by decide,Tryz.func196.trans (congrArg some (by kernel_rfl))⟩
 f21:=⟨Tryz.f197.name,by decide,Tryz.func197.trans (congrArg some (by kernel_rfl))⟩
 f22:=⟨Tryz.f198.name,by decide,Tryz.func198.trans (congrArg some (by kernel_rfl))⟩
 f23:=⟨Tryz.f199.name,by decide,Tryz.func199.trans (congrArg some (by kernel_rfl))⟩
 f24:=⟨Tryz.f200.name,by decide,Tryz.func200.trans (congrArg some (by kernel_rfl))⟩
 f25:=⟨Tryz.f201.name,by decide,Tryz.func201.trans (congrArg some (by kernel_rfl))⟩
 f26:=⟨Tryz.f202.name,by decide,Tryz.func202.trans (congrArg some (by kernel_rfl))⟩
 f27:=⟨Tryz.f203.name,by decide,Tryz.func203.trans (congrArg some (by kernel_rfl))⟩
 f28:=Tryz.func176.trans (congrArg some (by kernel_rfl))
 f29:=Tryz.func177.trans (congrArg some (by kernel_rfl))
 f46:=⟨Tryz.f213.name,by decide,Tryz.func213.trans (congrArg some (by kernel_rfl))⟩
 f47:=Tryz.func191.trans (congrArg some (by kernel_rfl))
 f48:=Tryz.func192.trans (congrArg some (by kernel_rfl))
 f49:=⟨Tryz.f214.name,by decide,Tryz.func214.trans (congrArg some (by kernel_rfl))⟩
 f50:=⟨Tryz.f215.name,by decide,Tryz.func215.trans (congrArg some (by kernel_rfl))⟩
 f57:=⟨Tryz.f219.name,by decide,Tryz.func219.trans (congrArg some (by kernel_rfl))⟩
 t0:=Tryz.underlying0
 a0:=Tryz.isAgg0
 z0:=Tryz.sizeOf0
 v0:=Tryz.zeroValue0
 t3:=Tryz.underlying3
 a3:=Tryz.isAgg3
 z3:=Tryz.sizeOf3
 v3:=Tryz.zeroValue3
 t4:=Tryz.underlying4
 a4:=Tryz.isAgg4
 z4:=Tryz.sizeOf4
 v4:=Tryz.zeroValue4
 t5:=Tryz.underlying5
 a5:=Tryz.isAgg5
 z5:=Tryz.sizeOf5
 v5:=Tryz.zeroValue5
 t9:=Tryz.underlying9
 a9:=Tryz.isAgg9
 z9:=Tryz.sizeOf9
 v9:=Tryz.zeroValue9
 t22:=Tryz.underlying64
 a22:=Tryz.isAgg64
 z22:=Tryz.sizeOf64
 v22:=Tryz.zeroValue64
 t25:=Tryz.underlying218
 a25:=Tryz.isAgg218
 z25:=Tryz.sizeOf218
 v25:=Tryz.zeroValue218
 t39:=Tryz.underlying193
 a39:=Tryz.isAgg193
 z39:=Tryz.sizeOf193
 v39:=Tryz.zeroValue193
 t45:=Tryz.underlying227
 a45:=Tryz.isAgg227
 z45:=Tryz.sizeOf227
 v45:=Tryz.zeroValue227
 t46:=Tryz.underlying228
 a46:=Tryz.isAgg228
 z46:=Tryz.sizeOf228
 v46:=Tryz.zeroValue228
 t50:=Tryz.underlying232
 a50:=Tryz.isAgg232
 z50:=Tryz.sizeOf232
 v50:=Tryz.zeroValue232
 t53:=Tryz.underlying235
 a53:=Tryz.isAgg235
 z53:=Tryz.sizeOf235
 v53:=Tryz.zeroValue235
 t55:=Tryz.underlying237
 a55:=Tryz.isAgg237
 z55:=Tryz.sizeOf237
 v55:=Tryz.zeroValue237
 t66:=Tryz.underlying246
 a66:=Tryz.isAgg246
 z66:=Tryz.sizeOf246
 v66:=Tryz.zeroValue246
 t70:=Tryz.underlying250
 a70:=Tryz.isAgg250
 z70:=Tryz.sizeOf250
 v70:=Tryz.zeroValue250
 t76:=Tryz.underlying262
 a76:=Tryz.isAgg262
 z76:=Tryz.sizeOf262
 v76:=Tryz.zeroValue262
 t77:=Tryz.underlying263
 a77:=Tryz.isAgg263
 z77:=Tryz.sizeOf263
 v77:=Tryz.zeroValue263 }
def aN (g:Int):Prop:=True
def aO (g:Int):SV:=.clo 156 [.ref [.int .i64 g] 0]
def aP:List EV->Option (Prop×SV)
 |[.p (.int .i64 g)]=>some (aN g,aO g)
 |_=>none
abbrev Q6:SE.Spec:=(AM aP)
def Aaz:Aj:={ muts:=[],frz:=BH [],specs:=AF [],loops:=AY [],iters:=B6 [],rfs:=AU [],nils:=BD [] }
theorem Aa0 (g:Int) (hp:aN g):vc Tryz.prog (Aaz) (Af Tryz.f116) (Ar Tryz.f116 [.p (.int .i64 g)]) (AL Tryz.prog Tryz.f116 (aO g)):=
 @Eq.mpr _ (SV.clo (nat_lit 156) [SV.ref [SV.int .i64 g] (nat_lit 0)]=SV.clo (nat_lit 156) [SV.ref [SV.int .i64 g] (nat_lit 0)]) (by kernel_rfl) (by
 rfl)
theorem aQ:AB Tryz.prog 116 Q6:=AP Tryz.func116 (c:=Af Tryz.f116) (by kernel_rfl) mixed (fun args p r hs hp=>by
 unfold aP at hs;split at hs
 ·cases hs;exact⟨_,_,Aa0 _ hp,(.same _ .nil),⟨show Aa Tryz.prog _ from Aa.nil,rfl,⟨show Ae Tryz.prog _ from Ae.nil,(AC.none (fun _=>rfl))⟩⟩⟩
 ·cases hs)
theorem aR:Ao Tryz.prog 116:=fun args w=>by kernel_rfl
def aS (a:Ag) (b:Ag):Prop:=True
def aT (a:Ag) (b:Ag):SV:=.int .i64 (Dz a b)
def Q7:List EV->Option (Prop×SV)
 |[.p (.agg [.int .i64 a_w,.int .i64 a_h]),.p (.agg [.int .i64 b_w,.int .i64 b_h])]=>some (aS (⟨a_w,a_h⟩:Ag) (⟨b_w,b_h⟩:Ag),aT (⟨a_w,a_h⟩:Ag) (⟨b_w,b_h⟩:Ag))
 |_=>none
abbrev Aa1:SE.Spec:=(AM Q7)
def Aa2:Aj:={ cC with specs:=AF [(85,JP),(123,Px)] }
theorem Aa3 (a:Ag) (b:Ag) (hp:aS a b):vc Tryz.prog (Aa2) (Af Tryz.f158) (Ar Tryz.f158 [.p (.agg [.int .i64 a.w,.int .i64 a.h]),.p (.agg [.int .i64 b.w,.int .i64 b.h])]) (AL Tryz.prog Tryz.f158 (aT a b)):=
 @Eq.mpr _ (let I:=SV.int .i64;let A1:=[I (Bs a.w b.w),I (Bs a.h b.h)];True/\True/\((∀(i:Nat),i<nat_lit 2->Bb A1 (nat_lit 1) i = [I (DG (Bb A1 (nat_lit 1) i))])/\nat_lit 2<=(1000000:Nat))/\G3 (fun(i:Nat)=>DG (Bb A1 (nat_lit 1) i)) (2:Nat)=Dz a b) (by kernel_rfl) (by
 conv=>zeta
 exact⟨trivial,trivial,⟨fun i hi=>by match i,hi with|0,_=>rfl|1,_=>rfl,by decide⟩,rfl⟩)
theorem Aa4:AB Tryz.prog 158 Aa1:=AP Tryz.func158 (c:=Af Tryz.f158) (by kernel_rfl) mixed (fun args p r hs hp=>by
 unfold Q7 at hs;split at hs
 ·cases hs;exact⟨_,_,Aa3 _ _ hp,(.same _ (.same _ .nil)),⟨show Aa Tryz.prog _ from(Aa.cons Lz L0 (Aa.cons TT TU Aa.nil)),rfl,⟨show Ae Tryz.prog _ from Ae.nil,(AC.none (fun _=>rfl))⟩⟩⟩
 ·cases hs)
theorem Aa5:Ao Tryz.prog 158:=fun args w=>by kernel_rfl
abbrev aU:Tr:=Na 73 2 158 1005 aL Dz
theorem Aa6:F7 Tryz.prog 157 aU:=Po (enc:=aL) Aay (by decide) (fun w=>Tryz.isAgg73 w) (fun w=>Tryz.sizeOf73 w) (fun _=>rfl) Aaw Aa4 Aa5 (fun x y=>show De Q7 [.p (.agg [.int .i64 x.w,.int .i64 x.h]),.p (.agg [.int .i64 y.w,.int .i64 y.h])]from trivial) (fun x y=>rfl) _ _
theorem Aa7:Ao Tryz.prog 157:=fun args w=>by kernel_rfl
def CR (u:Nat->Ag):Nat->List Ag
 |0=>[]
 |k+1=>match (CR u k).getLast? with
   |none=>CR u k ++ [u k]
   |some x=>if (u k).h<x.h then CR u k ++ [u k]else CR u k
def Be (u:Nat->Ag) (k:Nat):Nat:=(CR u k).length
def BM (u:Nat->Ag) (k i:Nat):Ag:=(CR u k).getD i ⟨0,0⟩
theorem aV (u:Nat->Ag):∀k,Be u k<=k
 |0=>Adp _
 |k+1=>by
   have:=aV u k;unfold Be at this ⊢;rw[CR];split
   ·simp;omega
   ·split
    ·simp;omega
    ·omega
theorem aW {u:Nat->Ag} {k:Nat} {x:Ag} (h:(CR u k).getLast? = some x):Be u k≠0/\BM u k (((Be u k:Nat):Int)-1).toNat=x:=by
 rw[List.getLast?_eq_getElem?]at h;obtain⟨h1,h2⟩:=List.getElem?_eq_some_iff.1 h;have e:(((Be u k:Nat):Int)-1).toNat=(CR u k).length-1:=by unfold Be;omega
 refine⟨by unfold Be;omega,?_⟩;rw[e];unfold BM;rw[AS,h];rfl
theorem Aa8 {u:Nat->Ag} {k:Nat} (h:(bif decide (((Be u k:Nat):Int)=0)then true else decide ((u k).h<(BM u k (((Be u k:Nat):Int)-1).toNat).h))=true):CR u (k+1)=CR u k ++ [u k]:=by
 rw[CR];cases hl:(CR u k).getLast? with
 |none=>rfl
 |some x =>
   obtain⟨h1,h2⟩:=aW hl;rw[h2,decide_eq_false (show ¬ ((Be u k:Nat):Int)=0 by omega),cond_false,decide_eq_true_eq]at h;exact if_pos h
theorem Aa9 {u:Nat->Ag} {k:Nat} (h:(bif decide (((Be u k:Nat):Int)=0)then true else decide ((u k).h<(BM u k (((Be u k:Nat):Int)-1).toNat).h))=false):CR u (k+1)=CR u k:=by
 rw[CR];cases hl:(CR u k).getLast? with
 |none =>
   have e:CR u k = []:=List.getLast?_eq_none_iff.1 hl;have e2:Be u k=0:=by unfold Be;rw[e];rfl
   rw[e2]at h;cases h
 |some x =>
   obtain⟨h1,h2⟩:=aW hl;rw[h2,decide_eq_false (show ¬ ((Be u k:Nat):Int)=0 by omega),cond_false,decide_eq_false_iff_not]at h;exact if_neg h
theorem AaA {u:Nat->Ag} {k:Nat} (h:CR u (k+1)=CR u k ++ [u k]):Be u (k+1)=Be u k+1/\∀i,i<Be u k+1->BM u (k+1) i=if i<Be u k then BM u k i else u k:=by
 unfold Be BM;rw[h];refine⟨by simp,fun i hi=>?_⟩;simp only[AS]
 by_cases e:i<(CR u k).length
 ·rw[if_pos e,Ad7 e]
 ·rw[if_neg e,Ad8 (by omega),show i-(CR u k).length=0 by omega];rfl
abbrev Kq:Mk:={ T:=(Nat)×(Nat->Ag),U:=Nat->Ag,args:=fun t=>(fun n f=>[.row 1010]) t.1 t.2,lkeys:=[1010],keys:=[32],lent:=fun t=>(fun n f=>[(1010,.row 73 2 n (fun j=>[.int .i64 (f j).w,.int .i64 (f j).h]))]) t.1 t.2,pre:=fun t=>(fun n f=>n<=1000000) t.1 t.2,post:=fun t u=>(fun n f=>fun u=>CU Dz n f u) t.1 t.2 u,lent':=fun t u=>(fun n f=>fun u=>[(1010,.row 73 2 n (fun j=>[.int .i64 (u j).w,.int .i64 (u j).h]))]) t.1 t.2 u,own:=fun t u=>(fun n f=>fun u=>[(32,.row 73 2 (Be u n) (fun j=>[.int .i64 (BM u n j).w,.int .i64 (BM u n j).h]))]) t.1 t.2 u,res:=fun t u=>(fun n f=>fun u=>.row 32) t.1 t.2 u }
theorem AaB (n:Nat) (f:Nat->Ag) (hp:Kq.pre (n,f)):vc Tryz.prog ({ muts:=[5,32],frz:=BH [],specs:=AF [],loops:=AY [(4,{ T:=(Nat->Ag)×Nat,keep:=[0,8,9],keepO:=[],chg:=fun t=>[(10,.p (.int .i64 (t.2:Int))),(3,.row 32)],own:=fun t=>[(1010,.row 73 2 n (fun j=>[.int .i64 (t.1 j).w,.int .i64 (t.1 j).h])),(32,.row 73 2 (Be t.1 t.2) (fun j=>[.int .i64 (BM t.1 t.2 j).w,.int .i64 (BM t.1 t.2 j).h]))],inv:=fun t=>t.2<=n/\CU Dz n f t.1,mu:=fun t=>n-t.2 })],iters:=B6 [],rfs:=AU [],nils:=BD [],trs:=GV [(157,aU)],ren:=fun k=>k+5,nilsL:=BD [(4,[(3,32,73,2)])] }) (Af Tryz.f117) (D3 Tryz.f117 (Kq.args (n,f)) (Kq.lent (n,f))) (FD Tryz.prog Tryz.f117 Kq (n,f)):=
 @Eq.mpr _ (let I:=SV.int .i64;let T:=Ad6;let A7:=(0:Int);let A5:=(1:Int);∃(t:Nat×(Nat->Ag)),let A6:=(↑t.1:Int);SV.clo (nat_lit 158) []=SV.clo (158:Nat) []/\(n=t.1/\∀(i:Nat),i<n -> [I (f i).w,I (f i).h]= [I (t.2 i).w,I (t.2 i).h])/\t.1<=(1000000:Nat)/\∀(u:Nat->Ag),CU Dz t.1 t.2 u->(∃(g:(Nat->Ag)×Nat),A7=(↑g.2:Int)/\(t.1=n/\∀(i:Nat),i<t.1 -> [I (u i).w,I (u i).h]= [I (g.1 i).w,I (g.1 i).h])/\((0:Nat)=Be g.1 g.2/\∀(i:Nat),i<(0:Nat) -> []= [I (BM g.1 g.2 i).w,I (BM g.1 g.2 i).h])/\g.2<=n/\CU Dz n f g.1)/\∀(g:(Nat->Ag)×Nat),let A3:=(↑g.2:Int);let A8:=(g.1 (T A3));let A1:=(↑(Be g.1 g.2):Int);let A4:=(!decide (A1=A7));let A2:=(bif decide (A1=A7)then true else decide (A8.h<(BM g.1 g.2 (T (A1-A5))).h));g.2<=n/\CU Dz n f g.1->(decide (A3<A6)=true->(A7<=A3/\A3<(↑n:Int))/\T A3<n/\(A4=true->Ac .i64 (A1-A5))/\(A4=true->A7<=A1-A5/\A1-A5<A1)/\(A4=true->T (A1-A5)<Be g.1 g.2)/\(A2=true->(Be g.1 g.2+nat_lit 1)*nat_lit 16<=(140737488355328:Nat)/\Ac .i64 (A3+A5)/\∃(g':(Nat->Ag)×Nat),A3+A5=(↑g'.2:Int)/\A6=A6/\(n=n/\∀(i:Nat),i<n -> [I (g.1 i).w,I (g.1 i).h]= [I (g'.1 i).w,I (g'.1 i).h])/\(Be g.1 g.2+nat_lit 1=Be g'.1 g'.2/\∀(i:Nat),i<Be g.1 g.2+nat_lit 1->Ba (Be g.1 g.2) (fun(j:Nat)=>[I (BM g.1 g.2 j).w,I (BM g.1 g.2 j).h]) (fun(x:Nat)=>[I A8.w,I A8.h]) i = [I (BM g'.1 g'.2 i).w,I (BM g'.1 g'.2 i).h])/\(g'.2<=n/\CU Dz n f g'.1)/\n-g'.2<n-g.2)/\(A2=false->Ac .i64 (A3+A5)/\∃(g':(Nat->Ag)×Nat),A3+A5=(↑g'.2:Int)/\A6=A6/\(n=n/\∀(i:Nat),i<n -> [I (g.1 i).w,I (g.1 i).h]= [I (g'.1 i).w,I (g'.1 i).h])/\(Be g.1 g.2=Be g'.1 g'.2/\∀(i:Nat),i<Be g.1 g.2 -> [I (BM g.1 g.2 i).w,I (BM g.1 g.2 i).h]= [I (BM g'.1 g'.2 i).w,I (BM g'.1 g'.2 i).h])/\(g'.2<=n/\CU Dz n f g'.1)/\n-g'.2<n-g.2))/\(decide (A3<A6)=false->∃(u:Nat->Ag),(n=n/\∀(i:Nat),i<n -> [I (g.1 i).w,I (g.1 i).h]= [I (u i).w,I (u i).h])/\(Be g.1 g.2=Be u n/\∀(i:Nat),i<Be g.1 g.2 -> [I (BM g.1 g.2 i).w,I (BM g.1 g.2 i).h]= [I (BM u n i).w,I (BM u n i).h])/\CU Dz n f u)) (by kernel_rfl) (by
 conv=>zeta
 have hp:n<=1000000:=hp;refine⟨(n,f),rfl,⟨rfl,fun _ _=>rfl⟩,hp,fun u hu=>⟨⟨(u,0),rfl,⟨rfl,fun _ _=>rfl⟩,⟨rfl,fun i hi=>absurd hi (oE _)⟩,Ads _,hu⟩,fun⟨v,k⟩ ⟨hk,hv⟩=>⟨fun hlt=>?_,fun hge=>?_⟩⟩⟩
 ·have hlt:(k:Int)<(n:Int):=of_decide_eq_true hlt;have hk:k<n:=by omega
  have c2:((k:Int)).toNat=k:=Ad3 k;have hs:=aV v k;have nz:(!decide (((Be v k:Nat):Int)=0))=true->0<Be v k:=fun h=>by
   have:¬ ((Be v k:Nat):Int)=0:=of_decide_eq_false (CV h);omega
  refine⟨⟨AdG _,hlt⟩,by show(k:Int).toNat<n;omega,fun h=>Ac.of (by have:=nz h;show _<=((Be v k:Nat):Int)-1;omega) (by show((Be v k:Nat):Int)-1<=_;omega),fun h=>⟨by have:=nz h;show _<=((Be v k:Nat):Int)-1;omega,by show((Be v k:Nat):Int)-1<((Be v k:Nat):Int);omega⟩,fun h=>by have:=nz h;show(((Be v k:Nat):Int)-1).toNat<Be v k;omega,fun h=>?_,fun h=>?_⟩
  ·have e:=Aa8 (u:=v) (k:=k) (by have h':(bif decide (((Be v k:Nat):Int)=0)then true else decide ((v (k:Int).toNat).h<(BM v k (((Be v k:Nat):Int)-1).toNat).h))=true:=h;rw[c2]at h';exact h');obtain⟨e1,e2⟩:=AaA e;refine⟨by show(Be v k+1)*16<=140737488355328;omega,Ac.of (by show _<=(k:Int)+1;omega) (by show(k:Int)+1<=_;omega),(v,k+1),by show(k:Int)+1=((k+1:Nat):Int);omega,rfl,⟨rfl,fun _ _=>rfl⟩,⟨e1.symm,fun i hi=>?_⟩,⟨by show k+1<=n;omega,hv⟩,by show n-(k+1)<n-k;omega⟩;have hi:i<Be v k+1:=hi;have e3:=e2 i hi;show Ba (Be v k) _ _ i = [SV.int .i64 (BM v (k+1) i).w,SV.int .i64 (BM v (k+1) i).h];rw[e3];unfold Ba
   by_cases h4:i<Be v k
   ·rw[if_pos h4,if_pos h4]
   ·rw[if_neg h4,if_neg h4];show [SV.int .i64 (v (k:Int).toNat).w,SV.int .i64 (v (k:Int).toNat).h]=_;rw[c2]
  ·have e:=Aa9 (u:=v) (k:=k) (by have h':(bif decide (((Be v k:Nat):Int)=0)then true else decide ((v (k:Int).toNat).h<(BM v k (((Be v k:Nat):Int)-1).toNat).h))=false:=h;rw[c2]at h';exact h');have e1:Be v (k+1)=Be v k:=by unfold Be;rw[e]
   have e2:∀i,BM v (k+1) i=BM v k i:=fun i=>by unfold BM;rw[e]
   exact⟨Ac.of (by show _<=(k:Int)+1;omega) (by show(k:Int)+1<=_;omega),(v,k+1),by show(k:Int)+1=((k+1:Nat):Int);omega,rfl,⟨rfl,fun _ _=>rfl⟩,⟨e1.symm,fun i _=>by rw[e2]⟩,⟨by show k+1<=n;omega,hv⟩,by show n-(k+1)<n-k;omega⟩
 ·have hge:¬ (k:Int)<(n:Int):=of_decide_eq_false hge;have hk:k<=n:=hk;obtain rfl:k=n:=by omega
  exact⟨v,⟨rfl,fun _ _=>rfl⟩,⟨rfl,fun _ _=>rfl⟩,hv⟩)
theorem AaC:Ao Tryz.prog 117:=fun args w=>by kernel_rfl
theorem AaD:Du Tryz.prog 117 Kq:=Gf (n:=1) Tryz.func117 (c:=Af Tryz.f117) (by kernel_rfl) mixed ⟨fun t=>rfl,fun t=>rfl,fun t u=>rfl,fun t u=>rfl,fun t u=>rfl,fun t u=>⟨rfl,rfl⟩,by kernel_rfl,by kernel_rfl⟩ (fun⟨n,f⟩ hp=>⟨_,AaB n f hp,⟨show Aa Tryz.prog _ from Aa.nil,rfl,⟨show Ae Tryz.prog _ from Ae.nil,⟨show Dv Tryz.prog _ from(Dv.cons Aa6 Aa7 Dv.nil),⟨FV.no1 (fun _=>rfl),FamsOk.none (fun _=>rfl)⟩⟩⟩⟩⟩)
def Bw (n:Nat):Int:=Dc 1 n-1
theorem LI {n:Nat} (h:n<=4):0<=Bw n/\Bw n<=15/\0<=Dc 1 n/\Dc 1 n<=16:=by
 have:n=0\/n=1\/n=2\/n=3\/n=4:=by omega
 rcases this with rfl|rfl|rfl|rfl|rfl<;>decide
abbrev In:Mk:={ T:=(L.Sq Ah)×(Int)×(Int->L.Sq Ag)×(Int->Bool),U:=Nat,args:=fun t=>(fun w gr f dom=>[.loc 1000 0]) t.1 t.2.1 t.2.2.1 t.2.2.2,lkeys:=[1000,1001],keys:=[],lent:=fun t=>(fun w gr f dom=>[(1000,.blk 172 [.p ((.sl 4 w.n (fun i=>[.int .i64 ((w.g i).id),.int .i64 ((w.g i).colour),.int .i64 ((w.g i).grain),.sl 2 (w.g i).ol.n (fun i1=>[.int .i64 (((w.g i).ol.g i1).x),.int .i64 (((w.g i).ol.g i1).y)])]))),.p (.int .i64 gr),.mapv 1001]),(1001,.mq 3 64 dom (Ad f))]) t.1 t.2.1 t.2.2.1 t.2.2.2,pre:=fun t=>(fun w gr f dom=>w.n<=4) t.1 t.2.1 t.2.2.1 t.2.2.2,post:=fun t u=>(fun w gr f dom=>fun uu=>True) t.1 t.2.1 t.2.2.1 t.2.2.2 u,lent':=fun t u=>(fun w gr f dom=>fun uu=>[(1000,.blk 172 [.p ((.sl 4 w.n (fun i=>[.int .i64 ((w.g i).id),.int .i64 ((w.g i).colour),.int .i64 ((w.g i).grain),.sl 2 (w.g i).ol.n (fun i1=>[.int .i64 (((w.g i).ol.g i1).x),.int .i64 (((w.g i).ol.g i1).y)])]))),.p (.int .i64 gr),.mapv 1001]),(1001,.mq 3 64 dom (Ad f))]) t.1 t.2.1 t.2.2.1 t.2.2.2 u,own:=fun t u=>(fun w gr f dom=>fun uu=>[]) t.1 t.2.1 t.2.2.1 t.2.2.2 u,res:=fun t u=>(fun w gr f dom=>fun uu=>.p (.int .i64 (Bw w.n))) t.1 t.2.1 t.2.2.1 t.2.2.2 u }
theorem AaE (w:L.Sq Ah) (gr:Int) (f:Int->L.Sq Ag) (dom:Int->Bool) (hp:In.pre (w,gr,f,dom)):vc Tryz.prog (cC) (Af Tryz.f68) (D3 Tryz.f68 (In.args (w,gr,f,dom)) (In.lent (w,gr,f,dom))) (FD Tryz.prog Tryz.f68 In (w,gr,f,dom)):=
 @Eq.mpr _ (let I:=SV.int .i64;let A3:=(1:Int);let A2:=(↑w.n:Int);(0:Int)<=A2/\Ac .i64 (Dc A3 A2)/\Ac .i64 (Dc A3 A2-A3)/\∃(u:Nat),Dc A3 A2-A3=Bw w.n/\(w.n=w.n/\∀(i:Nat),let A1:=[I (w.g i).id,I (w.g i).colour,I (w.g i).grain,SV.sl (2:Nat) (w.g i).ol.n fun(i1:Nat)=>[I ((w.g i).ol.g i1).x,I ((w.g i).ol.g i1).y]];i<w.n->A1=A1)/\gr=gr/\(∀(x:Int),dom x=dom x)/\(∀(x:Int),dom x=true->Ad f x=Ad f x)/\True) (by kernel_rfl) (by
 conv=>zeta
 obtain⟨a1,a2,a3,a4⟩:=LI (n:=w.n) hp;exact⟨AdG _,jK,Ac.of (by show _<=Bw w.n;omega) (by show Bw w.n<=_;omega),(0:Nat),rfl,⟨rfl,fun _ _=>rfl⟩,rfl,fun _=>rfl,fun _ _=>rfl,trivial⟩)
theorem Q8:Ao Tryz.prog 68:=fun args w=>by kernel_rfl
theorem Q9:Du Tryz.prog 68 In:=Gf (n:=1) Tryz.func68 (c:=Af Tryz.f68) (by kernel_rfl) mixed ⟨fun t=>rfl,fun t=>rfl,fun t u=>rfl,fun t u=>rfl,fun t u=>rfl,fun t u=>⟨rfl,rfl⟩,by kernel_rfl,by kernel_rfl⟩ (fun⟨w,gr,f,dom⟩ hp=>⟨_,AaE w gr f dom hp,⟨show Aa Tryz.prog _ from Aa.nil,rfl,⟨show Ae Tryz.prog _ from Ae.nil,(AC.none (fun _=>rfl))⟩⟩⟩)
def Cu.le (a b:Ag):Prop:=a.w<=b.w/\a.h<=b.h
def Cu.leB (a b:Ag):Bool:=decide (a.w<=b.w)&&decide (a.h<=b.h)
theorem Cu.leB_iff {a b:Ag}:leB a b=true↔le a b:=by unfold leB le;rw[pR,decide_eq_true_eq,decide_eq_true_eq]
theorem Cu.le_refl (a:Ag):le a a:=⟨AdQ _,AdQ _⟩
theorem Cu.le_trans {a b c:Ag} (h:le a b) (k:le b c):le a c:=⟨Int.le_trans h.1 k.1,Int.le_trans h.2 k.2⟩
theorem Cu.sz_ext {a b:Ag} (h:a.w=b.w) (k:a.h=b.h):a=b:=by
 cases a;cases b;simp only at h k;subst h k;rfl
def Cu.Stair (l:List Ag):Prop:=l.Pairwise fun a b=>a.w<b.w/\b.h<a.h
def Cu.cov (l:List Ag) (s:Ag):Prop:=∃x,x∈l/\le x s
def Cu.Same (l m:List Ag):Prop:=∀s,cov l s↔cov m s
theorem Cu.Same.refl (l:List Ag):Same l l:=fun _=>Iff.rfl
theorem Cu.Same.symm {l m:List Ag} (h:Same l m):Same m l:=fun s=>(h s).symm
theorem Cu.Same.trans {l m n:List Ag} (h:Same l m) (k:Same m n):Same l n:=fun s=>(h s).trans (k s)
theorem Cu.cov_append {l m:List Ag} {s:Ag}:cov (l++m) s↔cov l s\/cov m s:=by
 unfold cov;simp only[Ad4];constructor
 ·rintro⟨x,h|h,k⟩
  ·exact .inl ⟨x,h,k⟩
  ·exact .inr ⟨x,h,k⟩
 ·rintro(⟨x,h,k⟩|⟨x,h,k⟩)
  ·exact⟨x,.inl h,k⟩
  ·exact⟨x,.inr h,k⟩
theorem Cu.Same.append {l l' m m':List Ag} (h:Same l l') (k:Same m m'):Same (l++m) (l'++m'):=fun s=>by
 rw[cov_append,cov_append,h s,k s]
theorem Cu.Same.of_mem {l m:List Ag} (h:∀x,x∈l↔x∈m):Same l m:=fun s=>by
 unfold cov;simp only[h]
theorem Cu.cov_mem {l:List Ag} {x:Ag} (h:x∈l):cov l x:=⟨x,h,le_refl x⟩
theorem Cu.Same.of_sub {l m:List Ag} (h:∀x,x∈l->cov m x) (k:∀x,x∈m->cov l x):Same l m:=fun s=>by
 constructor
 ·rintro⟨x,hx,hs⟩;obtain⟨y,hy,hyx⟩:=h x hx;exact⟨y,hy,le_trans hyx hs⟩
 ·rintro⟨x,hx,hs⟩;obtain⟨y,hy,hyx⟩:=k x hx;exact⟨y,hy,le_trans hyx hs⟩
theorem Cu.stair_le {l:List Ag} (h:Stair l):∀a,a∈l->∀b,b∈l->le a b->a=b:=by
 intro a ha b hb hab;obtain⟨i,hi,rfl⟩:=AdM ha;obtain⟨j,hj,rfl⟩:=AdM hb;have hp:=Aed.1 h;rcases Aev i j with hlt|heq|hgt
 ·have:=hp i j hi hj hlt;have:=hab.2;omega
 ·subst heq;rfl
 ·have:=hp j i hj hi hgt;have:=hab.1;omega
theorem Cu.mem_of_same {l m:List Ag} (hl:Stair l) (hm:Stair m) (h:Same l m):∀x,x∈l->x∈m:=fun x hx=>by
 obtain⟨y,hy,hyx⟩:=(h x).1 (cov_mem hx);obtain⟨z,hz,hzy⟩:=(h y).2 (cov_mem hy);have e1:=stair_le hl z hz x hx (le_trans hzy hyx);subst e1;have:y=z:=sz_ext (Int.le_antisymm hyx.1 hzy.1) (Int.le_antisymm hyx.2 hzy.2);exact this ▸ hy
theorem Cu.stair_ext:∀{l m:List Ag},Stair l->Stair m->(∀x,x∈l↔x∈m)->l=m
 |[],[],_,_,_=>rfl
 |[],b::m,_,_,h=>by have:=(h b).2 (Adw ..);cases this
 |a::l,[],_,_,h=>by have:=(h a).1 (Adw ..);cases this
 |a::l,b::m,hl,hm,h=>by
   unfold Stair at hl hm;rw[Aes]at hl hm;have e:a=b:=by
    rcases Adq.1 ((h a).1 (Adw ..))with e|e
    ·exact e
    ·rcases Adq.1 ((h b).2 (Adw ..))with e2|e2
     ·exact e2.symm
     ·have:=(hm.1 a e).1;have:=(hl.1 b e2).1;omega
   subst e;rw[stair_ext hl.2 hm.2 (fun x=>?_)];constructor
   ·intro hx;rcases Adq.1 ((h x).1 (Adr _ hx))with e|e
    ·subst e;have:=(hl.1 x hx).1;omega
    ·exact e
   ·intro hx;rcases Adq.1 ((h x).2 (Adr _ hx))with e|e
    ·subst e;have:=(hm.1 x hx).1;omega
    ·exact e
theorem Cu.stair_uniq {l m:List Ag} (hl:Stair l) (hm:Stair m) (h:Same l m):l=m :=
 stair_ext hl hm (fun x=>⟨mem_of_same hl hm h x,mem_of_same hm hl h.symm x⟩)
def Cu.ins (l:List Ag) (s:Ag):List Ag:=if l.any (fun x=>leB x s)then l else l.filter (fun x=>decide (x.w<s.w))++s::l.filter (fun x=>decide (s.w<x.w) && !leB s x)
theorem Cu.ins_ok {l:List Ag} (h:Stair l) (s:Ag):Stair (ins l s)/\Same (ins l s) (l ++ [s]):=by
 unfold ins;split
 ·rename_i hc;obtain⟨x,hx,hxs⟩:=List.any_eq_true.1 hc;refine⟨h,Same.of_sub (fun y hy=>cov_mem (AdY _ hy)) (fun y hy=>?_)⟩;rcases Ad4.1 hy with hy|hy
  ·exact cov_mem hy
  ·rw[Ad2.1 hy];exact⟨x,hx,leB_iff.1 hxs⟩
 ·rename_i hc;have hc:∀x,x∈l->¬ le x s:=fun x hx e=>hc (List.any_eq_true.2 ⟨x,hx,leB_iff.2 e⟩);refine⟨?_,Same.of_sub (fun y hy=>?_) (fun y hy=>?_)⟩
  ·unfold Stair;rw[AeT,Aes];refine⟨List.Pairwise.filter _ h,⟨fun y hy=>?_,List.Pairwise.filter _ h⟩,fun x hx y hy=>?_⟩
   ·obtain⟨_,q⟩:=Adn.1 hy;simp only[pR,decide_eq_true_eq,AdO]at q;refine⟨q.1,?_⟩;have:¬ le s y:=fun e=>by rw[leB_iff.2 e]at q;cases q.2
    unfold le at this;omega
   ·obtain⟨m1,q⟩:=Adn.1 hx;have q:x.w<s.w:=by simpa using q
    have hs:s.h<x.h:=by
     have:=hc x m1;unfold le at this;omega
    rcases Adq.1 hy with rfl|hy
    ·exact⟨q,hs⟩
    ·obtain⟨_,q2⟩:=Adn.1 hy;simp only[pR,decide_eq_true_eq,AdO]at q2;have:¬ le s y:=fun e=>by rw[leB_iff.2 e]at q2;cases q2.2
     unfold le at this;omega
  ·rcases Ad4.1 hy with hy|hy
   ·exact cov_mem (AdY _ (Adn.1 hy).1)
   ·rcases Adq.1 hy with rfl|hy
    ·exact cov_mem (AdS _ (Ad2.2 rfl))
    ·exact cov_mem (AdY _ (Adn.1 hy).1)
  ·rcases Ad4.1 hy with hy|hy
   ·by_cases e1:y.w<s.w
    ·exact cov_mem (AdY _ (Adn.2 ⟨hy,by simpa using e1⟩))
    ·by_cases e2:le s y
     ·exact⟨s,AdS _ (Adw ..),e2⟩
     ·have e3 : s.w<y.w :=by
       have:=hc y hy;unfold le at this e2;omega
      refine cov_mem (AdS _ (Adr _ (Adn.2 ⟨hy,?_⟩)));rw[pR];refine⟨decide_eq_true e3,?_⟩;cases h2:leB s y with
      |false=>rfl
      |true=>exact absurd (leB_iff.1 h2) e2
   ·rw[Ad2.1 hy];exact cov_mem (AdS _ (Adw ..))
def Cu.stair (l:List Ag):List Ag:=l.foldl ins []
theorem Cu.foldl_ok:∀(l a:List Ag),Stair a->Stair (l.foldl ins a)/\Same (l.foldl ins a) (a++l)
 |[],a,h=>⟨h,by rw[AeM];exact Same.refl _⟩
 |s::l,a,h=>by
   obtain⟨h1,h2⟩:=ins_ok h s;obtain⟨h3,h4⟩:=foldl_ok l (ins a s) h1;refine⟨h3,h4.trans ?_⟩;have:=h2.append (Same.refl l);rwa[AeP]at this
theorem Cu.stair_ok (l:List Ag):Stair (stair l)/\Same (stair l) l:=foldl_ok l [] List.Pairwise.nil
theorem Cu.stair_eq {l m:List Ag} (h:Stair m) (k:Same m l):m=stair l:=stair_uniq h (stair_ok l).1 (k.trans (stair_ok l).2.symm)
theorem Cu.stair_congr {l m:List Ag} (h:Same l m):stair l=stair m:=stair_eq (stair_ok l).1 ((stair_ok l).2.trans h)
def Cu.scan:List Ag->List Ag->List Ag
 |out,[]=>out
 |out,s::l=>scan (match out.getLast? with
   |none=>out ++ [s]
   |some x=>if s.h<x.h then out ++ [s]else out) l
def Cu.Asc (l:List Ag):Prop:=l.Pairwise fun a b=>a.w<b.w\/(a.w=b.w/\a.h<=b.h)
theorem Cu.scan_ok:∀(l out:List Ag),Stair out->Asc l->(∀x,x∈out->∀s,s∈l->x.w<s.w\/(x.w=s.w/\x.h<=s.h))->Stair (scan out l)/\Same (scan out l) (out++l)
 |[],out,h,_,_=>⟨h,by rw[AeM];exact Same.refl _⟩
 |s::l,out,h,ha,hx=>by
   unfold Asc at ha;rw[Aes]at ha;have key:∀out',Stair out'->Same out' (out ++ [s])->(∀x,x∈out'->x∈out\/x=s)->Stair (scan out' l)/\Same (scan out' l) (out++s::l):=fun out' h1 h2 h3=>by
    obtain⟨k1,k2⟩:=scan_ok l out' h1 ha.2 (fun x hx' y hy=>by
     rcases h3 x hx' with e|rfl
     ·exact hx x e y (Adr _ hy)
     ·exact ha.1 y hy)
    refine⟨k1,k2.trans ?_⟩;have:=h2.append (Same.refl l);rwa[AeP]at this
   unfold scan;cases hl:out.getLast? with
   |none =>
     have e:out = []:=List.getLast?_eq_none_iff.1 hl;subst e;exact key [s] (List.pairwise_singleton ..) (Same.refl _) (fun x hx'=>.inr (Ad2.1 hx'))
   |some x =>
     obtain⟨pre,hpre⟩:=List.getLast?_eq_some_iff.1 hl;have hxm:x∈out:=by rw[hpre];exact AdS _ (Ad2.2 rfl)
     have hxs:=hx x hxm s (Adw ..);show Stair (scan (if s.h<x.h then out ++ [s]else out) l)/\Same (scan (if s.h<x.h then out ++ [s]else out) l) (out++s::l)
     by_cases hh:s.h<x.h
     ·rw[if_pos hh];have hlow:∀y,y∈out->x.h<=y.h/\y.w<=x.w:=fun y hy=>by
       rw[hpre]at hy;rcases Ad4.1 hy with hy|hy
       ·have h':=h;unfold Stair at h';rw[hpre,AeT]at h';have:=h'.2.2 y hy x (Ad2.2 rfl);omega
       ·rw[Ad2.1 hy];omega
      refine key (out ++ [s]) ?_ (Same.refl _) (fun y hy=>?_)
      ·unfold Stair;rw[AeT];refine⟨h,List.pairwise_singleton ..,fun y hy z hz=>?_⟩;rw[Ad2.1 hz];have:=hlow y hy;omega
      ·rcases Ad4.1 hy with hy|hy
       ·exact .inl hy
       ·exact .inr (Ad2.1 hy)
     ·rw[if_neg hh];refine key out h (Same.of_sub (fun y hy=>cov_mem (AdY _ hy)) (fun y hy=>?_)) (fun y hy=>.inl hy);rcases Ad4.1 hy with hy|hy
      ·exact cov_mem hy
      ·rw[Ad2.1 hy];exact⟨x,hxm,by omega,by omega⟩
theorem Cu.scan_stair {l m:List Ag} (ha:Asc l) (hp:l.Perm m):scan [] l=stair m:=by
 obtain⟨h1,h2⟩:=scan_ok l [] List.Pairwise.nil ha (fun x hx=>by cases hx);exact stair_eq h1 (h2.trans (Same.of_mem (fun x=>hp.mem_iff)))
def Kr (a b:Ag):List Ag:=[⟨a.w+b.w,max a.h b.h⟩,⟨max a.w b.w,a.h+b.h⟩]
def Io (A B:List Ag):List Ag:=A.flatMap fun a=>B.flatMap fun b=>Kr a b
def Bj (g:Int):Nat:=((Adu 4).find? (fun i=>decide (g=2 ^ i))).getD 0
def Je (w:L.Sq Ah) (gr:Int) (i:Nat):List Ag:=([0,1].filter fun t=>Fw (w.g i).grain gr t).map fun t=>CY (w.g i).ol t
def Br (g:Int) (k:Nat):Int:=Dj g (Aq g k)
def Gm (T:Int->List Ag) (g:Int):Nat->List Ag
 |0=>[]
 |k+1=>Gm T g k++Io (T (Aq g k)) (T (Br g k))
def Cr (g:Int):Bool:=decide (Em g (g-1)=0)
def Ip (w:L.Sq Ah) (gr:Int) (T:Int->List Ag) (g:Int):List Ag :=
 if g=0 then [⟨0,0⟩]else if Cr g=true then Cu.stair (Je w gr (Bj g))else Cu.stair (Gm T g (AJ g))
def GD (w:L.Sq Ah) (gr:Int):Nat->List (List Ag)
 |0=>[]
 |k+1=>GD w gr k ++ [Ip w gr (fun g=>(GD w gr k).getD g.toNat []) k]
def BU (w:L.Sq Ah) (gr:Int) (g:Int):List Ag:=(GD w gr 16).getD g.toNat []
def AX (l:List Ag):L.Sq Ag:=⟨l.length,fun i=>l.getD i ⟨0,0⟩⟩
def An (w:L.Sq Ah) (gr:Int) (g:Int):L.Sq Ag:=AX (BU w gr g)
def QA (n:Nat):Bool:=decide (n=0)||(if Cr n=true then decide ((n:Int)=2 ^ Bj n)&&decide (Bj n<4)else decide (0<AJ n)&&(Adu (AJ n)).all (fun k=>decide (0<Aq n k)&&decide (Aq n k<n)&&decide (0<Br n k)&&decide (Br n k<n)&&decide (Aq n k+Br n k=n)))
theorem aX:((Adu 16).all QA)=true:=by kernel_rfl
theorem QB {g:Int} (h:1<=g) (h':g<=15) (h1:Cr g=true):g=2 ^ Bj g/\Bj g<4:=by
 obtain⟨n,rfl⟩:=Aeb (show 0<=g by omega);have:=Ad0.1 aX n (Adz.2 (by omega));unfold QA at this;rw[if_pos h1,AdN,decide_eq_true_eq,pR,decide_eq_true_eq,decide_eq_true_eq]at this;rcases this with h|h
 ·omega
 ·exact h
theorem Iq {g:Int} (h:1<=g) (h':g<=15) (h1:Cr g=false):0<AJ g/\∀k,k<AJ g->0<Aq g k/\Aq g k<g/\0<Br g k/\Br g k<g/\Aq g k+Br g k=g:=by
 obtain⟨n,rfl⟩:=Aeb (show 0<=g by omega);have:=Ad0.1 aX n (Adz.2 (by omega));unfold QA at this;rw[if_neg (by rw[h1];decide),AdN,decide_eq_true_eq,pR,decide_eq_true_eq,Ad0]at this;rcases this with h|⟨h,hk⟩
 ·omega
 ·refine⟨h,fun k hkk=>?_⟩;have:=hk k (Adz.2 hkk);simp only[pR,decide_eq_true_eq]at this;exact⟨this.1.1.1.1,this.1.1.1.2,this.1.1.2,this.1.2,this.2⟩
theorem aY {T T':Int->List Ag} {g:Int} (h:∀p,0<=p->p<g->T p=T' p) (hp:∀k,k<AJ g->0<Aq g k/\Aq g k<g/\0<Br g k/\Br g k<g/\Aq g k+Br g k=g):∀k,k<=AJ g->Gm T g k=Gm T' g k
 |0,_=>rfl
 |k+1,hk=>by
   obtain⟨h1,h2,h3,h4,_⟩:=hp k (by omega);rw[Gm,Gm,aY h hp k (by omega),h _ (by omega) h2,h _ (by omega) h4]
theorem AaF {w:L.Sq Ah} {gr:Int} {T T':Int->List Ag} {g:Int} (h0:0<=g) (h15:g<=15) (h:∀p,0<=p->p<g->T p=T' p):Ip w gr T g=Ip w gr T' g:=by
 unfold Ip
 by_cases e:g=0
 ·rw[if_pos e,if_pos e]
 ·rw[if_neg e,if_neg e];cases h1:Cr g with
  |true=>rfl
  |false =>
    rw[if_neg (by decide),if_neg (by decide),aY h (Iq (by omega) h15 h1).2 _ (Adp _)]
theorem NB (w:L.Sq Ah) (gr:Int):∀k,(GD w gr k).length=k
 |0=>rfl
 |k+1=>by rw[GD,AdL,NB w gr k];rfl
theorem QC (w:L.Sq Ah) (gr:Int):∀k m,m<=k->∀j,j<m->(GD w gr k).getD j []=(GD w gr m).getD j []
 |0,m,h,j,hj=>by omega
 |k+1,m,h,j,hj=>by
   by_cases e:m=k+1
   ·rw[e]
   ·rw[<- QC w gr k m (by omega) j hj,GD];simp only[AS];rw[Ad7 (by rw[NB];omega)]
theorem QD (w:L.Sq Ah) (gr:Int) {g:Int} (h0:0<=g) (h15:g<=15):BU w gr g=Ip w gr (BU w gr) g:=by
 obtain⟨n,rfl⟩:=Aeb h0;have e1:BU w gr n=Ip w gr (fun g=>(GD w gr n).getD g.toNat []) n:=by
  unfold BU;rw[Ad3,QC w gr 16 (n+1) (by omega) n (by omega),GD];simp only[AS];rw[Ad8 (by rw[NB];omega),NB,Nat.sub_self];rfl
 rw[e1];refine AaF (by omega) h15 (fun p hp hpg=>?_);unfold BU;rw[QC w gr 16 n (by omega) p.toNat (by omega)]
theorem QE (w:L.Sq Ah) (gr:Int):BU w gr 0 = [⟨0,0⟩]:=by
 rw[QD w gr (by decide) (by decide)];rfl
theorem aZ (w:L.Sq Ah) (gr:Int) {g:Int} (h:1<=g) (h15:g<=15) (h1:Cr g=true):BU w gr g=Cu.stair (Je w gr (Bj g)):=by
 rw[QD w gr (by omega) h15];unfold Ip;rw[if_neg (by omega),if_pos h1]
theorem QF (w:L.Sq Ah) (gr:Int) {g:Int} (h:1<=g) (h15:g<=15) (h1:Cr g=false):BU w gr g=Cu.stair (Gm (BU w gr) g (AJ g)):=by
 rw[QD w gr (by omega) h15];unfold Ip;rw[if_neg (by omega),if_neg (by rw[h1];decide)]
theorem AaG (l:List Ag) (s:Ag):(Cu.ins l s).length<=l.length+1:=by
 unfold Cu.ins;split
 ·omega
 ·rw[AdL,Aeg];have h:∀l:List Ag,(l.filter (fun x=>decide (x.w<s.w))).length+(l.filter (fun x=>decide (s.w<x.w) && !Cu.leB s x)).length<=l.length:=fun l=>by
   induction l with
   |nil=>simp
   |cons a l ih =>
     by_cases h1:a.w<s.w
     ·rw[List.filter_cons_of_pos (by simpa using h1),List.filter_cons_of_neg (by simp;omega),Aeg,Aeg];omega
     ·rw[List.filter_cons_of_neg (by simpa using h1),Aeg];have:=List.length_filter_le (fun x=>decide (s.w<x.w) && !Cu.leB s x) [a];rw[show a::l = [a]++l from rfl,List.filter_append,AdL];simp at this;omega
  have:=h l;omega
theorem QG (l:List Ag):(Cu.stair l).length<=l.length:=by
 have h:∀(l a:List Ag),(l.foldl Cu.ins a).length<=a.length+l.length:=fun l=>by
  induction l with
  |nil=>intro a;simp
  |cons s l ih=>intro a;rw[List.foldl_cons,Aeg];have:=ih (Cu.ins a s);have:=AaG a s;omega
 have:=h l [];simpa[Cu.stair]using this
theorem AaH {l:List Ag} {s x:Ag} (h:x∈Cu.ins l s):x∈l\/x=s:=by
 unfold Cu.ins at h;split at h
 ·exact .inl h
 ·rcases Ad4.1 h with h|h
  ·exact .inl (Adn.1 h).1
  ·rcases Adq.1 h with h|h
   ·exact .inr h
   ·exact .inl (Adn.1 h).1
theorem bC {l:List Ag} {x:Ag} (h:x∈Cu.stair l):x∈l:=by
 have k:∀(l a:List Ag),x∈l.foldl Cu.ins a->x∈a\/x∈l:=fun l=>by
  induction l with
  |nil=>intro a h;exact .inl h
  |cons s l ih =>
    intro a h;rcases ih _ h with h|h
    ·rcases AaH h with h|h
     ·exact .inl h
     ·exact .inr (h ▸ Adw ..)
    ·exact .inr (Adr _ h)
 rcases k l [] h with h|h
 ·cases h
 ·exact h
theorem bD (A B:List Ag):(Io A B).length=2*(A.length*B.length):=by
 have h:∀a:Ag,(B.flatMap fun b=>Kr a b).length=2*B.length:=fun a=>by
  induction B with
  |nil=>rfl
  |cons b B ih=>rw[List.flatMap_cons,AdL,ih,Aeg];show 2+_=_;omega
 unfold Io
 induction A with
 |nil=>simp
 |cons a A ih=>rw[List.flatMap_cons,AdL,h,ih,Aeg,Nat.add_mul];omega
def bE:Nat->List Nat
 |0=>[]
 |n+1=>let T:=bE n;T ++ [if n=0 then 1 else if Cr n=true then 2 else((Adu (AJ n)).map fun k=>2*(T.getD (Aq n k).toNat 0*T.getD (Br n k).toNat 0)).sum]
def cb (g:Int):Nat:=(bE 16).getD g.toNat 0
def Jf (g:Int) (k:Nat):Nat:=((Adu k).map fun k=>2*(cb (Aq g k)*cb (Br g k))).sum
def bG (n:Nat):Bool:=decide (cb n<=2000)&&(decide (n=0)||(if Cr n=true then decide (cb n=2)else decide (cb n=Jf n (AJ n))))
theorem AaI:((Adu 16).all bG)=true:=by kernel_rfl
theorem LJ {g:Int} (h:0<=g) (h':g<=15):cb g<=2000/\(1<=g->Cr g=true->cb g=2)/\(1<=g->Cr g=false->cb g=Jf g (AJ g)):=by
 obtain⟨n,rfl⟩:=Aeb h;have:=Ad0.1 AaI n (Adz.2 (by omega));unfold bG at this;rw[pR,decide_eq_true_eq,AdN,decide_eq_true_eq]at this;obtain⟨h1,h2⟩:=this;refine⟨h1,fun h3 h4=>?_,fun h3 h4=>?_⟩
 ·rcases h2 with h2|h2
  ·omega
  ·rw[if_pos h4,decide_eq_true_eq]at h2;exact h2
 ·rcases h2 with h2|h2
  ·omega
  ·rw[if_neg (by rw[h4];decide),decide_eq_true_eq]at h2;exact h2
theorem AaJ (f:Nat->Nat) (k:Nat):((Adu (k+1)).map f).sum=((Adu k).map f).sum+f k:=by
 rw[AeL,AeA,List.sum_append];simp
theorem QH (g:Int) (k:Nat):Jf g (k+1)=Jf g k+2*(cb (Aq g k)*cb (Br g k)):=AaJ _ _
theorem bH (g:Int):∀{k m},k<=m->Jf g k<=Jf g m:=fun {k m} h=>by
 induction m with
 |zero=>rw[show k=0 by omega];exact Adp _
 |succ m ih =>
   by_cases e:k=m+1
   ·rw[e];exact Adp _
   ·rw[QH];have:=ih (by omega);omega
structure NC (T:Int->List Ag) (g:Int):Prop where
 len:(T g).length<=cb g
 bd:∀s,s∈T g->0<=s.w/\s.w<=4096*g/\0<=s.h/\s.h<=4096*g
theorem AaK {A B:List Ag} {p q g:Int} (hA:∀s,s∈A->0<=s.w/\s.w<=4096*p/\0<=s.h/\s.h<=4096*p) (hB:∀s,s∈B->0<=s.w/\s.w<=4096*q/\0<=s.h/\s.h<=4096*q) (e:p+q=g):∀s,s∈Io A B->0<=s.w/\s.w<=4096*g/\0<=s.h/\s.h<=4096*g:=fun s hs=>by
 unfold Io at hs;obtain⟨a,ha,hs⟩:=List.mem_flatMap.1 hs;obtain⟨b,hb,hs⟩:=List.mem_flatMap.1 hs;have h1:=hA a ha;have h2:=hB b hb;unfold Kr at hs;rcases Adq.1 hs with rfl|hs
 ·simp only;omega
 ·rcases Adq.1 hs with rfl|hs
  ·simp only;omega
  ·cases hs
theorem AaL (l:L.Sq L.Pt) (t:Int):0<=(CY l t).w/\(CY l t).w<=4096/\0<=(CY l t).h/\(CY l t).h<=4096:=by
 have hb:=Qf l;have hle:(C2 l).x<=(C3 l).x/\(C2 l).y<=(C3 l).y:=by
  unfold C2 C3;cases hv:AA l with
  |false=>exact⟨AdQ _,AdQ _⟩
  |true =>
    obtain⟨n3,_,_,_⟩:=Dw hv;simp only[cond_true];have h1:=Qd (l:=l) l.n 0 (by omega);have h2:=Qe (l:=l) l.n 0 (by omega);omega
 unfold CY;cases decide (t=1)<;>simp only[cond_true,cond_false]<;>omega
theorem QI {T:Int->List Ag} {g:Int} (hT:∀p,0<=p->p<g->NC T p) (hp:∀k,k<AJ g->0<Aq g k/\Aq g k<g/\0<Br g k/\Br g k<g/\Aq g k+Br g k=g):∀k,k<=AJ g->(Gm T g k).length<=Jf g k/\∀s,s∈Gm T g k->0<=s.w/\s.w<=4096*g/\0<=s.h/\s.h<=4096*g
 |0,_=>⟨Ads _,fun s hs=>by cases hs⟩
 |k+1,hk=>by
   obtain⟨h1,h2⟩:=QI hT hp k (by omega);obtain⟨p1,p2,p3,p4,p5⟩:=hp k (by omega);have hA:=hT _ (Int.le_of_lt p1) p2;have hB:=hT _ (Int.le_of_lt p3) p4;rw[Gm];refine⟨?_,fun s hs=>?_⟩
   ·rw[AdL,bD,QH];have:=Nat.mul_le_mul hA.len hB.len;omega
   ·rcases Ad4.1 hs with hs|hs
    ·exact h2 s hs
    ·exact AaK hA.bd hB.bd p5 s hs
theorem bI (w:L.Sq Ah) (gr:Int) (i:Nat):(Je w gr i).length<=2:=by
 unfold Je;rw[AdW];exact List.length_filter_le _ _
theorem AaM (w:L.Sq Ah) (gr:Int):∀(n:Nat),n<=15->NC (BU w gr) n:=by
 intro n
 induction n using Nat.strongRecOn with
 |_ n ih =>
   intro hn
   by_cases h0:n=0
   ·subst h0;refine⟨by rw[show((0:Nat):Int)=0 from rfl,QE];decide,fun s hs=>?_⟩;rw[show((0:Nat):Int)=0 from rfl,QE]at hs;rw[Ad2.1 hs];decide
   have hc:=LJ (g:=n) (by omega) (by omega);cases h1:Cr n with
   |true =>
     have e:=aZ w gr (g:=n) (by omega) (by omega) h1;refine⟨?_,fun s hs=>?_⟩
     ·rw[e,hc.2.1 (by omega) h1];exact Aec (QG _) (bI _ _ _)
     ·rw[e]at hs;have hs:=bC hs;unfold Je at hs;obtain⟨t,_,rfl⟩:=Ado.1 hs;have:=AaL (w.g (Bj n)).ol t;omega
   |false =>
     have e:=QF w gr (g:=n) (by omega) (by omega) h1;obtain⟨h2,h3⟩:=QI (T:=BU w gr) (g:=n) (fun p hp hpn=>by
      obtain⟨m,rfl⟩:=Aeb hp;exact ih m (by omega) (by omega)) (Iq (by omega) (by omega) h1).2 _ (Adp _)
     refine⟨?_,fun s hs=>?_⟩
     ·rw[e,hc.2.2 (by omega) h1];exact Aec (QG _) h2
     ·rw[e]at hs;exact h3 s (bC hs)
theorem LK (w:L.Sq Ah) (gr:Int) {g:Int} (h:0<=g) (h':g<=15):NC (BU w gr) g:=by
 obtain⟨n,rfl⟩:=Aeb h;exact AaM w gr n (by omega)
theorem AaN {n:Nat} {f u:Nat->Ag} (h:CU Dz n f u):CR u n=Cu.stair ((Adu n).map f):=by
 have e:∀k,CR u k=Cu.scan [] ((Adu k).map u):=fun k=>by
  have step:∀(l:List Ag) (x:Ag) (out:List Ag),Cu.scan out (l ++ [x])=(match (Cu.scan out l).getLast? with|none=>Cu.scan out l ++ [x]|some y=>if x.h<y.h then Cu.scan out l ++ [x]else Cu.scan out l):=fun l x=>by
   induction l with
   |nil=>intro out;simp only[List.nil_append,Cu.scan]
   |cons a l ih=>intro out;simp only[List.cons_append,Cu.scan];exact ih _
  induction k with
  |zero=>rfl
  |succ k ih=>rw[CR,AeL,AeA,List.map_singleton,step,<- ih];all_goals (cases(CR u k).getLast?<;>rfl)
 rw[e];refine Cu.scan_stair ?_ h.perm;unfold Cu.Asc;rw[Aed];intro i j hi hj hij;simp only[AdW,List.length_range]at hi hj;have:=h.asc i j hij hj;simp only[List.getElem_map,List.getElem_range];rw[aM]at this;omega
theorem AaO (l:List Ag):Cu.stair (Cu.stair l)=Cu.stair l:=Cu.stair_congr (Cu.stair_ok l).2
theorem AaP (l m:List Ag):Cu.stair (Cu.stair l++m)=Cu.stair (l++m):=Cu.stair_congr ((Cu.stair_ok l).2.append (Cu.Same.refl m))
theorem AaQ (l:List Ag):(Adu l.length).map (AX l).g=l:=by
 apply List.ext_getElem
 ·simp
 ·intro i h1 h2;simp[AX,AS,h2]
end Go.Proofs.YtdkpcdlnfobnnaaGreat
