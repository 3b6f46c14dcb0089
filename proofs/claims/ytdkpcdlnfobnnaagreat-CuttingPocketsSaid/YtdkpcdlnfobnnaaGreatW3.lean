/- Parts of the proof that the text of the row joins: a symbolic walk over the model. -/
import Derived.Test.YtdkpcdlnfobnnaaGreatW2
import Derived.Test.YtdkpcdlnfobnnaaGreatE5
import Derived.KernelRfl
open List renaming getD_eq_getElem?_getD->AS,mem_filter->rK,mem_map->Ah2,range->Ah5,mem_range->AhB,map->AhK,getElem?_append_left->AhP,getElem?_append_right->AhT,length_append->AhU,length_map->Aih,pairwise_map->Air,map_map->Aiy,map_congr_left->Ai2,getD_cons_succ->AiL,nodup_iff_pairwise_ne->Aja
open Nat renaming not_lt_zero->oE,zero_le->rH,le_refl->Ah0,lt_succ_iff_lt_or_eq->Ah6,le_trans->Aig,lt_trichotomy->AiE
open Bool renaming and_eq_true->pR,or_eq_false_iff->AhJ,eq_iff_iff->Ai6,noConfusion->AiW
open Int renaming toNat_natCast->Ah7,toNat->AhD,tmod_eq_emod_of_nonneg->AhM,tmod->AhQ,emod_eq_of_lt->Aic,add_emod_right->Ail
open Option renaming none->AhH,isSome_iff_exists->AiM
namespace Go.Proofs.YtdkpcdlnfobnnaaGreat
open Go.SE Go.RowKit Tryz
set_option maxRecDepth 100000
set_option maxHeartbeats 4000000
set_option linter.unusedVariables false
attribute [local irreducible] vc
structure Bt where
 a:Int
 b:Int
 c:Int
def FT:List SV->Bt
 |[.int _ a,.int _ b,.int _ c]=>⟨a,b,c⟩
 |_=>⟨0,0,0⟩
def CN:List SV->L.Sq Bt
 |[.sl _ n g]=>⟨n,fun i=>FT (g i)⟩
 |_=>⟨0,fun _=>⟨0,0,0⟩⟩
def HX:List SV->Prop
 |[.sl 3 n g]=>∀i,i<n->g i = [.int .i64 (FT (g i)).a,.int .i64 (FT (g i)).b,.int .i64 (FT (g i)).c]
 |_=>False
theorem Rp {l:List SV} (h:HX l):l.length=1/\Ba (SV.at l 0) (.sl 3 (CN l).n (fun k=>[.int .i64 ((CN l).g k).a,.int .i64 ((CN l).g k).b,.int .i64 ((CN l).g k).c])):=by
 unfold HX at h;split at h
 ·rename_i n g;exact⟨rfl,.sl h⟩
 ·exact h.elim
def D4 (a b c:L.Sq Bt) (i:Nat):L.Sq Bt:=bif decide (i=0)then a else bif decide (i=1)then b else c
theorem AbG {g:Nat->List SV} (h:HX (g 0)/\HX (g 1)/\HX (g 2)):Ba (.sl 1 3 g) (.sl 1 3 (fun i=>[.sl 3 (D4 (CN (g 0)) (CN (g 1)) (CN (g 2)) i).n (fun k=>[.int .i64 ((D4 (CN (g 0)) (CN (g 1)) (CN (g 2)) i).g k).a,.int .i64 ((D4 (CN (g 0)) (CN (g 1)) (CN (g 2)) i).g k).b,.int .i64 ((D4 (CN (g 0)) (CN (g 1)) (CN (g 2)) i).g k).c])])):=by
 have key:∀i,i<3->HX (g i)/\D4 (CN (g 0)) (CN (g 1)) (CN (g 2)) i=CN (g i):=fun i hi=>by
  match i,hi with
  |0,_=>exact⟨h.1,rfl⟩
  |1,_=>exact⟨h.2.1,rfl⟩
  |2,_=>exact⟨h.2.2,rfl⟩
 refine .sl2 (fun i hi=>(Rp (key i hi).1).1.symm) (fun i hi j hj=>?_);rw[(Rp (key i hi).1).1]at hj;obtain rfl:j=0:=by omega
 rw[(key i hi).2];exact(Rp (key i hi).1).2
def BV (c:Nat->L.Sq Bt):Nat->L.Sq Bt
 |0=>⟨0,fun _=>⟨0,0,0⟩⟩
 |i+1=>⟨(BV c i).n+(c i).n,fun k=>bif decide (k<(BV c i).n)then(BV c i).g k else(c i).g (k-(BV c i).n)⟩
def Du (p:L.Pt):Prop:=0<=p.x/\p.x<=4096/\0<=p.y/\p.y<=4096
def HY (u m v:L.Pt):Int:=(v.x-u.x)*(m.y-u.y)-(v.y-u.y)*(m.x-u.x)
def AbH (u m v:L.Pt):Int:=(m.x-u.x)*(v.x-m.x)+(m.y-u.y)*(v.y-m.y)
def AbI (u v:L.Pt):Int:=(v.x-u.x)*(v.x-u.x)+(v.y-u.y)*(v.y-u.y)
def DV (u m v:L.Pt) (bite:Int):Bool:=bif bif !decide (HY u m v=0)then decide (max (HY u m v) (0-HY u m v)<=AbH u m v)else false then decide (HY u m v*HY u m v<=bite*bite*AbI u v)else false
def Bb (n:Int) (p:AG):Nat:=((p.to_-p.fr) % n).toNat
def Bz (n:Int) (p:AG) (i:Nat):Int:=(p.fr+(i:Int)) % n
def Df (n:Int) (p:AG):Prop:=(0<=p.fr/\p.fr<n)/\(0<=p.to_/\p.to_<n)/\p.fr≠p.to_
theorem Rq {n:Int} {p:AG} (h:Df n p) {i:Nat} (hi:(i:Int)<n):Bz n p i=if p.fr+(i:Int)<n then p.fr+(i:Int)else p.fr+(i:Int)-n:=by
 obtain⟨⟨h1,h2⟩,_⟩:=h;unfold Bz;split
 ·exact Aic (by omega) (by omega)
 ·rw[show p.fr+(i:Int)=p.fr+(i:Int)-n+n by omega,Ail,Aic (by omega) (by omega)];omega
theorem AbJ {n:Int} {p:AG} (h:Df n p):(Bb n p:Int)=if p.fr<p.to_ then p.to_-p.fr else p.to_-p.fr+n:=by
 obtain⟨⟨h1,h2⟩,⟨h3,h4⟩,h5⟩:=h;unfold Bb;rw[Int.toNat_of_nonneg (Int.emod_nonneg _ (by omega))];split
 ·exact Aic (by omega) (by omega)
 ·have e:(p.to_-p.fr) % n=(p.to_-p.fr+n) % n:=(Ail _ _).symm;rw[e,Aic (by omega) (by omega)]
theorem JD {n:Int} {p:AG} (h:Df n p):1<=Bb n p/\(Bb n p:Int)<n/\Bz n p 0=p.fr/\Bz n p (Bb n p)=p.to_/\(∀i,i<=Bb n p->0<=Bz n p i/\Bz n p i<n)/\(∀i,i<=Bb n p->Bz n p i=p.to_->i=Bb n p)/\∀i,i<Bb n p->AhQ (Bz n p i+1) n=Bz n p (i+1):=by
 have hD:=AbJ h;obtain⟨⟨h1,h2⟩,⟨h3,h4⟩,h5⟩:=h;have hlt:(Bb n p:Int)<n:=by split at hD<;>omega
 have h1':1<=Bb n p:=by split at hD<;>omega
 have hr:∀i,i<=Bb n p->0<=Bz n p i/\Bz n p i<n:=fun i hi=>⟨Int.emod_nonneg _ (by omega),Int.emod_lt_of_pos _ (by omega)⟩;refine⟨h1',hlt,?_,?_,hr,fun i hi e=>?_,fun i hi=>?_⟩
 ·rw[Rq ⟨⟨h1,h2⟩,⟨h3,h4⟩,h5⟩ (by omega)];split<;>omega
 ·rw[Rq ⟨⟨h1,h2⟩,⟨h3,h4⟩,h5⟩ hlt];split<;>split at hD<;>omega
 ·rw[Rq ⟨⟨h1,h2⟩,⟨h3,h4⟩,h5⟩ (by omega)]at e;split at e<;>split at hD<;>omega
 ·have:=hr i (by omega);rw[AhM (by omega)];unfold Bz;rw[Int.emod_add_emod];congr 1
  push_cast;omega
def FU (l:L.Sq L.Pt) (p:AG):Bool:=!BH (Bb l.n p-1) fun i=>decide (0<Cp l (Bz l.n p (1+i)).toNat)
def Es {α:Type} (f:Nat->Option α):Nat->Option α
 |0=>none
 |n+1=>match Es f n with
   |some x=>some x
   |none=>f n
theorem Ov {α:Type} {f:Nat->Option α}:∀{n},(∀k,k<n->f k=none)->Es f n=none
 |0,_=>rfl
 |n+1,h=>by rw[Es,Ov (fun k hk=>h k (by omega))];exact h n (by omega)
theorem Rr {α:Type} {f:Nat->Option α} {k:Nat} {x:α} (hf:f k=some x) (h:∀j,j<k->f j=none):∀{n},k<n->Es f n=some x
 |0,hk=>by omega
 |n+1,hk=>by
   rw[Es]
   by_cases e:k=n
   ·subst e;rw[Ov h];exact hf
   ·rw[Rr hf h (n:=n) (by omega)]
theorem Rs {α:Type} {f g:Nat->Option α}:∀{n},(∀k,k<n->f k=g k)->Es f n=Es g n
 |0,_=>rfl
 |n+1,h=>by rw[Es,Es,Rs (fun k hk=>h k (by omega)),h n (by omega)]
def E2 (f:Nat->Nat->Option (List Bt)) (lw:Nat->Nat->Nat->Bool) (r:Nat->Int) (a b m:Nat):Option (List Bt):=bif lw a m b then(match f a m with|none=>none|some x=>match f m b with|none=>none|some y=>some (⟨r a,r m,r b⟩::(x++y)))else none
def Ei (lw:Nat->Nat->Nat->Bool) (r:Nat->Int):Nat->Nat->Nat->Option (List Bt)
 |0,_,_=>none
 |n+1,a,b=>if b=a+1 then some []else Es (fun k=>E2 (Ei lw r n) lw r a b (a+1+k)) (b-a-1)
theorem Ow (lw:Nat->Nat->Nat->Bool) (r:Nat->Int):∀(n m a b:Nat),a<b->b-a<=n->b-a<=m->Ei lw r n a b=Ei lw r m a b
 |0,_,a,b,h,h1,_=>by omega
 |n+1,0,a,b,h,_,h1=>by omega
 |n+1,m+1,a,b,h,h1,h2=>by
   rw[Ei,Ei]
   by_cases e:b=a+1
   ·rw[if_pos e,if_pos e]
   ·rw[if_neg e,if_neg e];refine Rs fun k hk=>?_;unfold E2;rw[Ow lw r n m a (a+1+k) (by omega) (by omega) (by omega),Ow lw r n m (a+1+k) b (by omega) (by omega) (by omega)]
def Fw (l:L.Sq L.Pt) (r:L.Sq Int) (bite:Int) (a m b:Nat):Bool:=DV (l.g (r.g a).toNat) (l.g (r.g m).toNat) (l.g (r.g b).toNat) bite
def Bn (l:L.Sq L.Pt) (r:L.Sq Int) (bite:Int) (a b:Nat):Option (List Bt):=Ei (Fw l r bite) r.g r.n a b
def CF (l:L.Sq L.Pt) (r:L.Sq Int) (bite:Int) (a b m:Nat):Option (List Bt):=E2 (Bn l r bite) (Fw l r bite) r.g a b m
theorem Rt (l:L.Sq L.Pt) (r:L.Sq Int) (bite:Int) {a b:Nat} (h:b=a+1) (hb:b<r.n):Bn l r bite a b=some []:=by
 unfold Bn;obtain⟨n,e⟩:∃n,r.n=n+1:=⟨r.n-1,by omega⟩;rw[e,Ei,if_pos h]
theorem M7 (l:L.Sq L.Pt) (r:L.Sq Int) (bite:Int) {a b:Nat} (hab:a<b) (h:b≠a+1) (hb:b<r.n):Bn l r bite a b=Es (fun k=>CF l r bite a b (a+1+k)) (b-a-1):=by
 unfold Bn;obtain⟨n,e⟩:∃n,r.n=n+1:=⟨r.n-1,by omega⟩;rw[e,Ei,if_neg h];refine Rs fun k hk=>?_;unfold CF E2 Bn;rw[e,Ow _ _ n (n+1) a (a+1+k) (by omega) (by omega) (by omega),Ow _ _ n (n+1) (a+1+k) b (by omega) (by omega) (by omega)]
def CU (l:L.Sq L.Pt) (r:L.Sq Int) (bite:Int) (a b:Int):Prop:=Bn l r bite a.toNat b.toNat=none
theorem Ox (lw:Nat->Nat->Nat->Bool) (r:Nat->Int):∀(n a b:Nat),a<b->∀x,Ei lw r n a b=some x->x.length+1=b-a
 |0,a,b,_,x,e=>by cases e
 |n+1,a,b,hab,x,e=>by
   rw[Ei]at e
   by_cases e1:b=a+1
   ·rw[if_pos e1]at e;cases e;simp;omega
   ·rw[if_neg e1]at e;have key:∀m,a<m->m<b->∀x,E2 (Ei lw r n) lw r a b m=some x->x.length+1=b-a:=fun m h1 h2 x e=>by
     unfold E2 at e;cases h3:lw a m b
     ·rw[h3]at e;cases e
     ·rw[h3,cond_true]at e;cases h4:Ei lw r n a m with
      |none=>rw[h4]at e;cases e
      |some y =>
        cases h5:Ei lw r n m b with
        |none=>rw[h4,h5]at e;cases e
        |some z =>
          rw[h4,h5]at e;cases e;have:=Ox lw r n a m h1 y h4;have:=Ox lw r n m b h2 z h5;simp only[List.length_cons,AhU];omega
    have:∀m,m<=b-a-1->∀x,Es (fun k=>E2 (Ei lw r n) lw r a b (a+1+k)) m=some x->x.length+1=b-a:=fun m=>by
     induction m with
     |zero=>intro _ x e;cases e
     |succ m ih =>
       intro hm x e;rw[Es]at e;cases e2:Es (fun k=>E2 (Ei lw r n) lw r a b (a+1+k)) m with
       |some y=>rw[e2]at e;cases e;exact ih (by omega) _ e2
       |none=>rw[e2]at e;exact key _ (by omega) (by omega) x e
    exact this _ (Ah0 _) x e
def Bm (x:Option (List Bt)):Bool:=x.isSome
def AU (x:Option (List Bt)):L.Sq Bt:=⟨(x.getD []).length,fun i=>(x.getD []).getD i ⟨0,0,0⟩⟩
theorem M8 {l:L.Sq L.Pt} {r:L.Sq Int} {bite:Int} {a b:Nat} (h:a<b):(AU (Bn l r bite a b)).n<=b-a:=by
 unfold AU;cases e:Bn l r bite a b with
 |none=>simp
 |some x=>have:=Ox _ _ _ _ _ h x e;simp;omega
theorem AbK (t:Bt) (x y:List Bt):(BV (D4 ⟨1,fun _=>t⟩ (AU (some x)) (AU (some y))) 3).n=(AU (some (t::(x++y)))).n/\∀i,i<(BV (D4 ⟨1,fun _=>t⟩ (AU (some x)) (AU (some y))) 3).n->(BV (D4 ⟨1,fun _=>t⟩ (AU (some x)) (AU (some y))) 3).g i=(AU (some (t::(x++y)))).g i:=by
 have e1:(BV (D4 ⟨1,fun _=>t⟩ (AU (some x)) (AU (some y))) 3).n=0+1+x.length+y.length:=rfl;refine⟨by rw[e1];show _=(t::(x++y)).length;simp;omega,fun i hi=>?_⟩;rw[e1]at hi;show(bif decide (i<0+1+x.length)then(bif decide (i<0+1)then(bif decide (i<0)then(⟨0,0,0⟩:Bt)else t)else x.getD (i-(0+1)) ⟨0,0,0⟩)else y.getD (i-(0+1+x.length)) ⟨0,0,0⟩)=(t::(x++y)).getD i ⟨0,0,0⟩
 by_cases h1:i<0+1+x.length
 ·rw[decide_eq_true h1,cond_true]
  by_cases h2:i<0+1
  ·rw[decide_eq_true h2,cond_true];obtain rfl:i=0:=by omega
   rfl
  ·rw[decide_eq_false h2,cond_false];obtain⟨j,rfl⟩:∃j,i=j+1:=⟨i-1,by omega⟩;rw[AiL,show j+1-(0+1)=j by omega,AS,AS,AhP (by omega)]
 ·rw[decide_eq_false h1,cond_false];obtain⟨j,rfl⟩:∃j,i=j+1:=⟨i-1,by omega⟩;rw[AiL,show j+1-(0+1+x.length)=j-x.length by omega,AS,AS,AhT (by omega)]
def FV (l:L.Sq L.Pt) (r:L.Sq Int) (bite:Int):Option (List Bt):=Bn l r bite 0 (r.n-1)
def Fx (l:L.Sq L.Pt) (p:AG):L.Sq Int:=⟨Bb l.n p+1,Bz l.n p⟩
def BM (l:L.Sq L.Pt) (p:AG) (bite:Int):Option (List Bt):=bif !FU l p then none else FV l (Fx l p) bite
def IJ (x:Bt):List SV:=[.int .i64 x.a,.int .i64 x.b,.int .i64 x.c]
def EE (l:L.Sq L.Pt) (r:L.Sq Int) (bite:Int):Prop:=(l.n<=1000/\r.n<=1000/\0<=bite/\bite<=4096)/\(∀i,i<r.n->0<=r.g i/\r.g i<(l.n:Int))/\∀i,i<l.n->Du (l.g i)
def aM (u:L.Pt) (m:L.Pt) (v:L.Pt) (b:Int):Prop:=Du u/\Du m/\Du v/\0<=b/\b<=4096
def aN (u:L.Pt) (m:L.Pt) (v:L.Pt) (b:Int):SV:=.bool (DV u m v b)
def aO:List EV->Option (Prop×SV)
 |[.p (.agg [.int .i64 u_x,.int .i64 u_y]),.p (.agg [.int .i64 m_x,.int .i64 m_y]),.p (.agg [.int .i64 v_x,.int .i64 v_y]),.p (.int .i64 b)]=>some (aM (⟨u_x,u_y⟩:L.Pt) (⟨m_x,m_y⟩:L.Pt) (⟨v_x,v_y⟩:L.Pt) b,aN (⟨u_x,u_y⟩:L.Pt) (⟨m_x,m_y⟩:L.Pt) (⟨v_x,v_y⟩:L.Pt) b)
 |_=>none
abbrev Ru:SE.Spec:=(AM aO)
def AbL:Aj:={ muts:=[],frz:=B9 [],specs:=AE [],loops:=AT [],iters:=BG [],rfs:=AQ [],nils:=B3 [] }
theorem AbM (u:L.Pt) (m:L.Pt) (v:L.Pt) (b:Int) (hp:aM u m v b):vc prog (AbL) (Ae f44) (Ao f44 [.p (.agg [.int .i64 u.x,.int .i64 u.y]),.p (.agg [.int .i64 m.x,.int .i64 m.y]),.p (.agg [.int .i64 v.x,.int .i64 v.y]),.p (.int .i64 b)]) (AL prog f44 (aN u m v b)):=
 @Eq.mpr _ (let A10:=(0:Int);let A8:=(v.y-m.y);let A7:=(v.x-m.x);let A6:=(m.x-u.x);let A5:=(m.y-u.y);let A4:=(v.y-u.y);let A3:=(v.x-u.x);let A9:=(A3*A3+A4*A4);let A1:=(A3*A5-A4*A6);let A2:=(bif !decide (A3*A5-A4*A6=A10)then decide (Max.max A1 (A10-A1)<=A6*A7+A5*A8)else false);Ab .i64 A3/\Ab .i64 A5/\Ab .i64 (A3*A5)/\Ab .i64 A4/\Ab .i64 A6/\Ab .i64 (A4*A6)/\Ab .i64 A1/\Ab .i64 A6/\Ab .i64 A7/\Ab .i64 (A6*A7)/\Ab .i64 A5/\Ab .i64 A8/\Ab .i64 (A5*A8)/\Ab .i64 (A6*A7+A5*A8)/\Ab .i64 A3/\Ab .i64 A3/\Ab .i64 (A3*A3)/\Ab .i64 A4/\Ab .i64 A4/\Ab .i64 (A4*A4)/\Ab .i64 A9/\((!decide (A3*A5-A4*A6=A10))=true->Ab .i64 (A10-A1))/\(A2=true->Ab .i64 (A1*A1))/\(A2=true->Ab .i64 (b*b))/\(A2=true->Ab .i64 (b*b*A9))/\(bif bif !decide (A3*A5-A4*A6=A10)then decide (Max.max A1 (A10-A1)<=A6*A7+A5*A8)else false then decide (A1*A1<=b*b*A9)else false)=DV u m v b) (by kernel_rfl) (by
 conv=>zeta
 obtain⟨h1,h2,h3,b0,b1⟩:=hp;unfold Du at h1 h2 h3;have m1:=Dd (a:=v.x-u.x) (b:=m.y-u.y) (m:=4096) (n:=4096) (by omega) (by omega) (by omega) (by omega);have m2:=Dd (a:=v.y-u.y) (b:=m.x-u.x) (m:=4096) (n:=4096) (by omega) (by omega) (by omega) (by omega);have m3:=Dd (a:=m.x-u.x) (b:=v.x-m.x) (m:=4096) (n:=4096) (by omega) (by omega) (by omega) (by omega);have m4:=Dd (a:=m.y-u.y) (b:=v.y-m.y) (m:=4096) (n:=4096) (by omega) (by omega) (by omega) (by omega);have m5:=Dd (a:=v.x-u.x) (b:=v.x-u.x) (m:=4096) (n:=4096) (by omega) (by omega) (by omega) (by omega);have m6:=Dd (a:=v.y-u.y) (b:=v.y-u.y) (m:=4096) (n:=4096) (by omega) (by omega) (by omega) (by omega);have m7:=Dd (a:=(v.x-u.x)*(m.y-u.y)-(v.y-u.y)*(m.x-u.x)) (b:=(v.x-u.x)*(m.y-u.y)-(v.y-u.y)*(m.x-u.x)) (m:=33554432) (n:=33554432) (by omega) (by omega) (by omega) (by omega);have m8:=Dd (a:=b) (b:=b) (m:=4096) (n:=4096) (by omega) (by omega) (by omega) (by omega);have m9:=Dd (a:=b*b) (b:=(v.x-u.x)*(v.x-u.x)+(v.y-u.y)*(v.y-u.y)) (m:=16777216) (n:=33554432) (by omega) (by omega) (by omega) (by omega)
 repeat' with_reducible apply And.intro
 all_goals first|exact rfl|exact jK|exact fun _=>jK)
theorem aP:Az prog 44 Ru:=AN func44 (c:=Ae f44) (by kernel_rfl) mixed (fun _ _ _ hs hp=>by
 unfold aO at hs;split at hs
 ·cases hs;exact⟨_,_,AbM _ _ _ _ hp,(.same _ (.same _ (.same _ (.same _ .nil)))),⟨show Aa prog _ from Aa.nil,rfl,nz⟩⟩
 ·cases hs)
theorem aQ:An prog 44:=fun _ _=>by kernel_rfl
def aR (n:Int) (p:AG):Prop:=n<=1000/\Df n p
def aS (n:Int) (p:AG):SV:=.sl 1 (Bb n p+1) (fun i=>[.int .i64 (Bz n p i)])
def aT:List EV->Option (Prop×SV)
 |[.p (.int .i64 n),.p (.agg [.int .i64 p_fr,.int .i64 p_to_,.int .i64 p_area])]=>some (aR n (⟨p_fr,p_to_,p_area⟩:AG),aS n (⟨p_fr,p_to_,p_area⟩:AG))
 |_=>none
abbrev Rv:SE.Spec:=(AM aT)
def AbN:Aj:={ cC with muts:=[9],frz:=B9 [(6,[9])] }
theorem AbO (n:Int) (p:AG) (hp:aR n p):vc prog ({ AbN with loops:=AT [(3,{ T:=Nat,keep:=[0,3,5],keepO:=[],chg:=fun i=>[(6,.p (.int .i64 (Bz n p i)))],own:=fun i=>[(9,.row 3 1 (i+1) (fun j=>[.int .i64 (Bz n p j)]))],inv:=fun i=>i<=Bb n p,mu:=fun i=>Bb n p-i })]}) (Ae f89) (Ao f89 [.p (.int .i64 n),.p (.agg [.int .i64 p.fr,.int .i64 p.to_,.int .i64 p.area])]) (AL prog f89 (aS n p)):=
 @Eq.mpr _ (let I:=SV.int .i64;let A4:=[I p.fr,I p.to_,I p.area];let A1:=(1:Nat);(∃(g:Nat),p.fr=Bz n p g/\(1=g+A1/\∀(i:Nat),i<1->AD [I p.fr] 1 i = [I (Bz n p i)])/\g<=Bb n p)/\∀(g:Nat),let A3:=(!decide (Bz n p g=p.to_));let A2:=(Bz n p g+(1:Int));g<=Bb n p->(A3=true->Ab .i64 A2/\n≠(0:Int)/\(g+A1+1)*8<=140737488355328/\∃(g':Nat),AhQ A2 n=Bz n p g'/\SV.ref A4 0=SV.ref A4 0/\n=n/\(g+A1+1=g'+A1/\∀(i:Nat),i<g+A1+1->AH (g+A1) (fun(j:Nat)=>[I (Bz n p j)]) (fun(x:Nat)=>[I (AhQ A2 n)]) i = [I (Bz n p i)])/\g'<=Bb n p/\Bb n p-g'<Bb n p-g)/\(A3=false->g+A1=Bb n p+A1/\∀(i:Nat),i<g+A1 -> [I (Bz n p i)]= [I (Bz n p i)])) (by kernel_rfl) (by
 conv=>zeta
 obtain⟨hn,hk⟩:=(show n<=1000/\Df n p from hp);obtain⟨d1,d2,f0,f1,fr,fe,fs⟩:=JD hk;refine⟨⟨(0:Nat),f0.symm,⟨rfl,fun i hi=>?_⟩,rH _⟩,fun g hg=>⟨fun hc=>?_,fun hc=>?_⟩⟩
 ·have hi:i<1:=hi;obtain rfl:i=0:=by omega
  rw[f0];rfl
 ·have hc:¬ Bz n p g=p.to_:=of_decide_eq_false (CC hc);have hlt:g<Bb n p:=by
   rcases Nat.lt_or_ge g (Bb n p)with h|h
   ·exact h
   ·obtain rfl:g=Bb n p:=by omega
    exact absurd f1 hc
  have hr:=fr g hg;refine⟨jK,by omega,by show(g+1+1)*8<=140737488355328;omega,g+1,fs g hlt,rfl,rfl,⟨rfl,fun i hi=>?_⟩,hlt,by omega⟩;have hi:i<g+1+1:=hi;unfold AH
  by_cases e:i<g+1
  ·rw[if_pos e]
  ·rw[if_neg e];obtain rfl:i=g+1:=by omega
   rw[fs g hlt]
 ·have hc:Bz n p g=p.to_:=of_decide_eq_true (B5 hc);obtain rfl:=fe g hg hc;exact rz)
theorem aU:Az prog 89 Rv:=AN func89 (c:=Ae f89) (by kernel_rfl) mixed (fun _ _ _ hs hp=>by
 unfold aT at hs;split at hs
 ·cases hs;exact⟨_,_,AbO _ _ hp,(.same _ (.same _ .nil)),⟨show Aa prog _ from Aa.nil,rfl,nz⟩⟩
 ·cases hs)
theorem aV:An prog 89:=fun _ _=>by kernel_rfl
def aW (i:Int) (b:L.Sq Int):Prop:=0<=i/\i<(b.n:Int)
def aX (i:Int) (b:L.Sq Int):SV:=.bool (decide (0<b.g i.toNat))
def IK:List EV->Option (Prop×SV)
 |[.p (.int .i64 i),.p (.ref [.sl 1 b_n b_g] 0)]=>some ((∀i,i<b_n->b_g i = [.int .i64 ((Ds (b_g i)))])/\aW i ⟨b_n,fun i=>Ds (b_g i)⟩,aX i ⟨b_n,fun i=>Ds (b_g i)⟩)
 |_=>none
abbrev aY:SE.Spec:=(AM IK)
def AbP:Aj:={ muts:=[],frz:=B9 [],specs:=AE [],loops:=AT [],iters:=BG [],rfs:=AQ [],nils:=B3 [] }
theorem AbQ (i:Int) (b:L.Sq Int) (hp:aW i b):vc prog (AbP) (Ae f136) (Ao f136 [.p (.int .i64 i),.p (.ref [.sl 1 b.n (fun i=>[.int .i64 ((b.g i))])] 0)]) (AL prog f136 (aX i b)):=
 @Eq.mpr _ (((0:Int)<=i/\i<(↑b.n:Int))/\decide ((0:Int)<b.g (AhD i))=decide ((0:Int)<b.g (AhD i))) (by kernel_rfl) (by
 exact⟨hp,rfl⟩)
theorem AbR:Az prog 136 aY:=AN func136 (c:=Ae f136) (by kernel_rfl) mixed (fun _ _ _ hs hp=>by
 unfold IK at hs;split at hs
 ·cases hs; exact⟨_, _, AbQ _ _ hp.2, (.same _ (.p (Ba.ref rfl (fun i hi =>by
  rcases i with _|i
  ·show Ba (SV.sl _ _ _) (SV.sl _ _ _);exact(Ba.sl hp.1)
  exact absurd hi (by simp;try omega))) .nil)),⟨show Aa prog _ from Aa.nil,rfl,nz⟩⟩
 ·cases hs)
theorem AbS:An prog 136:=fun _ _=>by kernel_rfl
theorem AbT:∀args p r,IK args=some (p,r)->∃b,r=.bool b:=by
 intro args p r h;unfold IK at h;split at h
 ·cases h;exact⟨_,rfl⟩
 ·cases h
def aZ (l:L.Sq L.Pt) (p:AG):Prop:=Am l=true/\Df l.n p
def bC (l:L.Sq L.Pt) (p:AG):SV:=.bool (FU l p)
def bD:List EV->Option (Prop×SV)
 |[.p (.sl 2 l_n l_g),.p (.agg [.int .i64 p_fr,.int .i64 p_to_,.int .i64 p_area])]=>some ((∀i,i<l_n->l_g i = [.int .i64 (Ad (l_g i)).x,.int .i64 (Ad (l_g i)).y])/\aZ ⟨l_n,fun i=>Ad (l_g i)⟩ (⟨p_fr,p_to_,p_area⟩:AG),bC ⟨l_n,fun i=>Ad (l_g i)⟩ (⟨p_fr,p_to_,p_area⟩:AG))
 |_=>none
abbrev bE:SE.Spec:=(AM bD)
def AbU:Aj:={ cC with muts:=[5],frz:=B9 [(3,[5])],specs:=AE [(134,We),(89,Rv),(135,Vl),(136,aY)] }
theorem AbV (l:L.Sq L.Pt) (p:AG) (hp:aZ l p):vc prog (AbU) (Ae f87) (Ao f87 [.p (.sl 2 l.n (fun i=>[.int .i64 (l.g i).x,.int .i64 (l.g i).y])),.p (.agg [.int .i64 p.fr,.int .i64 p.to_,.int .i64 p.area])]) (AL prog f87 (bC l p)):=
 @Eq.mpr _ (let I:=SV.int .i64;let T:=AhD;let A12:=(0:Nat);let A8:=(↑l.n:Int);let A6:=(1:Int);let A3:=(↑(Bb A8 p+1):Int);let A9:=(A3-A6-A6);let A1:=(L.Sq.mk l.n fun(i:Nat)=>Ad ((fun(i:Nat)=>[I (l.g i).x,I (l.g i).y]) i));let A4:=[SV.ref [SV.sl 1 (bif Am A1 then A1.n else A12) fun(k:Nat)=>[I (Cp A1 k)]] 0];((∀(i:Nat),let A11:=[I (l.g i).x,I (l.g i).y];i<l.n->A11=A11)/\l.n<=1000000)/\(A8<=1000/\Df A8 p)/\Ab .i64 (A3-A6)/\(0<=A6/\A6<=A3-A6/\A3-A6<=A3)/\((∀(i:Nat),let A10:=[I (Bz A8 p (T A6+i))];i<T A9->A10=A10)/\Fr (BN.mk (fun(«as»:List SV)=>DA IK (AhK EV.p «as» ++ AhK EV.p A4)) fun(«as»:List SV)=>En IK (AhK EV.p «as» ++ AhK EV.p A4))/\T A9<=1000000/\∀(i:Nat),i<T A9->(∀(i:Nat),let A7:=(L.Sq.mk l.n fun(i:Nat)=>l.g i);(i<bif Am A7 then l.n else A12) -> [I (Cp A7 i)]= [I (Cp A7 i)])/\(0:Int)<=Bz A8 p (T A6+i)/\Bz A8 p (T A6+i)<(↑(bif Am (L.Sq.mk l.n fun(i:Nat)=>l.g i)then l.n else A12):Int))/\(!BH (T A9) fun(i:Nat)=>let A2:=(L.Sq.mk l.n fun(i:Nat)=>Ad ((fun(i:Nat)=>[I (l.g i).x,I (l.g i).y]) i));let A5:=[SV.ref [SV.sl 1 (bif Am A2 then A2.n else A12) fun(k:Nat)=>[I (Cp A2 k)]] 0];Bs (BN.mk (fun(«as»:List SV)=>DA IK (AhK EV.p «as» ++ AhK EV.p A5)) fun(«as»:List SV)=>En IK (AhK EV.p «as» ++ AhK EV.p A5)) [I (Bz A8 p (T A6+i))])=FU l p) (by kernel_rfl) (by
 conv=>zeta
 obtain⟨hv,hk⟩:=(show Am l=true/\Df l.n p from hp);obtain⟨n3,n24,_,_⟩:=CZ hv;obtain⟨d1,d2,f0,f1,fr,fe,fs⟩:=JD hk;have eN:(((Bb l.n p+1:Nat):Int)-1-1).toNat=Bb l.n p-1:=by omega
 have eB:(bif Am l then l.n else 0)=l.n:=by rw[hv];rfl
 refine⟨⟨zr,by omega⟩,⟨by omega,hk⟩,jK,⟨by omega,by omega,by omega⟩,⟨zr,Mg AbT _,by omega,fun i hi=>⟨zr,?_⟩⟩,?_⟩
 ·rw[eB];rw[eN]at hi;exact fr (1+i) (by omega)
 ·rw[eN];unfold FU;rfl)
theorem AbW:Az prog 87 bE:=AN func87 (c:=Ae f87) (by kernel_rfl) mixed (fun _ _ _ hs hp=>by
 unfold bD at hs;split at hs
 ·cases hs;exact⟨_,_,AbV _ _ hp.2,(.p (.sl hp.1) (.same _ .nil)),⟨show Aa prog _ from(Aa.cons wL wM (Aa.cons aU aV (Aa.cons uV uW (Aa.cons AbR AbS Aa.nil)))),rfl,nz⟩⟩
 ·cases hs)
theorem AbX:An prog 87:=fun _ _=>by kernel_rfl
def bG (s:Nat) (n:Int):Prop:=1<=n/\n<=2000000
def bH (s:Nat) (n:Int):Nat->Prop:=fun _=>True
def bI (s:Nat) (n:Int):Nat->Nat:=fun _=>0
def bJ (s:Nat) (n:Int):Nat->Nat->List SV:=fun _ _=>[]
def bK:List EV->Option (Prop×(Nat->Prop)×(Nat->Nat)×(Nat->Nat->List SV))
 |[.p (.raw (.slice none 0 0)),.p (.int .i64 n)]=>some (bG 0 n,bH 0 n,bI 0 n,bJ 0 n)
 |_=>none
abbrev bL:SE.Spec:=(Gl Nat 0 37 3 bK)
def AbY:Aj:={ cC with muts:=[22],cuts:=[25] }
theorem AbZ (s:Nat) (n:Int) (hp:bG s n):vc prog (AbY) (Ae f179) (Ao f179 [.p (.raw (.slice none 0 0)),.p (.int .i64 n)]) (Fp prog f179 (Nat) (bH s n) 37 3 (bI s n) (bJ s n)):=
 @Eq.mpr _ (let A4:=(0:Nat);let A2:=(0:Int);let A1:=(↑A4:Int);let A3:=(A1-A1);(decide (n<A2)=true->False)/\(decide (n<A2)=false->Ab .i64 A3/\Ab .i64 (n-A3)/\(decide (A2<n-A3)=true->(A2<=A2/\A2<=A1/\A1<=A2)/\(A2<n-A3/\(n-A3)*(↑(nat_lit 24):Int)<=140737488355328)/\(A2<=A1/\A1<=(↑(AhD (n-A3)):Int))/\∃(t:Nat),(0=A4/\∀(i:Nat),i<0 -> [SV.int .i64 A2,SV.int .i64 A2,SV.int .i64 A2]= [])/\True)/\(decide (A2<n-A3)=false->∃(t:Nat),A4=A4/\True))) (by kernel_rfl) (by
 conv=>zeta
 obtain⟨h1,h2⟩:=hp;refine⟨fun h=>?_,fun _=>⟨jK,jK,fun h=>⟨⟨by omega,by omega,by omega⟩,⟨by omega,show(n-(((0:Nat):Int)-((0:Nat):Int)))*24<=140737488355328 by omega⟩,⟨by omega,by omega⟩,(0:Nat),⟨rfl,fun i hi=>absurd hi (oE _)⟩,trivial⟩,fun h=>⟨(0:Nat),rfl,trivial⟩⟩⟩;have:=of_decide_eq_true h;omega)
theorem Aca:Az prog 179 bL:=G5 func179 (c:=Ae f179) (by kernel_rfl) mixed (fun args p q n g hs hp=>by
 unfold bK at hs;split at hs
 ·cases hs;exact⟨_,_,AbZ _ _ hp,(.same _ (.same _ .nil)),⟨show Aa prog _ from Aa.nil,rfl,nz⟩⟩
 ·cases hs)
theorem Acb:An prog 179:=fun _ _=>by kernel_rfl
def bM (c:(Nat->L.Sq Bt)):Prop:=(1<=(c 0).n/\(c 0).n<=10000)/\(c 1).n<=10000/\(c 2).n<=10000
def bN (c:(Nat->L.Sq Bt)):Nat->Prop:=fun _=>True
def bO (c:(Nat->L.Sq Bt)):Nat->Nat:=fun _=>(BV c 3).n
def bP (c:(Nat->L.Sq Bt)):Nat->Nat->List SV:=fun _ k=>[.int .i64 ((BV c 3).g k).a,.int .i64 ((BV c 3).g k).b,.int .i64 ((BV c 3).g k).c]
def bQ:List EV->Option (Prop×(Nat->Prop)×(Nat->Nat)×(Nat->Nat->List SV))
 |[.p (.sl 1 3 c_g)]=>some ((HX (c_g 0)/\HX (c_g 1)/\HX (c_g 2))/\bM (D4 (CN (c_g 0)) (CN (c_g 1)) (CN (c_g 2))),bN (D4 (CN (c_g 0)) (CN (c_g 1)) (CN (c_g 2))),bO (D4 (CN (c_g 0)) (CN (c_g 1)) (CN (c_g 2))),bP (D4 (CN (c_g 0)) (CN (c_g 1)) (CN (c_g 2))))
 |_=>none
abbrev bR:SE.Spec:=(Gl Nat 0 37 3 bQ)
def Acd:Aj:={ cC with muts:=[24],specs:=AE [(179,bL)],raws:=[179] }
theorem Ace (c:(Nat->L.Sq Bt)) (hp:bM c):vc prog ({ Acd with loops:=AT [(3,{ T:=Nat,keep:=[0,9,10],keepO:=[],chg:=fun i=>[(3,.p (.int .i64 ((BV c i).n:Int))),(11,.p (.int .i64 (i:Int)))],own:=fun _=>[],inv:=fun i=>i<=3,mu:=fun i=>3-i }),(11,{ T:=Nat,keep:=[0,6,25,26],keepO:=[],chg:=fun i=>[(27,.p (.int .i64 (i:Int)))],own:=fun i=>[(24,.row 37 3 (BV c i).n (fun k=>[.int .i64 ((BV c i).g k).a,.int .i64 ((BV c i).g k).b,.int .i64 ((BV c i).g k).c]))],inv:=fun i=>i<=3,mu:=fun i=>3-i })]}) (Ae f138) (Ao f138 [.p (.sl 1 3 (fun i=>[.sl 3 (c i).n (fun k=>[.int .i64 ((c i).g k).a,.int .i64 ((c i).g k).b,.int .i64 ((c i).g k).c])]))]) (Fp prog f138 (Nat) (bN c) 37 3 (bO c) (bP c)):=
  @Eq.mpr _ (let I:=SV.int .i64;let T:=AhD;let A14:=(1:Int);let A13:=(0:Int);let A6:=(3:Nat);let A2:=(↑(nat_lit 3):Int);(∃(g:Nat),A13=(↑(BV c g).n:Int)/\A13=(↑g:Int)/\g<=A6)/\∀(g:Nat),let A8:=(↑g:Int);let A15:=(↑(c (T A8)).n:Int);let A7:=(↑(BV c g).n:Int);let A1:=(3=3/\∀(i:Nat),let A5 :=
 [SV.sl A6 (c i).n fun(k:Nat)=>[I ((c i).g k).a,I ((c i).g k).b,I ((c i).g k).c]];i<3->A5=A5);g<=A6->(decide (A8<A2)=true->(A13<=A8/\A8<A2)/\Ab .i64 (A7+A15)/\(false=true->False)/\(false=false->Ab .i64 (A8+A14)/\∃(g':Nat),A7+A15=(↑(BV c g').n:Int)/\A8+A14=(↑g'
:Int)/\A2=A2/\A1/\A1/\g'<=A6/\A6-g'<A6-g))/\(decide (A8<A2)=false->(A14<=A7/\A7<=2000000)/\∀(t:Nat),True->(∃(g:Nat),A13=(↑g:Int)/\((0:Nat)=(BV c g).n/\∀(i:Nat),let A12:=((BV c g).g i);i<0 -> []= [I A12.a,I A12.b,I A12.c])/\g<=A6)/\∀(g_1:Nat),let A4:=(↑g_1:Int);let A9:=(c (T A4));let A3 :=
 (BV c g_1);g_1<=A6->(decide (A4<A2)=true->(A13<=A4/\A4<A2)/\(A3.n+A9.n)*24<=140737488355328/\Ab .i64 (A4+A14)/\∃(g':Nat),A4+A14=(↑g':Int)/\A2=A2/\A1/\A1/\(A3.n+A9.n=(BV c g').n/\∀(i:Nat),let A10:=((BV c g').g i);i<A3.n+A9.n->AH A3.n (fun(k:Nat)=>[I (A3.g k).a,I (A3.g
 k).b,I (A3.g k).c]) (fun(k:Nat)=>[I (A9.g k).a,I (A9.g k).b,I (A9.g k).c]) i = [I A10.a,I A10.b,I A10.c])/\g'<=A6/\A6-g'<A6-g_1)/\(decide (A4<A2)=false->∃(t:Nat),(A3.n=(BV c A6).n/\∀(i:Nat),let A11:=((BV c A6).g i);i<A3.n -> [I (A3.g i).a,I (A3.g i).b,I (A3.g i).c]= [I A11.a,I A11.b,I A11.c])/\True))) (by kernel_rfl) (by
  conv=>zeta
  obtain⟨⟨h0,h1⟩,h2,h3⟩:=hp;have hc:∀i,i<3->(c i).n<=10000:=fun i hi=>by
   match i,hi with
   |0,_=>exact h1
   |1,_=>exact h2
   |2,_=>exact h3
  have e1:(BV c 1).n=0+(c 0).n:=rfl;have e2:(BV c 2).n=0+(c 0).n+(c 1).n:=rfl;have e3:(BV c 3).n=0+(c 0).n+(c 1).n+(c 2).n:=rfl;have ht:∀i,i<=3->(BV c i).n<=30000:=fun i hi=>by
   match i,hi with
   |0,_=>exact rH _
   |1,_=>omega
   |2,_=>omega
   |3,_=>omega
  refine⟨⟨(0:Nat),rfl,rfl,rH _⟩,fun g hg=>⟨fun hlt=>?_,fun hge=>?_⟩⟩
  ·have hb:(g:Int)<3:=of_decide_eq_true hlt;have e0:((g:Int)).toNat=g:=by omega
   have hcg:=hc g (by omega);have htg:=ht g hg;rw[e0];exact⟨⟨by omega,hb⟩,jK,fun h=>Bool.false_ne_true h,fun _=>⟨jK,g+1,by show((BV c g).n:Int)+((c g).n:Int)=(((BV c g).n+(c g).n:Nat):Int);omega,by omega,rfl,rz,rz,by omega,by omega⟩⟩
  ·have hb:¬ (g:Int)<3:=of_decide_eq_false hge;obtain rfl:g=3:=by omega
   refine⟨⟨by omega,by omega⟩,fun _ _=>⟨⟨(0:Nat),rfl,⟨rfl,fun i hi=>absurd hi (oE _)⟩,rH _⟩,fun k hk=>⟨fun hlt=>?_,fun hge=>?_⟩⟩⟩
   ·have hb:(k:Int)<3:=of_decide_eq_true hlt;have e0:((k:Int)).toNat=k:=by omega
    have hck:=hc k (by omega);have htk:=ht k hk;rw[e0];refine⟨⟨by omega,hb⟩,show((BV c k).n+(c k).n)*24<=140737488355328 by omega,jK,k+1,by omega,rfl,rz,rz,⟨rfl,fun i hi=>?_⟩,by omega,by omega⟩;unfold AH
    by_cases h:i<(BV c k).n
    ·have w : (BV c (k+1)).g i = (BV c k).g i :=by
      show(bif decide (i<(BV c k).n)then _ else _)=_;rw[decide_eq_true h];rfl
     rw[if_pos h,w]
    ·have w : (BV c (k+1)).g i = (c k).g (i-(BV c k).n):=by
      show(bif decide (i<(BV c k).n)then _ else _)=_;rw[decide_eq_false h];rfl
     rw[if_neg h,w]
   ·have hb:¬ (k:Int)<3:=of_decide_eq_false hge;obtain rfl:k=3:=by omega
    exact⟨(0:Nat),rz,trivial⟩)
theorem Acf:Az prog 138 bR:=G5 func138 (c:=Ae f138) (by kernel_rfl) mixed (fun args p q n g hs hp=>by
 unfold bQ at hs;split at hs
 ·cases hs;exact⟨_,_,Ace _ hp.2,(.p (AbG hp.1) .nil),⟨show Aa prog _ from(Aa.cons Aca Acb Aa.nil),rfl,nz⟩⟩
 ·cases hs)
theorem Acg:An prog 138:=fun _ _=>by kernel_rfl
abbrev IL:Mk:={ T:=(L.Sq L.Pt)×(L.Sq Int)×(Int)×(Nat)×(Nat),U:=Nat,args:=fun t=>(fun l r bite a b=>[.p (.int .i64 (a:Int)),.p (.int .i64 (b:Int))] ++ [.loc 1000 0,.p (.ref [(.sl 2 l.n (fun i=>[.int .i64 (l.g i).x,.int .i64 (l.g i).y]))] 0),.p (.ref [(.sl 1 r.n (fun i=>[.int .i64 ((r.g i))]))] 0),.p (.ref [.int .i64 bite] 0),.loc 1001 0]) t.1 t.2.1 t.2.2.1 t.2.2.2.1 t.2.2.2.2,lkeys:=[1000,1001,1002],keys:=[],lent:=fun t=>(fun l r bite a b=>[(1000,.blk 198 [.mapv 1002]),(1001,.blk 199 [.cl 137 [.loc 1000 0,.p (.ref [(.sl 2 l.n (fun i=>[.int .i64 (l.g i).x,.int .i64 (l.g i).y]))] 0),.p (.ref [(.sl 1 r.n (fun i=>[.int .i64 ((r.g i))]))] 0),.p (.ref [.int .i64 bite] 0),.loc 1001 0]]),(1002,.ms 200 4 (CU l r bite))]) t.1 t.2.1 t.2.2.1 t.2.2.2.1 t.2.2.2.2,pre:=fun t=>(fun l r bite a b=>EE l r bite/\a<b/\b<r.n) t.1 t.2.1 t.2.2.1 t.2.2.2.1 t.2.2.2.2,post:=fun t u=>(fun l r bite a b=>fun uu=>True) t.1 t.2.1 t.2.2.1 t.2.2.2.1 t.2.2.2.2 u,lent':=fun t u=>(fun l r bite a b=>fun uu=>[(1000,.blk 198 [.mapv 1002]),(1001,.blk 199 [.cl 137 [.loc 1000 0,.p (.ref [(.sl 2 l.n (fun i=>[.int .i64 (l.g i).x,.int .i64 (l.g i).y]))] 0),.p (.ref [(.sl 1 r.n (fun i=>[.int .i64 ((r.g i))]))] 0),.p (.ref [.int .i64 bite] 0),.loc 1001 0]]),(1002,.ms 200 4 (CU l r bite))]) t.1 t.2.1 t.2.2.1 t.2.2.2.1 t.2.2.2.2 u,own:=fun t u=>(fun l r bite a b=>fun uu=>[]) t.1 t.2.1 t.2.2.1 t.2.2.2.1 t.2.2.2.2 u,res:=fun t u=>(fun l r bite a b=>fun uu=>.p (.tup [.sl 3 (AU (Bn l r bite a b)).n (fun i=>[.int .i64 ((AU (Bn l r bite a b)).g i).a,.int .i64 ((AU (Bn l r bite a b)).g i).b,.int .i64 ((AU (Bn l r bite a b)).g i).c]),.bool (Bm (Bn l r bite a b))])) t.1 t.2.1 t.2.2.1 t.2.2.2.1 t.2.2.2.2 u }
abbrev bS:IL.T->Nat:=fun t=>(fun l r bite a b=>b-a) t.1 t.2.1 t.2.2.1 t.2.2.2.1 t.2.2.2.2
theorem Ach (rn:Nat) (l:L.Sq L.Pt) (r:L.Sq Int) (bite:Int) (a:Nat) (b:Nat) (hp:IL.pre (l,r,bite,a,b)) (hmu:b-a<rn+1):vc prog ({ muts:=[],frz:=B9 [],specs:=AE [(44,Ru),(138,bR)],loops:=AT [(6,{ T:=Nat,keep:=[0,1,2,3,4,5,6],keepO:=[1000,1001,1002],chg:=fun i=>[(11,.p (.int .i64 ((a+1+i:Nat):Int)))],own:=fun _=>[],inv:=fun i=>i<=b-a-1/\∀j,j<i->CF l r bite a b (a+1+j)=none,mu:=fun i=>b-a-i })],iters:=BG [],rfs:=AQ [],nils:=B3 [],mks:=Ev [(137,Mk.lt IL bS rn)],ren:=fun k=>k }) (Ae f137) (DH f137 (IL.args (l,r,bite,a,b)) (IL.lent (l,r,bite,a,b))) (FB prog f137 IL (l,r,bite,a,b)):=
 @Eq.mpr _ (let I:=SV.int .i64;let T:=AhD;let A87:=(3:Nat);let A78:=(1001:Nat);let A77:=(1000:Nat);let A73:=(2:Nat);let A69:=nat_lit 2;let A62:=nat_lit 1001;let A61:=nat_lit 1000;let A60:=(↑l.n:Int);let A57:=(10000:Nat);let A52:=nat_lit 1;let A49:=(137:Nat);let A44:=(↑r.n:Int);let A43:=(1:Int);let A39:=(0:Int);let A25:=(0:Nat);let A24:=nat_lit 137;let A23:=(1:Nat);let A18:=(∀(a b:Int),CU l r bite a b->CU l r bite a b);let A15:=(Bn l r bite a b);let A40:=(AU A15);let A14:=(↑b:Int);let A68:=(A39<=r.g (T A14)/\r.g (T A14)<A60);let A56:=(A39<=A14/\A14<A44);let A34:=(r.g (T A14));let A71:=(l.g (T A34));let A13:=(↑a:Int);let A67:=(A39<=r.g (T A13)/\r.g (T A13)<A60);let A55:=(A39<=A13/\A13<A44);let A33:=(r.g (T A13));let A70:=(l.g (T A33));let A28:=(∃(g:Nat),A13+A43=(↑(a+A23+g):Int)/\g<=b-a-A23/\∀(j:Nat),j<g->CF l r bite a b (a+A23+j)=AhH);let A8:=[SV.sl A52 r.n fun(i:Nat)=>[I (r.g i)]];let A7:=nat_lit 0;let A6:=[SV.sl A69 l.n fun(i:Nat)=>[I (l.g i).x,I (l.g i).y]];let A1:=[EV.loc A61 A7,EV.p (SV.ref A6 A7),EV.p (SV.ref A8 A7),EV.p (SV.ref [I bite] A7),EV.loc A62 A7];Ab .i64 (A13+A43)/\(decide (A14=A13+A43)=true->∃(u:Nat),A40.n=A25/\true=Bm A15/\EV.cl A24 A1=EV.cl A49 A1/\A18/\True)/\(decide (A14=A13+A43)=false->(CU l r bite A13 A14->(true=true->∃(u:Nat),A40.n=A25/\false=Bm A15/\EV.cl A24 A1=EV.cl A49 A1/\A18/\True)/\(true=false->Ab .i64 (A13+A43)/\A28/\∀(g:Nat),let A9:=(↑(a+A23+g):Int);let A82:=(A39<=A9/\A9<A44);let A59:=(r.g (T A9));let A86:=[I A33,I A59,I A34];let A54:=(!DV A70 (l.g (T A59)) A71 bite);let A17:=(L.Sq.mk A52 fun(i:Nat)=>Bt.mk A33 A59 A34);(g<=b-a-A23/\∀(j:Nat),j<g->CF l r bite a b (a+A23+j)=AhH)->(decide (A9<A14)=true->A55/\A67/\A82/\(A39<=r.g (T A9)/\r.g (T A9)<A60)/\A56/\A68/\(Du A70/\Du (l.g (T A59))/\Du A71/\A39<=bite/\bite<=(4096:Int))/\(A54=true->Ab .i64 (A9+A43)/\∃(g':Nat),A9+A43=(↑(a+A23+g'):Int)/\A13=A13/\A14=A14/\0=0/\SV.ref A6 A7=SV.ref A6 A7/\SV.ref A8 A7=SV.ref A8 A7/\SV.ref [I bite] A7=SV.ref [I bite] A7/\0=0/\EV.cl A24 A1=EV.cl A24 A1/\A18/\(g'<=b-a-A23/\∀(j:Nat),j<g'->CF l r bite a b (a+A23+j)=AhH)/\b-a-g'<b-a-g)/\(A54=false->∃(t:L.Sq L.Pt×L.Sq Int×Int×Nat×Nat),let A72:=[I t.snd.2.1];let A85:=(SV.ref A72 A7);let A41:=(Bn t.1 t.2.1 t.snd.2.1 t.snd.snd.2.1 t.snd.snd.2.2);let A37:=[SV.sl A52 t.2.1.n fun(i:Nat)=>[I (t.2.1.g i)]];let A84:=(SV.ref A37 A7);let A26:=[SV.sl A69 t.1.n fun(i:Nat)=>[I (t.1.g i).x,I (t.1.g i).y]];let A83:=(SV.ref A26 A7);let A21:=[EV.loc A77 A7,EV.p A83,EV.p A84,EV.p A85,EV.loc A78 A7];let A4:=(AU A41);let A29:=(L.Sq.mk A4.n fun(i:Nat)=>A4.g i);A13=(↑t.snd.snd.2.1:Int)/\A9=(↑t.snd.snd.2.2:Int)/\0=A25/\SV.ref A6 A7=SV.ref [SV.sl A73 t.1.n fun(i:Nat)=>[I (t.1.g i).x,I (t.1.g i).y]] A25/\SV.ref A8 A7=SV.ref [SV.sl A23 t.2.1.n fun(i:Nat)=>[I (t.2.1.g i)]] A25/\SV.ref [I bite] A7=SV.ref A72 A25/\0=A25/\EV.cl A24 A1=EV.cl A49 [EV.loc A61 A7,EV.p A83,EV.p A84,EV.p A85,EV.loc A62 A7]/\(∀(a b:Int),CU l r bite a b->CU t.1 t.2.1 t.snd.2.1 a b)/\((EE t.1 t.2.1 t.snd.2.1/\t.snd.snd.2.1<t.snd.snd.2.2/\t.snd.snd.2.2<t.2.1.n)/\t.snd.snd.2.2-t.snd.snd.2.1<rn)/\∀(u:Nat),True->((!Bm A41)=true->Ab .i64 (A9+A43)/\∃(g':Nat),A9+A43=(↑(a+A23+g'):Int)/\A13=A13/\A14=A14/\0=0/\SV.ref A6 A7=SV.ref A6 A7/\SV.ref A8 A7=SV.ref A8 A7/\SV.ref [I bite] A7=SV.ref [I bite] A7/\0=0/\EV.cl A24 A21=EV.cl A24 A1/\(∀(a b:Int),CU t.1 t.2.1 t.snd.2.1 a b->CU l r bite a b)/\(g'<=b-a-A23/\∀(j:Nat),j<g'->CF l r bite a b (a+A23+j)=AhH)/\b-a-g'<b-a-g)/\((!Bm A41)=false->∃(t_1:L.Sq L.Pt×L.Sq Int×Int×Nat×Nat),let A74:=(SV.ref [I t_1.snd.2.1] A7);let A50:=(∀(a b:Int),CU t_1.1 t_1.2.1 t_1.snd.2.1 a b->CU l r bite a b);let A47:=(SV.ref [SV.sl A52 t_1.2.1.n fun(i:Nat)=>[I (t_1.2.1.g i)]] A7);let A45:=(SV.ref [SV.sl A69 t_1.1.n fun(i:Nat)=>[I (t_1.1.g i).x,I (t_1.1.g i).y]] A7);let A35:=(Bn t_1.1 t_1.2.1 t_1.snd.2.1 t_1.snd.snd.2.1 t_1.snd.snd.2.2);let A19:=[EV.loc A77 A7,EV.p A45,EV.p A47,EV.p A74,EV.loc A78 A7];let A2:=(AU A35);let A30:=(L.Sq.mk A2.n fun(i:Nat)=>A2.g i);let A79:=(D4 A17 A29 A30 A25);A9=(↑t_1.snd.snd.2.1:Int)/\A14=(↑t_1.snd.snd.2.2:Int)/\0=A25/\SV.ref A26 A7=SV.ref [SV.sl A73 t_1.1.n fun(i:Nat)=>[I (t_1.1.g i).x,I (t_1.1.g i).y]] A25/\SV.ref A37 A7=SV.ref [SV.sl A23 t_1.2.1.n fun(i:Nat)=>[I (t_1.2.1.g i)]] A25/\SV.ref A72 A7=SV.ref [I t_1.snd.2.1] A25/\0=A25/\EV.cl A24 A21=EV.cl A49 [EV.loc A61 A7,EV.p A45,EV.p A47,EV.p A74,EV.loc A62 A7]/\(∀(a b:Int),CU t.1 t.2.1 t.snd.2.1 a b->CU t_1.1 t_1.2.1 t_1.snd.2.1 a b)/\((EE t_1.1 t_1.2.1 t_1.snd.2.1/\t_1.snd.snd.2.1<t_1.snd.snd.2.2/\t_1.snd.snd.2.2<t_1.2.1.n)/\t_1.snd.snd.2.2-t_1.snd.snd.2.1<rn)/\∀(u:Nat),True->(Bm A35=true->A55/\A82/\A56/\(((∀(i:Nat),i<1->A86=A86)/\(∀(i:Nat),let A63:=[I (A4.g i).a,I (A4.g i).b,I (A4.g i).c];i<A4.n->A63=A63)/\∀(i:Nat),let A64:=[I (A2.g i).a,I (A2.g i).b,I (A2.g i).c];i<A2.n->A64=A64)/\(A23<=A79.n/\A79.n<=A57)/\(D4 A17 A29 A30 A23).n<=A57/\(D4 A17 A29 A30 A73).n<=A57)/\∀(t_2:Nat),True->∃(u:Nat),((BV (D4 A17 A29 A30) A87).n=A40.n/\∀(i:Nat),let A12:=(BV (D4 (L.Sq.mk A52 fun(i:Nat)=>Bt.mk A33 A59 A34) (L.Sq.mk A4.n fun(i:Nat)=>A4.g i) (L.Sq.mk A2.n fun(i:Nat)=>A2.g i)) A87);i<A12.n -> [I (A12.g i).a,I (A12.g i).b,I (A12.g i).c]= [I (A40.g i).a,I (A40.g i).b,I (A40.g i).c])/\true=Bm A15/\EV.cl A24 A19=EV.cl A49 A1/\A50/\True)/\(Bm A35=false->Ab .i64 (A9+A43)/\∃(g':Nat),A9+A43=(↑(a+A23+g'):Int)/\A13=A13/\A14=A14/\0=0/\SV.ref A6 A7=SV.ref A6 A7/\SV.ref A8 A7=SV.ref A8 A7/\SV.ref [I bite] A7=SV.ref [I bite] A7/\0=0/\EV.cl A24 A19=EV.cl A24 A1/\A50/\(g'<=b-a-A23/\∀(j:Nat),j<g'->CF l r bite a b (a+A23+j)=AhH)/\b-a-g'<b-a-g))))/\(decide (A9<A14)=false->true=true/\CU l r bite A13 A14/\∃(u:Nat),A40.n=A25/\false=Bm A15/\EV.cl A24 A1=EV.cl A49 A1/\A18/\True)))/\(false=true->∃(u:Nat),A40.n=A25/\false=Bm A15/\EV.cl A24 A1=EV.cl A49 A1/\A18/\True)/\(false=false->Ab .i64 (A13+A43)/\A28/\∀(g:Nat),let A10:=(↑(a+A23+g):Int);let A80:=(A39<=A10/\A10<A44);let A58:=(r.g (T A10));let A91:=[I A33,I A58,I A34];let A53:=(!DV A70 (l.g (T A58)) A71 bite);let A16:=(L.Sq.mk A52 fun(i:Nat)=>Bt.mk A33 A58 A34);(g<=b-a-A23/\∀(j:Nat),j<g->CF l r bite a b (a+A23+j)=AhH)->(decide (A10<A14)=true->A55/\A67/\A80/\(A39<=r.g (T A10)/\r.g (T A10)<A60)/\A56/\A68/\(Du A70/\Du (l.g (T A58))/\Du A71/\A39<=bite/\bite<=(4096:Int))/\(A53=true->Ab .i64 (A10+A43)/\∃(g':Nat),A10+A43=(↑(a+A23+g'):Int)/\A13=A13/\A14=A14/\0=0/\SV.ref A6 A7=SV.ref A6 A7/\SV.ref A8 A7=SV.ref A8 A7/\SV.ref [I bite] A7=SV.ref [I bite] A7/\0=0/\EV.cl A24 A1=EV.cl A24 A1/\A18/\(g'<=b-a-A23/\∀(j:Nat),j<g'->CF l r bite a b (a+A23+j)=AhH)/\b-a-g'<b-a-g)/\(A53=false->∃(t:L.Sq L.Pt×L.Sq Int×Int×Nat×Nat),let A75:=[I t.snd.2.1];let A90:=(SV.ref A75 A7);let A42:=(Bn t.1 t.2.1 t.snd.2.1 t.snd.snd.2.1 t.snd.snd.2.2);let A38:=[SV.sl A52 t.2.1.n fun(i:Nat)=>[I (t.2.1.g i)]];let A89:=(SV.ref A38 A7);let A27:=[SV.sl A69 t.1.n fun(i:Nat)=>[I (t.1.g i).x,I (t.1.g i).y]];let A88:=(SV.ref A27 A7);let A22:=[EV.loc A77 A7,EV.p A88,EV.p A89,EV.p A90,EV.loc A78 A7];let A5:=(AU A42);let A31:=(L.Sq.mk A5.n fun(i:Nat)=>A5.g i);A13=(↑t.snd.snd.2.1:Int)/\A10=(↑t.snd.snd.2.2:Int)/\0=A25/\SV.ref A6 A7=SV.ref [SV.sl A73 t.1.n fun(i:Nat)=>[I (t.1.g i).x,I (t.1.g i).y]] A25/\SV.ref A8 A7=SV.ref [SV.sl A23 t.2.1.n fun(i:Nat)=>[I (t.2.1.g i)]] A25/\SV.ref [I bite] A7=SV.ref A75 A25/\0=A25/\EV.cl A24 A1=EV.cl A49 [EV.loc A61 A7,EV.p A88,EV.p A89,EV.p A90,EV.loc A62 A7]/\(∀(a b:Int),CU l r bite a b->CU t.1 t.2.1 t.snd.2.1 a b)/\((EE t.1 t.2.1 t.snd.2.1/\t.snd.snd.2.1<t.snd.snd.2.2/\t.snd.snd.2.2<t.2.1.n)/\t.snd.snd.2.2-t.snd.snd.2.1<rn)/\∀(u:Nat),True->((!Bm A42)=true->Ab .i64 (A10+A43)/\∃(g':Nat),A10+A43=(↑(a+A23+g'):Int)/\A13=A13/\A14=A14/\0=0/\SV.ref A6 A7=SV.ref A6 A7/\SV.ref A8 A7=SV.ref A8 A7/\SV.ref [I bite] A7=SV.ref [I bite] A7/\0=0/\EV.cl A24 A22=EV.cl A24 A1/\(∀(a b:Int),CU t.1 t.2.1 t.snd.2.1 a b->CU l r bite a b)/\(g'<=b-a-A23/\∀(j:Nat),j<g'->CF l r bite a b (a+A23+j)=AhH)/\b-a-g'<b-a-g)/\((!Bm A42)=false->∃(t_1:L.Sq L.Pt×L.Sq Int×Int×Nat×Nat),let A76:=(SV.ref [I t_1.snd.2.1] A7);let A51:=(∀(a b:Int),CU t_1.1 t_1.2.1 t_1.snd.2.1 a b->CU l r bite a b);let A48:=(SV.ref [SV.sl A52 t_1.2.1.n fun(i:Nat)=>[I (t_1.2.1.g i)]] A7);let A46:=(SV.ref [SV.sl A69 t_1.1.n fun(i:Nat)=>[I (t_1.1.g i).x,I (t_1.1.g i).y]] A7);let A36:=(Bn t_1.1 t_1.2.1 t_1.snd.2.1 t_1.snd.snd.2.1 t_1.snd.snd.2.2);let A20:=[EV.loc A77 A7,EV.p A46,EV.p A48,EV.p A76,EV.loc A78 A7];let A3:=(AU A36);let A32:=(L.Sq.mk A3.n fun(i:Nat)=>A3.g i);let A81:=(D4 A16 A31 A32 A25);A10=(↑t_1.snd.snd.2.1:Int)/\A14=(↑t_1.snd.snd.2.2:Int)/\0=A25/\SV.ref A27 A7=SV.ref [SV.sl A73 t_1.1.n fun(i:Nat)=>[I (t_1.1.g i).x,I (t_1.1.g i).y]] A25/\SV.ref A38 A7=SV.ref [SV.sl A23 t_1.2.1.n fun(i:Nat)=>[I (t_1.2.1.g i)]] A25/\SV.ref A75 A7=SV.ref [I t_1.snd.2.1] A25/\0=A25/\EV.cl A24 A22=EV.cl A49 [EV.loc A61 A7,EV.p A46,EV.p A48,EV.p A76,EV.loc A62 A7]/\(∀(a b:Int),CU t.1 t.2.1 t.snd.2.1 a b->CU t_1.1 t_1.2.1 t_1.snd.2.1 a b)/\((EE t_1.1 t_1.2.1 t_1.snd.2.1/\t_1.snd.snd.2.1<t_1.snd.snd.2.2/\t_1.snd.snd.2.2<t_1.2.1.n)/\t_1.snd.snd.2.2-t_1.snd.snd.2.1<rn)/\∀(u:Nat),True->(Bm A36=true->A55/\A80/\A56/\(((∀(i:Nat),i<1->A91=A91)/\(∀(i:Nat),let A65:=[I (A5.g i).a,I (A5.g i).b,I (A5.g i).c];i<A5.n->A65=A65)/\∀(i:Nat),let A66:=[I (A3.g i).a,I (A3.g i).b,I (A3.g i).c];i<A3.n->A66=A66)/\(A23<=A81.n/\A81.n<=A57)/\(D4 A16 A31 A32 A23).n<=A57/\(D4 A16 A31 A32 A73).n<=A57)/\∀(t_2:Nat),True->∃(u:Nat),((BV (D4 A16 A31 A32) A87).n=A40.n/\∀(i:Nat),let A11:=(BV (D4 (L.Sq.mk A52 fun(i:Nat)=>Bt.mk A33 A58 A34) (L.Sq.mk A5.n fun(i:Nat)=>A5.g i) (L.Sq.mk A3.n fun(i:Nat)=>A3.g i)) A87);i<A11.n -> [I (A11.g i).a,I (A11.g i).b,I (A11.g i).c]= [I (A40.g i).a,I (A40.g i).b,I (A40.g i).c])/\true=Bm A15/\EV.cl A24 A20=EV.cl A49 A1/\A51/\True)/\(Bm A36=false->Ab .i64 (A10+A43)/\∃(g':Nat),A10+A43=(↑(a+A23+g'):Int)/\A13=A13/\A14=A14/\0=0/\SV.ref A6 A7=SV.ref A6 A7/\SV.ref A8 A7=SV.ref A8 A7/\SV.ref [I bite] A7=SV.ref [I bite] A7/\0=0/\EV.cl A24 A20=EV.cl A24 A1/\A51/\(g'<=b-a-A23/\∀(j:Nat),j<g'->CF l r bite a b (a+A23+j)=AhH)/\b-a-g'<b-a-g))))/\(decide (A10<A14)=false->true=true/\CU l r bite A13 A14/\∃(u:Nat),A40.n=A25/\false=Bm A15/\EV.cl A24 A1=EV.cl A49 A1/\A18/\True)))) (by kernel_rfl) (by
 conv=>zeta
 have hp:EE l r bite/\a<b/\b<r.n:=hp;have hmu:b-a<rn+1:=hmu;obtain⟨hok,hab,hbr⟩:=hp;obtain⟨⟨hln,hrn,q0,q1⟩,hri,hli⟩:=id hok;have ea:((a:Int)).toNat=a:=Ah7 a;have eb:((b:Int)).toNat=b:=Ah7 b;have no:∀x y,CU l r bite x y->CU l r bite x y:=fun _ _ h=>h;refine⟨jK,fun h1=>?_,fun h1=>⟨fun hn=>⟨fun _=>?_,fun h=>(by cases h)⟩,(fun h=>by cases h),fun _=>⟨jK,⟨(0:Nat),by omega,rH _,fun j hj=>absurd hj (oE _)⟩,fun g hg=>⟨fun hc=>?_,fun hc=>?_⟩⟩⟩⟩
 ·have h1:(b:Int)=(a:Int)+1:=of_decide_eq_true h1;rw[Rt l r bite (show b=a+1 by omega) hbr];exact⟨(0:Nat),rfl,rfl,rfl,no,trivial⟩
 ·have e : Bn l r bite a b = none :=by
   have:=hn;unfold CU at this;rwa[ea,eb]at this
  rw[e];exact⟨(0:Nat),rfl,rfl,rfl,no,trivial⟩
 ·have h1:¬ (b:Int)=(a:Int)+1:=of_decide_eq_false h1;have hc:((a+1+g:Nat):Int)<(b:Int):=of_decide_eq_true hc;have hm:a+1+g<b:=by omega
  obtain⟨hg1,hg2⟩:=hg;have em:(((a+1+g:Nat):Int)).toNat=a+1+g:=Ah7 _;rw[ea,eb,em];have ra:=hri a (by omega);have rm:=hri (a+1+g) (by omega);have rb:=hri b hbr;have cst:((a+1+g:Nat):Int)+1=((a+1+(g+1):Nat):Int):=by omega
  have w1:Ab .i64 (((a+1+g:Nat):Int)+1):=jK;have w2:g+1<=b-a-1:=by omega
  have w3:b-a-(g+1)<b-a-g:=by omega
  have nx:CF l r bite a b (a+1+g)=none->∀j,j<g+1->CF l r bite a b (a+1+j)=none:=fun h j hj=>by
   rcases Ah6.1 hj with h'|rfl
   ·exact hg2 j h'
   ·exact h
  have i1:0<=(a:Int)/\(a:Int)<(r.n:Int):=by omega
  have i2:0<=((a+1+g:Nat):Int)/\((a+1+g:Nat):Int)<(r.n:Int):=by omega
  have i3:0<=(b:Int)/\(b:Int)<(r.n:Int):=by omega
  refine⟨i1,ra,i2,rm,i3,rb,⟨hli _ (by omega),hli _ (by omega),hli _ (by omega),q0,q1⟩,fun hl=>?_,fun hl=>?_⟩
  ·have hl:Fw l r bite a (a+1+g) b=false:=CC hl;have dn:CF l r bite a b (a+1+g)=none:=by unfold CF E2;rw[hl];rfl
   exact⟨w1,g+1,cst,rfl,rfl,rfl,rfl,rfl,rfl,rfl,rfl,no,⟨w2,nx dn⟩,w3⟩
  have hl:Fw l r bite a (a+1+g) b=true:=B5 hl;have m1:a<a+1+g:=by omega
  have m2:a+1+g<r.n:=by omega
  have m3:a+1+g-a<rn:=by omega
  have m4:b-(a+1+g)<rn:=by omega
  refine⟨(l,r,bite,a,a+1+g),rfl,rfl,rfl,rfl,rfl,rfl,rfl,rfl,no,⟨⟨hok,m1,m2⟩,m3⟩,fun u _=>⟨fun h2=>?_,fun h2=>?_⟩⟩
  ·have h2:Bm (Bn l r bite a (a+1+g))=false:=CC h2;have dn:CF l r bite a b (a+1+g)=none:=by
    unfold CF E2;rw[hl];cases hx:Bn l r bite a (a+1+g)with
    |none=>rfl
    |some x=>rw[hx]at h2;cases h2
   exact⟨w1,g+1,cst,rfl,rfl,rfl,rfl,rfl,rfl,rfl,rfl,no,⟨w2,nx dn⟩,w3⟩
  have h2:Bm (Bn l r bite a (a+1+g))=true:=B5 h2;refine⟨(l,r,bite,a+1+g,b),rfl,rfl,rfl,rfl,rfl,rfl,rfl,rfl,no,⟨⟨hok,hm,hbr⟩,m4⟩,fun u2 _=>⟨fun h3=>?_,fun h3=>?_⟩⟩
  ·have h3:Bm (Bn l r bite (a+1+g) b)=true:=h3;have o1:=M8 (l:=l) (r:=r) (bite:=bite) m1;have o2:=M8 (l:=l) (r:=r) (bite:=bite) hm;have o3:(AU (Bn l r bite a (a+1+g))).n<=10000:=by omega
   have o4:(AU (Bn l r bite (a+1+g) b)).n<=10000:=by omega
   have key:((BV (D4 ⟨1,fun _=>⟨r.g a,r.g (a+1+g),r.g b⟩⟩ (AU (Bn l r bite a (a+1+g))) (AU (Bn l r bite (a+1+g) b))) 3).n=(AU (Bn l r bite a b)).n/\∀i,i<(BV (D4 ⟨1,fun _=>⟨r.g a,r.g (a+1+g),r.g b⟩⟩ (AU (Bn l r bite a (a+1+g))) (AU (Bn l r bite (a+1+g) b))) 3).n->(BV (D4 ⟨1,fun _=>⟨r.g a,r.g (a+1+g),r.g b⟩⟩ (AU (Bn l r bite a (a+1+g))) (AU (Bn l r bite (a+1+g) b))) 3).g i=(AU (Bn l r bite a b)).g i)/\Bm (Bn l r bite a b)=true:=by
    cases hx:Bn l r bite a (a+1+g)with
    |none=>rw[hx]at h2;cases h2
    |some x =>
      cases hy:Bn l r bite (a+1+g) b with
      |none=>rw[hy]at h3;cases h3
      |some y =>
        have e:Bn l r bite a b=some (⟨r.g a,r.g (a+1+g),r.g b⟩::(x++y)):=by
         rw[M7 l r bite hab (by omega) hbr];refine Rr (k:=g) ?_ hg2 (by omega);unfold CF E2;rw[hl,hx,hy];rfl
        rw[e];exact⟨AbK _ x y,rfl⟩
   exact⟨i1,i2,i3,⟨⟨zr,zr,fun _ _=>rfl⟩,⟨⟨by show 1<=1;omega,by show 1<=10000;omega⟩,o3,o4⟩⟩,fun _ _=>⟨(0:Nat),⟨key.1.1,fun i hi=>congrArg IJ (key.1.2 i hi)⟩,key.2.symm,rfl,no,trivial⟩⟩
  ·have h3:Bm (Bn l r bite (a+1+g) b)=false:=h3;have dn:CF l r bite a b (a+1+g)=none:=by
    unfold CF E2;rw[hl];cases hx:Bn l r bite a (a+1+g)with
    |none=>rfl
    |some x =>
      cases hy:Bn l r bite (a+1+g) b with
      |none=>rfl
      |some y=>rw[hy]at h3;cases h3
   exact⟨w1,g+1,cst,rfl,rfl,rfl,rfl,rfl,rfl,rfl,rfl,no,⟨w2,nx dn⟩,w3⟩
 ·have h1:¬ (b:Int)=(a:Int)+1:=of_decide_eq_false h1;have hc:¬ ((a+1+g:Nat):Int)<(b:Int):=of_decide_eq_false hc;obtain⟨hg1,hg2⟩:=hg;obtain rfl:g=b-a-1:=by omega
  have e:Bn l r bite a b=none:=by
   rw[M7 l r bite hab (by omega) hbr];exact Ov hg2
  have e2:CU l r bite a b:=by unfold CU;rw[ea,eb];exact e
  rw[e];exact⟨rfl,e2,(0:Nat),rfl,rfl,rfl,no,trivial⟩)
theorem bT:An prog 137:=fun _ _=>by kernel_rfl
theorem Aci:D9 prog 137 IL:=Mj bS ⟨fun t=>rfl,fun t u=>rfl,fun t u=>rfl,fun t u=>⟨rfl,rfl,rfl⟩,.inl rfl,fun k h=>(by cases h)⟩ (fun rn ih=>FO (n:=7) func137 (c:=Ae f137) (by kernel_rfl) mixed ⟨fun t=>rfl,fun t=>rfl,fun t u=>rfl,fun t u=>rfl,fun t u=>rfl,fun t u=>⟨rfl,rfl⟩,by kernel_rfl,by kernel_rfl⟩ (fun⟨l,r,bite,a,b⟩ hp=>⟨_,Ach rn l r bite a b hp.1 hp.2,⟨show Aa prog _ from(Aa.cons aP aQ (Aa.cons Acf Acg Aa.nil)),rfl,⟨show Ac prog _ from Ac.nil,⟨AB.no1 (fun _=>rfl),⟨show Bx prog _ from(Bx.cons ih bT Bx.nil),FamsOk.none (fun _=>rfl)⟩⟩⟩⟩⟩))
abbrev KM:Mk:={ T:=(L.Sq L.Pt)×(L.Sq Int)×(Int),U:=Nat,args:=fun t=>(fun l r bite=>[.p ((.sl 2 l.n (fun i=>[.int .i64 (l.g i).x,.int .i64 (l.g i).y]))),.p ((.sl 1 r.n (fun i=>[.int .i64 ((r.g i))]))),.p (.int .i64 bite)]) t.1 t.2.1 t.2.2,lkeys:=[],keys:=[],lent:=fun t=>(fun l r bite=>[]) t.1 t.2.1 t.2.2,pre:=fun t=>(fun l r bite=>EE l r bite/\2<=r.n) t.1 t.2.1 t.2.2,post:=fun t u=>(fun l r bite=>fun uu=>True) t.1 t.2.1 t.2.2 u,lent':=fun t u=>(fun l r bite=>fun uu=>[]) t.1 t.2.1 t.2.2 u,own:=fun t u=>(fun l r bite=>fun uu=>[]) t.1 t.2.1 t.2.2 u,res:=fun t u=>(fun l r bite=>fun uu=>.p (.tup [.sl 3 (AU (FV l r bite)).n (fun i=>[.int .i64 ((AU (FV l r bite)).g i).a,.int .i64 ((AU (FV l r bite)).g i).b,.int .i64 ((AU (FV l r bite)).g i).c]),.bool (Bm (FV l r bite))])) t.1 t.2.1 t.2.2 u }
theorem Acj (l:L.Sq L.Pt) (r:L.Sq Int) (bite:Int) (hp:KM.pre (l,r,bite)):vc prog ({ cC with muts:=[8,9],mks:=Ev [(137,IL)],ren:=fun k=>if k=1000 then 8 else if k=1001 then 9 else if k=1002 then 10 else k,mss:=SD [(10,CU l r bite)] }) (Ae f88) (DH f88 (KM.args (l,r,bite)) (KM.lent (l,r,bite))) (FB prog f88 KM (l,r,bite)):=
 @Eq.mpr _ (let I:=SV.int .i64;let A7:=(0:Nat);let A5:=[SV.sl 1 r.n fun(i:Nat)=>[I (r.g i)]];let A4:=(AU (FV l r bite));let A3:=[SV.sl 2 l.n fun(i:Nat)=>[I (l.g i).x,I (l.g i).y]];let A2:=nat_lit 0;Ab .i64 ((↑r.n:Int)-(1:Int))/\∃(t:L.Sq L.Pt×L.Sq Int×Int×Nat×Nat),let A1:=(Bn t.1 t.2.1 t.snd.2.1 t.snd.snd.2.1 t.snd.snd.2.2);let A6:=(AU A1);0=(↑t.snd.snd.2.1:Int)/\(↑r.n:Int)-1=(↑t.snd.snd.2.2:Int)/\0=A7/\SV.ref A3 A2=SV.ref [SV.sl 2 t.1.n fun(i:Nat)=>[I (t.1.g i).x,I (t.1.g i).y]] A7/\SV.ref A5 A2=SV.ref [SV.sl 1 t.2.1.n fun(i:Nat)=>[I (t.2.1.g i)]] A7/\SV.ref [I bite] A2=SV.ref [I t.snd.2.1] A7/\0=A7/\EV.cl 137 [EV.loc 8 A2,EV.p (SV.ref A3 A2),EV.p (SV.ref A5 A2),EV.p (SV.ref [I bite] A2),EV.loc 9 A2]=EV.cl 137 [EV.loc 8 A2,EV.p (SV.ref [SV.sl 2 t.1.n fun(i:Nat)=>[I (t.1.g i).x,I (t.1.g i).y]] A2),EV.p (SV.ref [SV.sl 1 t.2.1.n fun(i:Nat)=>[I (t.2.1.g i)]] A2),EV.p (SV.ref [I t.snd.2.1] A2),EV.loc 9 A2]/\(∀(a b:Int),CU l r bite a b->CU t.1 t.2.1 t.snd.2.1 a b)/\(EE t.1 t.2.1 t.snd.2.1/\t.snd.snd.2.1<t.snd.snd.2.2/\t.snd.snd.2.2<t.2.1.n)/\∀(u:Nat),True->∃(u:Nat),(A6.n=A4.n/\∀(i:Nat),i<A6.n -> [I (A6.g i).a,I (A6.g i).b,I (A6.g i).c]= [I (A4.g i).a,I (A4.g i).b,I (A4.g i).c])/\Bm A1=Bm (FV l r bite)/\True) (by kernel_rfl) (by
 conv=>zeta
 have hp:EE l r bite/\2<=r.n:=hp;obtain⟨hok,h2⟩:=hp;obtain⟨⟨hln,hrn,q0,q1⟩,hri,hli⟩:=id hok;exact⟨jK,(l,r,bite,0,r.n-1),rfl,by show(r.n:Int)-1=((r.n-1:Nat):Int);omega,rfl,rfl,rfl,rfl,rfl,rfl,fun _ _ h=>h,⟨hok,by show 0<r.n-1;omega,by show r.n-1<r.n;omega⟩,fun _ _=>⟨(0:Nat),rz,rfl,trivial⟩⟩)
theorem Ack:An prog 88:=fun _ _=>by kernel_rfl
theorem Acl:D9 prog 88 KM:=FO (n:=3) func88 (c:=Ae f88) (by kernel_rfl) mixed ⟨fun t=>rfl,fun t=>rfl,fun t u=>rfl,fun t u=>rfl,fun t u=>rfl,fun t u=>⟨rfl,rfl⟩,by kernel_rfl,by kernel_rfl⟩ (fun⟨l,r,bite⟩ hp=>⟨_,Acj l r bite hp,⟨show Aa prog _ from Aa.nil,rfl,⟨show Ac prog _ from Ac.nil,⟨AB.no1 (fun _=>rfl),⟨show Bx prog _ from(Bx.cons Aci bT Bx.nil),FamsOk.none (fun _=>rfl)⟩⟩⟩⟩⟩)
def Dv (a b:AG):Bool:=decide (a.fr=b.fr)&&(decide (a.to_=b.to_)&&decide (a.area=b.area))
def Oy (l:L.Sq AG) (v:AG):Int:=BQ l.n (fun i=>Dv v (l.g i))
def Hg (l:L.Sq L.Pt) (p:AG):Bool:=BH (Eg l) fun i=>Dv p ((Cz l).g i)
def Dw (l:L.Sq L.Pt) (p:AG) (bite:Int):Int:=bif (bif (bif !decide ((bif Am l then(0:Int)else 1)=0)then true else !AI bite 0 4096)then true else !Hg l p)then 1 else bif !Bm (BM l p bite)then 51 else 0
def Dg (l:L.Sq L.Pt) (p:AG) (bite:Int):L.Sq Bt:=AU (bif decide (Dw l p bite=0)then BM l p bite else none)
def KN (l:L.Sq L.Pt):Prop:=∀i,i<(Cz l).n->Df l.n ((Cz l).g i)
theorem M9 {a b:AG} (h:Dv a b=true):a=b:=by
 unfold Dv at h;simp only[pR,decide_eq_true_eq]at h;cases a;cases b;simp only[AG.mk.injEq];exact h
theorem Acm {α:Type} {n:Nat} {f u:Nat->α} {q:α->Bool} (h:((Ah5 n).map u).Perm ((Ah5 n).map f)):BH n (fun i=>q (u i))=BH n (fun i=>q (f i)):=by
 rw[Ai6,EO,EO];have k:∀g:Nat->α,(∃i,i<n/\q (g i)=true)↔∃x,x∈(Ah5 n).map g/\q x=true:=fun g=>by
  constructor
  ·rintro⟨i,hi,h⟩;exact⟨g i,Ah2.2 ⟨i,AhB.2 hi,rfl⟩,h⟩
  ·rintro⟨x,hx,h⟩;obtain⟨i,hi,rfl⟩:=Ah2.1 hx;exact⟨i,AhB.1 hi,h⟩
 rw[k,k];exact⟨fun⟨x,hx,h1⟩=>⟨x,h.mem_iff.1 hx,h1⟩,fun⟨x,hx,h1⟩=>⟨x,h.mem_iff.2 hx,h1⟩⟩
theorem bU {l:L.Sq L.Pt} {p:AG} {bite:Int} (hv:Am l=true) (hk:Df l.n p) (h0:0<=bite) (h1:bite<=4096):EE l (Fx l p) bite/\2<=(Fx l p).n:=by
 obtain⟨n3,n24,_,_⟩:=CZ hv;obtain⟨d1,d2,f0,f1,fr,fe,fs⟩:=JD hk;refine⟨⟨⟨by omega,by show Bb l.n p+1<=1000;omega,h0,h1⟩,fun i hi=>fr i (by have hi:i<Bb l.n p+1:=hi;omega),fun i hi=>FF.1 (Ri hv i hi)⟩,by show 2<=Bb l.n p+1;omega⟩
theorem Acn {l:L.Sq L.Pt} (hv:Am l=true):(Cz l).n<=1000:=by
 obtain⟨n3,n24,_,_⟩:=CZ hv;have cl:∀m:L.Sq L.Pt,(B2 m).n<=m.n:=fun m=>by
  have:=J5 m m.n;show(B6 m m.n).length-1<=m.n;omega
 have c1:(B2 (AA l)).n<=l.n:=cl (AA l);have c2:(B2 (DK (AA l))).n<=l.n:=cl (DK (AA l));have h1:(Av l).n<=1000:=by
  show 0+(B2 (AA l)).n+(B2 (DK (AA l))).n<=1000;omega
 have h2:(Cz l).n<=(Av l).n:=H0;omega
def bV (l:L.Sq AG) (v:AG):Prop:=l.n<=1000000
def bW (l:L.Sq AG) (v:AG):SV:=.int .i64 (Oy l v)
def bX:List EV->Option (Prop×SV)
 |[.p (.sl 3 l_n l_g),.p (.agg [.int .i64 v_fr,.int .i64 v_to_,.int .i64 v_area])]=>some ((∀i,i<l_n->l_g i = [.int .i64 (H4 (l_g i)).fr,.int .i64 (H4 (l_g i)).to_,.int .i64 (H4 (l_g i)).area])/\bV ⟨l_n,fun i=>H4 (l_g i)⟩ (⟨v_fr,v_to_,v_area⟩:AG),bW ⟨l_n,fun i=>H4 (l_g i)⟩ (⟨v_fr,v_to_,v_area⟩:AG))
 |_=>none
abbrev bY:SE.Spec:=(AM bX)
def Aco:Aj:={ muts:=[],frz:=B9 [],specs:=AE [],loops:=fun _=>none,iters:=BG [],rfs:=AQ [],nils:=B3 [] }
theorem Acp (l:L.Sq AG) (v:AG) (hp:bV l v):vc prog ({ Aco with loops:=AT [(2,{ T:=Nat,keep:=[0,3,6,7],keepO:=[],chg:=fun i=>[(8,.p (.int .i64 i))],own:=fun _=>[],inv:=fun i=>i<=l.n/\(∀j,j<i->Dv v (l.g j)=false),mu:=fun i=>l.n-i })]}) (Ae f86) (Ao f86 [.p (.sl 3 l.n (fun i=>[.int .i64 (l.g i).fr,.int .i64 (l.g i).to_,.int .i64 (l.g i).area])),.p (.agg [.int .i64 v.fr,.int .i64 v.to_,.int .i64 v.area])]) (AL prog f86 (bW l v)):=
 @Eq.mpr _ (let I:=SV.int .i64;let T:=AhD;let A6:=[I v.fr,I v.to_,I v.area];let A5:=(↑l.n:Int);let A2:=(l.n=l.n/\∀(i:Nat),let A4:=[I (l.g i).fr,I (l.g i).to_,I (l.g i).area];i<l.n->A4=A4);(∃(g:Nat),0=(↑g:Int)/\g<=l.n/\∀(j:Nat),j<g->Dv v (l.g j)=false)/\∀(g:Nat),let A3:=(↑g:Int);let A7:=(l.g (T A3));let A1:=(decide (v.fr=A7.fr)&&(decide (v.to_=A7.to_)&&decide (v.area=A7.area)));(g<=l.n/\∀(j:Nat),j<g->Dv v (l.g j)=false)->(decide (A3<A5)=true->(0<=A3/\A3<A5)/\(A1=true->A3=Oy l v)/\(A1=false->Ab .i64 (A3+(1:Int))/\∃(g':Nat),A3+1=(↑g':Int)/\A5=A5/\A2/\SV.ref A6 0=SV.ref A6 0/\A2/\(g'<=l.n/\∀(j:Nat),j<g'->Dv v (l.g j)=false)/\l.n-g'<l.n-g))/\(decide (A3<A5)=false->(-1:Int)=Oy l v)) (by kernel_rfl) (by
 conv=>zeta
 have hn:l.n<=1000000:=hp;refine⟨⟨(0:Nat),rfl,rH _,fun j hj=>absurd hj (oE _)⟩,fun g hg=>⟨fun hlt=>?_,fun hge=>?_⟩⟩
 ·have hb:(g:Int)<(l.n:Int):=of_decide_eq_true hlt;have e0:((g:Int)).toNat=g:=by omega
  rw[e0];refine⟨⟨by omega,hb⟩,fun h=>?_,fun h=>?_⟩
  ·have h:Dv v (l.g g)=true:=h;exact(J0 (f:=fun i=>Dv v (l.g i)) hg.2 h (by omega)).symm
  ·have h:Dv v (l.g g)=false:=h;exact⟨jK,g+1,by omega,rfl,rz,rfl,rz,⟨by omega,fun j hj=>by
    rcases Ah6.1 hj with h'|rfl
    ·exact hg.2 j h'
    ·exact h⟩,by omega⟩
 ·have hb:¬ (g:Int)<(l.n:Int):=of_decide_eq_false hge;exact(IB (f:=fun i=>Dv v (l.g i)) (fun j hj=>hg.2 j (by omega))).symm)
theorem Acq:Az prog 86 bY:=AN func86 (c:=Ae f86) (by kernel_rfl) mixed (fun _ _ _ hs hp=>by
 unfold bX at hs;split at hs
 ·cases hs;exact⟨_,_,Acp _ _ hp.2,(.p (.sl hp.1) (.same _ .nil)),⟨show Aa prog _ from Aa.nil,rfl,nz⟩⟩
 ·cases hs)
theorem Acr:An prog 86:=fun _ _=>by kernel_rfl
def bZ (l:L.Sq AG) (v:AG):Prop:=l.n<=1000000
def cA (l:L.Sq AG) (v:AG):SV:=.bool (BH l.n fun i=>Dv v (l.g i))
def cB:List EV->Option (Prop×SV)
 |[.p (.sl 3 l_n l_g),.p (.agg [.int .i64 v_fr,.int .i64 v_to_,.int .i64 v_area])]=>some ((∀i,i<l_n->l_g i = [.int .i64 (H4 (l_g i)).fr,.int .i64 (H4 (l_g i)).to_,.int .i64 (H4 (l_g i)).area])/\bZ ⟨l_n,fun i=>H4 (l_g i)⟩ (⟨v_fr,v_to_,v_area⟩:AG),cA ⟨l_n,fun i=>H4 (l_g i)⟩ (⟨v_fr,v_to_,v_area⟩:AG))
 |_=>none
abbrev cD:SE.Spec:=(AM cB)
def Acs:Aj:={ cC with specs:=AE [(86,bY)] }
theorem Acu (l:L.Sq AG) (v:AG) (hp:bZ l v):vc prog (Acs) (Ae f41) (Ao f41 [.p (.sl 3 l.n (fun i=>[.int .i64 (l.g i).fr,.int .i64 (l.g i).to_,.int .i64 (l.g i).area])),.p (.agg [.int .i64 v.fr,.int .i64 v.to_,.int .i64 v.area])]) (AL prog f41 (cA l v)):=
 @Eq.mpr _ (let I:=SV.int .i64;((∀(i:Nat),let A1:=[I (l.g i).fr,I (l.g i).to_,I (l.g i).area];i<l.n->A1=A1)/\l.n<=1000000)/\decide ((0:Int)<=Oy (L.Sq.mk l.n fun(i:Nat)=>l.g i) v)=BH l.n fun(i:Nat)=>Dv v (l.g i)) (by kernel_rfl) (by
 conv=>zeta
 refine⟨⟨zr,hp⟩,Mq⟩)
theorem Acv:Az prog 41 cD:=AN func41 (c:=Ae f41) (by kernel_rfl) mixed (fun _ _ _ hs hp=>by
 unfold cB at hs;split at hs
 ·cases hs;exact⟨_,_,Acu _ _ hp.2,(.p (.sl hp.1) (.same _ .nil)),⟨show Aa prog _ from(Aa.cons Acq Acr Aa.nil),rfl,nz⟩⟩
 ·cases hs)
theorem Acw:An prog 41:=fun _ _=>by kernel_rfl
def cE (l:L.Sq L.Pt) (p:AG) (b:Int):Prop:=Am l=true/\Df l.n p/\0<=b/\b<=4096
def cF (l:L.Sq L.Pt) (p:AG) (b:Int):SV:=.tup [.sl 3 (AU (BM l p b)).n (fun i=>[.int .i64 ((AU (BM l p b)).g i).a,.int .i64 ((AU (BM l p b)).g i).b,.int .i64 ((AU (BM l p b)).g i).c]),.bool (Bm (BM l p b))]
def cG:List EV->Option (Prop×SV)
 |[.p (.sl 2 l_n l_g),.p (.agg [.int .i64 p_fr,.int .i64 p_to_,.int .i64 p_area]),.p (.int .i64 b)]=>some ((∀i,i<l_n->l_g i = [.int .i64 (Ad (l_g i)).x,.int .i64 (Ad (l_g i)).y])/\cE ⟨l_n,fun i=>Ad (l_g i)⟩ (⟨p_fr,p_to_,p_area⟩:AG) b,cF ⟨l_n,fun i=>Ad (l_g i)⟩ (⟨p_fr,p_to_,p_area⟩:AG) b)
 |_=>none
abbrev Rw:SE.Spec:=(AM cG)
def Acx:Aj:={ cC with specs:=AE [(87,bE),(89,Rv)],mks:=Ev [(88,KM)],ren:=fun k=>k-1000 }
theorem Acy (l:L.Sq L.Pt) (p:AG) (b:Int) (hp:cE l p b):vc prog (Acx) (Ae f42) (Ao f42 [.p (.sl 2 l.n (fun i=>[.int .i64 (l.g i).x,.int .i64 (l.g i).y])),.p (.agg [.int .i64 p.fr,.int .i64 p.to_,.int .i64 p.area]),.p (.int .i64 b)]) (AL prog f42 (cF l p b)):=
  @Eq.mpr _ (let I:=SV.int .i64;let A6:=(BM l p b);let A4:=(↑l.n:Int);let A3:=(L.Sq.mk l.n fun(i:Nat)=>l.g i);let A2:=(AU A6);((∀(i:Nat),let A5:=[I (l.g i).x,I (l.g i).y];i<l.n->A5=A5)/\Am A3=true/\Df A4 p)/\((!FU A3 p)=true->A2.n=0/\false=Bm A6)/\((!FU A3 p)=false->(A4<=1000
 /\ Df A4 p)/\∃(t:L.Sq L.Pt×L.Sq Int×Int),let A7:=(FV t.1 t.2.1 t.2.2);let A1:=(AU A7);(l.n=t.1.n/\∀(i:Nat),i<l.n -> [I (l.g i).x,I (l.g i).y]= [I (t.1.g i).x,I (t.1.g i).y])/\(Bb A4 p+1=t.2.1.n/\∀(i:Nat),i<Bb A4 p+1 -> [I (Bz A4 p i)]= [I (t.2.1.g i)])/\b=t.2.2/\(EE t.1 t.2.1 t.2.2/\(2:Nat)<=t.2.1.n)/\∀(u
:Nat),True->(A1.n=A2.n/\∀(i:Nat),i<A1.n -> [I (A1.g i).a,I (A1.g i).b,I (A1.g i).c]= [I (A2.g i).a,I (A2.g i).b,I (A2.g i).c])/\Bm A7=Bm A6)) (by kernel_rfl) (by
 conv=>zeta
 obtain⟨hv,hk,h0,h1⟩:=(show Am l=true/\Df l.n p/\0<=b/\b<=4096 from hp);obtain⟨ok,h2⟩:=bU hv hk h0 h1;obtain⟨n3,n24,_,_⟩:=CZ hv;refine⟨⟨zr,hv,hk⟩,fun h=>?_,fun h=>⟨⟨by omega,hk⟩,(l,Fx l p,b),rz,rz,rfl,⟨ok,h2⟩,fun _ _=>?_⟩⟩
 ·have h:(!FU l p)=true:=h;have e:BM l p b=none:=by unfold BM;rw[h];rfl
  rw[e];exact⟨rfl,rfl⟩
 ·have h:(!FU l p)=false:=h;have e:BM l p b=FV l (Fx l p) b:=by unfold BM;rw[h];rfl
  rw[e];exact⟨rz,rfl⟩)
theorem cH:Az prog 42 Rw:=AN func42 (c:=Ae f42) (by kernel_rfl) mixed (fun _ _ _ hs hp=>by
 unfold cG at hs;split at hs
 ·cases hs;exact⟨_,_,Acy _ _ _ hp.2,(.p (.sl hp.1) (.same _ (.same _ .nil))),⟨show Aa prog _ from(Aa.cons AbW AbX (Aa.cons aU aV Aa.nil)),rfl,⟨show Ac prog _ from Ac.nil,⟨AB.no1 (fun _=>rfl),⟨show Bx prog _ from(Bx.cons Acl Ack Bx.nil),FamsOk.none (fun _=>rfl)⟩⟩⟩⟩⟩
 ·cases hs)
theorem cI:An prog 42:=fun _ _=>by kernel_rfl
def cJ (l:L.Sq L.Pt) (p:AG) (b:Int):Prop:=l.n<=1000000/\(Am l=true->KN l)
def cK (l:L.Sq L.Pt) (p:AG) (b:Int):SV:=.tup [.sl 3 (Dg l p b).n (fun i=>[.int .i64 ((Dg l p b).g i).a,.int .i64 ((Dg l p b).g i).b,.int .i64 ((Dg l p b).g i).c]),.int .i64 (Dw l p b)]
def cL:List EV->Option (Prop×SV)
 |[.p (.sl 2 l_n l_g),.p (.agg [.int .i64 p_fr,.int .i64 p_to_,.int .i64 p_area]),.p (.int .i64 b)]=>some ((∀i,i<l_n->l_g i = [.int .i64 (Ad (l_g i)).x,.int .i64 (Ad (l_g i)).y])/\cJ ⟨l_n,fun i=>Ad (l_g i)⟩ (⟨p_fr,p_to_,p_area⟩:AG) b,cK ⟨l_n,fun i=>Ad (l_g i)⟩ (⟨p_fr,p_to_,p_area⟩:AG) b)
 |_=>none
abbrev Rx:SE.Spec:=(AM cL)
def Acz:Aj:={ cC with specs:=AE [(40,QI),(38,II),(41,cD),(42,Rw)] }
theorem Ac0 (l:L.Sq L.Pt) (p:AG) (b:Int) (hp:cJ l p b):vc prog (Acz) (Ae f10) (Ao f10 [.p (.sl 2 l.n (fun i=>[.int .i64 (l.g i).x,.int .i64 (l.g i).y])),.p (.agg [.int .i64 p.fr,.int .i64 p.to_,.int .i64 p.area]),.p (.int .i64 b)]) (AL prog f10 (cK l p b)):=
 @Eq.mpr _ (let I:=SV.int .i64;let A11:=(4096:Int);let A7:=(0:Int);let A6:=(Dg l p b);let A5:=(∀(i:Nat),let A9:=[I (l.g i).x,I (l.g i).y];i<l.n->A9=A9);let A1:=(L.Sq.mk l.n fun(i:Nat)=>l.g i);let A10:=(BM A1 p b);let A4:=(bif Am A1 then A7 else(1:Int));(A5/\l.n<=1000000)/\∀(t:Nat->AG),let A2:=(bif bif !decide (A4=A7)then true else !AI b A7 A11 then true else !BH (Eg A1) fun(i:Nat)=>Dv p (t i));(Am A1=true->D0 Fs (Cz A1).n (Cz A1).g t)->((!!decide (A4=A7))=true->True)/\((!bif !decide (A4=A7)then true else !AI b A7 A11)=true->(∀(i:Nat),let A8:=[I (t i).fr,I (t i).to_,I (t i).area];i<Eg (L.Sq.mk l.n fun(i:Nat)=>l.g i)->A8=A8)/\Eg A1<=1000000)/\(A2=true->A6.n=0/\(1:Int)=Dw l p b)/\(A2=false->(A5/\Am A1=true/\Df (↑l.n:Int) p/\A7<=b/\b<=A11)/\((!Bm A10)=true->A6.n=0/\(51:Int)=Dw l p b)/\((!Bm A10)=false->((AU A10).n=A6.n/\∀(i:Nat),let A3:=(AU (BM (L.Sq.mk l.n fun(i:Nat)=>l.g i) p b));i<A3.n -> [I (A3.g i).a,I (A3.g i).b,I (A3.g i).c]= [I (A6.g i).a,I (A6.g i).b,I (A6.g i).c])/\A7=Dw l p b))) (by kernel_rfl) (by
 conv=>zeta
 obtain⟨hn,hok⟩:=(show l.n<=1000000/\(Am l=true->KN l)from hp);refine⟨⟨zr,hn⟩,fun t ht=>?_⟩;have eN:∀hv:Am l=true,Eg l=(Cz l).n:=fun hv=>by unfold Eg;rw[hv];rfl
 have eZ:Am l=false->Eg l=0:=fun hv=>by unfold Eg;rw[hv];rfl
 have eH:(BH (Eg l) fun i=>Dv p (t i))=Hg l p:=by
  unfold Hg;cases hv:Am l with
  |true=>rw[eN hv];exact Acm (q:=fun x=>Dv p x) (ht hv).perm
  |false=>rw[eZ hv];rfl
 have hl:Eg l<=1000000:=by
  cases hv:Am l with
  |true=>rw[eN hv];have:=Acn hv;omega
  |false=>rw[eZ hv];exact rH _
 rw[eH];refine⟨fun _=>trivial,fun h=>⟨zr,hl⟩,fun h=>?_,fun h=>?_⟩
 ·have e:Dw l p b=1:=by unfold Dw;rw[h];rfl
  have e2:Dg l p b=AU none:=by unfold Dg;rw[e];rfl
  rw[e,e2];exact⟨rfl,rfl⟩
 ·have hv : Am l = true :=by
   cases hv:Am l with
   |true=>rfl
   |false=>rw[hv]at h;cases h
  have hw:AI b 0 4096=true:=by
   cases hw:AI b 0 4096 with
   |true=>rfl
   |false=>rw[hv,hw]at h;cases h
  have hh:Hg l p=true:=by
   cases hh:Hg l p with
   |true=>rfl
   |false=>rw[hv,hw,hh]at h;cases h
  have hb:0<=b/\b<=4096:=by
   unfold AI at hw;rw[pR,decide_eq_true_eq,decide_eq_true_eq]at hw;exact⟨by omega,by omega⟩
  have hk:Df l.n p:=by
   have hh:=hh;unfold Hg at hh;rw[EO,eN hv]at hh;obtain⟨i,hi,h⟩:=hh;rw[M9 h];exact hok hv i hi
  have e0:Dw l p b=bif !Bm (BM l p b)then 51 else 0:=by unfold Dw;rw[h];rfl
  refine⟨⟨zr,hv,hk,hb⟩,fun h2=>?_,fun h2=>?_⟩
  ·have h2:(!Bm (BM l p b))=true:=h2;rw[h2]at e0;have e2:Dg l p b=AU none:=by unfold Dg;rw[e0];rfl
   rw[e0,e2];exact⟨rfl,rfl⟩
  ·have h2:(!Bm (BM l p b))=false:=h2;rw[h2]at e0;have e2:Dg l p b=AU (BM l p b):=by unfold Dg;rw[e0];rfl
   rw[e0,e2];exact⟨rz,rfl⟩)
theorem cM:Az prog 10 Rx:=AN func10 (c:=Ae f10) (by kernel_rfl) mixed (fun _ _ _ hs hp=>by
 unfold cL at hs;split at hs
 ·cases hs;exact⟨_,_,Ac0 _ _ _ hp.2,(.p (.sl hp.1) (.same _ (.same _ .nil))),⟨show Aa prog _ from(Aa.cons X4 X5 (Aa.cons JB JC (Aa.cons Acv Acw (Aa.cons cH cI Aa.nil)))),rfl,nz⟩⟩
 ·cases hs)
theorem cN:An prog 10:=fun _ _=>by kernel_rfl
def FW (p q:L.Pt):Int:=p.x*q.y-q.x*p.y
def EF (f:Nat->L.Pt):Nat->Int
 |0=>0
 |k+1=>EF f k+FW (f k) (f (k+1))
theorem MA (p q:L.Pt):FW q p = - FW p q:=by unfold FW;omega
theorem Ry {n k:Nat} (h:k+1<n):BO n k=k+1:=by
 unfold BO;rw[Int.tmod_eq_of_lt (by omega) (by omega)];omega
theorem cO (d:Nat):BO (d+1) d=0:=by
 unfold BO;rw[show(d:Int)+1=((d+1:Nat):Int)by omega,Int.tmod_self];rfl
theorem cP {x:L.Sq L.Pt}:∀k,k<x.n->BT x k=EF x.g k
 |0,_=>rfl
 |k+1,h=>by
   show BT x k+((x.g k).x*(x.g (BO x.n k)).y-(x.g (BO x.n k)).x*(x.g k).y)=EF x.g k+FW (x.g k) (x.g (k+1));rw[cP k (by omega),Ry h];rfl
theorem Rz {x:L.Sq L.Pt} {d:Nat} (h:x.n=d+1):BT x x.n=EF x.g d+FW (x.g d) (x.g 0):=by
 have e:BT x (d+1)=BT x d+((x.g d).x*(x.g (BO x.n d)).y-(x.g (BO x.n d)).x*(x.g d).y):=rfl;rw[cP d (by omega),h,cO]at e;rw[h,e];rfl
theorem cQ (f:Nat->L.Pt) (d:Nat):∀k,k<=d->EF (fun j=>f (d-j)) k=EF f (d-k)-EF f d
 |0,_=>by rw[Nat.sub_zero];show(0:Int)=_;omega
 |k+1,h=>by
   show EF (fun j=>f (d-j)) k+FW (f (d-k)) (f (d-(k+1)))=_;rw[cQ f d k (by omega)];obtain⟨m,e⟩:∃m,d-k=m+1:=⟨d-k-1,by omega⟩;have e2:EF f (m+1)=EF f m+FW (f m) (f (m+1)):=rfl;rw[e,show d-(k+1)=m by omega,e2,MA];omega
theorem R0 {f g:Nat->L.Pt}:∀k,(∀j,j<=k->f j=g j)->EF f k=EF g k
 |0,_=>rfl
 |k+1,h=>by rw[EF,EF,R0 k (fun j hj=>h j (by omega)),h k (by omega),h (k+1) (Ah0 _)]
theorem Ac1 {l:L.Sq L.Pt} (hn:0<l.n) {fr to_:Int} (f0:0<=fr) (f1:fr<(l.n:Int)) (t0:0<=to_):BT (HU l fr to_) (HU l fr to_).n=0-BT (D2 l fr to_) (D2 l fr to_).n:=by
 obtain⟨c1,c2⟩:=Oj hn fr to_;have el:Ft l.n fr to_=D1 l.n fr to_:=by
  unfold Ft D1;rw[AhM (by omega),show to_+(l.n:Int)-fr=to_-fr+(l.n:Int)by omega,Ail]
 have e:∀k,k<=D1 l.n fr to_->(HU l fr to_).g k=(D2 l fr to_).g (D1 l.n fr to_-k):=fun k hk=>by
  show l.g (Da l.n to_ k).toNat=l.g (BY l.n (fr+((D1 l.n fr to_-k:Nat):Int)));congr 1;have h3:=XO (n:=l.n) (a:=fr+((D1 l.n fr to_-k:Nat):Int)) hn;unfold Da;rw[AhM (by omega)];have h4:=Int.mul_ediv_add_emod (to_-fr) (l.n:Int);have h5:fr+((D1 l.n fr to_-k:Nat):Int)+(l.n:Int)*((to_-fr) / (l.n:Int)+1)=to_+(l.n:Int)-(k:Int):=by
   rw[Int.mul_add,Int.mul_one];omega
  rw[<- h5,Int.add_mul_emod_self_left];omega
 rw[Rz (x:=HU l fr to_) (d:=D1 l.n fr to_) (by show Ft l.n fr to_+1=_;rw[el]),Rz (x:=D2 l fr to_) (d:=D1 l.n fr to_) rfl,R0 _ e,cQ _ _ _ (Ah0 _),e _ (Ah0 _),e 0 (rH _),Nat.sub_self,Nat.sub_zero,MA];show(0:Int)-_+_=_;omega
theorem Oz (c:Bool) (ks:L.Sq L.Pt) (p:L.Pt):ks.n<=(G7 c ks p).n/\(c=true->1<=(G7 c ks p).n):=by
 unfold G7 FP;cases c with
 |false=>exact⟨Ah0 _,fun h=>by cases h⟩
 |true =>
   cases h:J2 ks p with
   |false=>exact⟨Nat.le_succ _,fun _=>Nat.succ_le_succ (rH _)⟩
   |true =>
     obtain⟨i,hi,_⟩:=EO.1 h;exact⟨Ah0 _,fun _=>Nat.lt_of_le_of_lt (rH _) hi⟩
theorem Ac2 (a b d:L.Pt):CY a b a d≠0:=by
 have h:1<=(Dt a b a d 2).n:=Aig (Aig (Aig ((Oz (CR a d (Ed a b 0)) (Ee a b a d 0) (Ed a b 0)).2 QX) (Oz _ (Ee a b a d 1) _).1) (Oz _ (Dt a b a d 0) _).1) (Oz _ (Dt a b a d 1) _).1;unfold CY
 by_cases h1:(1:Int)<((Dt a b a d 2).n:Int)
 ·rw[decide_eq_true h1];exact(show(3:Int)≠0 by decide)
 ·rw[decide_eq_false h1,decide_eq_true (show((Dt a b a d 2).n:Int)=1 by omega)];exact(show(1:Int)≠0 by decide)
theorem Ac3 (p q:L.Pt):Ay p p q=0:=by unfold Ay;simp
theorem cR {l:L.Sq L.Pt} (hv:Am l=true):∀i k,i<l.n->k<l.n->l.g i=l.g k->i=k:=by
 obtain⟨n3,n24,hsm,hbd⟩:=CZ hv;have key:∀i k,i<k->k<l.n->l.g i=l.g k->False:=fun i k h1 h2 e=>by
  have ho:Ct l i k=true:=by
   have hv:=hv;unfold Am at hv;rw[pR,pR]at hv;have h:=hv.2.2;unfold Ey at h;have:=C8.1 (C8.1 h i (by omega)) k h2;rw[decide_eq_true h1]at this;exact this
  have bad:∀k,k<l.n->l.g (Ew l.n k)=l.g k->False:=fun k hk e=>(Mz hv).2 k hk (by rw[e];exact Ac3 _ _);unfold Ct at ho;cases hx:Mt l i k with
  |false =>
    rw[hx]at ho;have ho:K9 l i k=0:=of_decide_eq_true ho;unfold K9 at ho;rw[<- e]at ho;exact Ac2 _ _ _ ho
  |true =>
    unfold Mt at hx;rw[De,Bool.or_eq_true,GX,pR,decide_eq_true_eq,decide_eq_true_eq,decide_eq_true_eq]at hx;rcases hx with h|⟨h,h'⟩
    ·refine bad k h2 ?_;have:Ew l.n k=i:=by
      unfold Ew;rw[show(k:Int)+(l.n:Int)-1=(i:Int)+(l.n:Int)by omega,AhM (by omega),Ail,Aic (by omega) (by omega)];omega
     rw[this,e]
    ·refine bad i (by omega) ?_;have:Ew l.n i=k:=by
      unfold Ew;rw[AhM (by omega),Aic (by omega) (by omega)];omega
     rw[this,e]
 intro i k hi hk e;rcases AiE i k with q|q|q
 ·exact(key i k q hk e).elim
 ·exact q
 ·exact(key k i q hi e.symm).elim
theorem JE {l:L.Sq L.Pt} (hv:Am l=true):Oh l (Av l)/\Au l=(Av l).n/\∀i k,i<l.n->k<l.n->l.g i=l.g k->i=k:=by
 obtain⟨n3,n24,hsm,hbd⟩:=CZ hv;have hinj:=cR hv;have hset:Og l l:=⟨by omega,hinj,fun i hi=>⟨i,hi,rfl⟩,fun j hj=>⟨j,hj,rfl⟩⟩;obtain⟨H,hle⟩:=Z1 hset;exact⟨H,Z2 H (by omega),hinj⟩
theorem JF {x:L.Sq L.Pt} (h:∀i k,i<x.n->k<x.n->x.g i=x.g k->i=k) {i:Nat} (hi:i<x.n):AW x (x.g i)=(i:Int):=
 Ol hi (fun j hj=>by
  cases hs:Bh (x.g i) (x.g j)with
  |false=>rfl
  |true=>exact absurd (h i j hi (by omega) (IE hs)) (by omega)) (GZ _)
theorem MB {p:Nat->Bool}:∀{n:Nat},(Ah5 (AJ p n)).map (BI p n)=(Ah5 n).filter p
 |0=>rfl
 |n+1=>by
   rw[List.range_succ,List.filter_append,<- MB (n:=n)];cases hp:p n with
   |false =>
     rw[GW hp];have : [n].filter p = []:=by simp[hp]
     rw[this,List.append_nil];exact Ai2 fun k _=>IC hp
   |true =>
     rw[H1 hp,List.range_succ,List.map_append];have : [n].filter p = [n]:=by simp[hp]
     rw[this];congr 1
     ·exact Ai2 fun k hk=>H3 (by have:=AhB.1 hk;omega)
     ·show [BI p (n+1) (AJ p n)]= [n];rw[HR hp]
theorem O0 {l:L.Sq L.Pt} (hv:Am l=true) {k i:Nat} (hk:k<(Av l).n) (hi:i<l.n) (e:(Av l).g k=l.g i):GA l i=(k:Int)/\DU l (Av l) k=(i:Int)/\Do l i=Ef l (Av l) k/\ED l i=Ff l (Av l) k:=by
 obtain⟨H,hN,hinj⟩:=JE hv;obtain⟨n3,n24,hsm,hbd⟩:=CZ hv;have rg:∀j,j<(Av l).n->(H5 l).g j=(Av l).g j:=fun j hj=>H.at_ j hj;have rn:(H5 l).n=(Av l).n:=hN;have hK:GA l i=(k:Int):=by
  unfold GA;refine Ol (by omega) (fun j hj=>?_) (by rw[rg k hk,e];exact GZ _);cases hs:Bh (l.g i) ((H5 l).g j)with
  |false=>rfl
  |true =>
    have:=IE hs;rw[rg j (by omega),<- e]at this;exact absurd (Oi H hk (by omega) this) (by omega)
 have hF:DU l (Av l) k=(i:Int):=by
  unfold DU;rw[e];exact JF hinj hi
 have hT:Eo l (Av l) k=Fg l i:=by
  unfold Eo Fg;rw[hK,rn,My hk,rg _ (Gm (by omega))]
 have tb:=Z7 (l:=l) (by omega) i;refine⟨hK,hF,?_,?_⟩
 ·unfold Do Ef;rw[hK,hT,hF,decide_eq_false (by omega)];rfl
 ·unfold ED Ff;rw[hF,hT,Ac1 (by omega) (by omega) (by omega) tb.1]
theorem R1 {l:L.Sq L.Pt} (hv:Am l=true):(((Ah5 (Av l).n).filter (Ef l (Av l))).map (Ff l (Av l))).Perm (((Ah5 l.n).filter (Do l)).map (ED l)):=by
 obtain⟨H,hN,hinj⟩:=JE hv;obtain⟨n3,n24,hsm,hbd⟩:=CZ hv;have inL:∀k,k<(Av l).n->∃i,i<l.n/\(Av l).g k=l.g i:=fun k hk=>by
  obtain⟨j,hj,e⟩:=Om (l:=l) (by omega) k;exact⟨j,hj,by rw[<- H.at_ k hk];exact e⟩
 refine(List.perm_ext_iff_of_nodup ?_ ?_).2 (fun x=>?_)
 ·rw[Aja,Air];refine List.Pairwise.imp_of_mem (R:=fun a b=>a<b) (fun {a b} ha hb hab e=>?_) (List.pairwise_lt_range.filter _);have ha:=AhB.1 (rK.1 ha).1;have hb:=AhB.1 (rK.1 hb).1;obtain⟨i,hi,e1⟩:=inL a ha;obtain⟨j,hj,e2⟩:=inL b hb;have p1:=(O0 hv ha hi e1).2.1;have p2:=(O0 hv hb hj e2).2.1;have e3:DU l (Av l) a=DU l (Av l) b:=congrArg AG.fr e;rw[p1,p2]at e3;have e4:i=j:=by omega
  rw[e4,<- e2]at e1;exact absurd (Oi H ha hb e1) (by omega)
 ·rw[Aja,Air];refine(List.pairwise_lt_range.filter _).imp (fun {a b} hab e=>?_);have e3:(a:Int)=(b:Int):=congrArg AG.fr e;omega
 ·rw[Ah2,Ah2];constructor
  ·rintro⟨k,hk,rfl⟩;obtain⟨h1,h2⟩:=rK.1 hk;have h1:=AhB.1 h1;obtain⟨i,hi,e⟩:=inL k h1;obtain⟨_,_,q1,q2⟩:=O0 hv h1 hi e;exact⟨i,rK.2 ⟨AhB.2 hi,by rw[q1];exact h2⟩,q2⟩
  ·rintro⟨i,hi,rfl⟩;obtain⟨h1,h2⟩:=rK.1 hi;have h1:=AhB.1 h1;have h3:¬ GA l i<0:=fun c=>by
    unfold Do at h2;rw[decide_eq_true c]at h2;cases h2
   obtain⟨k,hk,e⟩:∃k,k<(Av l).n/\(Av l).g k=l.g i:=by
    unfold GA AW at h3;rcases JA (f:=fun j=>Bh (l.g i) ((H5 l).g j)) (n:=(H5 l).n)with ⟨q,_⟩|⟨k,q1,q2,q3,_⟩
    ·rw[q]at h3;exact absurd (by decide) h3
    ·have q1:k<Au l:=q1;refine⟨k,by omega,?_⟩;rw[<- H.at_ k (by omega)];exact(IE q3).symm
   obtain⟨_,_,q1,q2⟩:=O0 hv hk h1 e;exact⟨k,rK.2 ⟨AhB.2 hk,by rw[<- q1];exact h2⟩,q2.symm⟩
theorem Ac4 {a b:AG}:Fs a b<0↔a.fr<b.fr:=by
 unfold Fs B0
 by_cases h1:a.fr<b.fr
 ·simp[h1]
 ·by_cases h2:b.fr<a.fr<;>simp[h1,h2]
theorem Ac5 {l:L.Sq L.Pt} (hv:Am l=true) {u:Nat->AG} (hu:D0 Fs (Cz l).n (Cz l).g u):(Cz l).n=(AP l).n/\∀i,i<(Cz l).n->u i=(AP l).g i:=by
 have eP:(Ah5 (Cz l).n).map (Cz l).g=((Ah5 (Av l).n).filter (Ef l (Av l))).map (Ff l (Av l)):=by
  rw[<- MB,Aiy];rfl
 have eR:(Ah5 (AP l).n).map (AP l).g=((Ah5 l.n).filter (Do l)).map (ED l):=by
  rw[<- MB,Aiy];rfl
 have hperm:=hu.perm;rw[eP]at hperm;have hp2:=hperm.trans (R1 hv);have hR:(((Ah5 l.n).filter (Do l)).map (ED l)).Pairwise (fun a b=>a.fr<=b.fr):=by
  rw[Air];refine(List.pairwise_lt_range.filter _).imp (fun {a b} hab=>?_);show(a:Int)<=(b:Int);omega
 have hU:((Ah5 (Cz l).n).map u).Pairwise (fun a b=>a.fr<=b.fr):=by
  rw[Air];refine List.Pairwise.imp_of_mem (R:=fun a b=>a<b) (fun {a b} ha hb hab=>?_) List.pairwise_lt_range;have:=hu.asc a b hab (AhB.1 hb);rw[Ac4]at this;omega
 have e:(Ah5 (Cz l).n).map u=((Ah5 l.n).filter (Do l)).map (ED l):=by
  refine List.Perm.eq_of_pairwise (le:=fun a b:AG=>a.fr<=b.fr) (fun a b ha hb h1 h2=>?_) hU hR hp2;have ha:=hp2.mem_iff.1 ha;obtain⟨i,_,rfl⟩:=Ah2.1 ha;obtain⟨j,_,rfl⟩:=Ah2.1 hb;have h1:(i:Int)<=(j:Int):=h1;have h2:(j:Int)<=(i:Int):=h2;rw[show i=j by omega]
 rw[<- eR]at e;have hl:=congrArg List.length e;rw[Aih,List.length_range,Aih,List.length_range]at hl;refine⟨hl,fun i hi=>?_⟩;have:=congrArg (fun x=>x[i]?) e;simpa[hi,hl ▸ hi]using this
theorem R2 {p:Nat->Bool}:∀{m i:Nat},i<AJ p m->BI p m i<m/\p (BI p m i)=true
 |0,i,h=>absurd h (oE _)
 |m+1,i,h=>by
   cases hp:p m with
   |true =>
     rw[H1 hp]at h
     by_cases e:i=AJ p m
     ·rw[e,HR hp];exact⟨by omega,hp⟩
     ·rw[H3 e];obtain⟨h1,h2⟩:=R2 (p:=p) (m:=m) (i:=i) (by omega);exact⟨by omega,h2⟩
   |false =>
     rw[GW hp]at h;rw[H3 (by omega)];obtain⟨h1,h2⟩:=R2 (p:=p) (m:=m) h;exact⟨by omega,h2⟩
theorem KO {l:L.Sq L.Pt} (hv:Am l=true) {k:Nat} (hk:k<(Av l).n):∃i,i<l.n/\(Av l).g k=l.g i:=by
 obtain⟨H,hN,hinj⟩:=JE hv;obtain⟨n3,n24,hsm,hbd⟩:=CZ hv;obtain⟨j,hj,e⟩:=Om (l:=l) (by omega) k;exact⟨j,hj,by rw[<- H.at_ k hk];exact e⟩
theorem Ac6 {l:L.Sq L.Pt} (hv:Am l=true) {k:Nat} (hk:k<(Av l).n):Df l.n (Ff l (Av l) k):=by
 obtain⟨H,hN,hinj⟩:=JE hv;have h2:=H.pos;have hx:BO (Av l).n k<(Av l).n:=Gm (by omega);obtain⟨i,hi,ei⟩:=KO hv hk;obtain⟨j,hj,ej⟩:=KO hv hx;have f:DU l (Av l) k=(i:Int):=by unfold DU;rw[ei];exact JF hinj hi
 have t:Eo l (Av l) k=(j:Int):=by unfold Eo;rw[ej];exact JF hinj hj
 show((0:Int)<=DU l (Av l) k/\DU l (Av l) k<(l.n:Int))/\((0:Int)<=Eo l (Av l) k/\Eo l (Av l) k<(l.n:Int))/\DU l (Av l) k≠Eo l (Av l) k;rw[f,t];refine⟨by omega,by omega,fun e=>?_⟩;have e:i=j:=by omega
 subst e;have e:=Oi H hk hx (ei.trans ej.symm)
 by_cases c:k+1<(Av l).n
 ·rw[Ry c]at e;omega
 ·obtain⟨m,hm⟩:∃m,(Av l).n=m+1:=⟨(Av l).n-1,by omega⟩;rw[hm,show k=m by omega,cO]at e;omega
theorem R3 (l:L.Sq L.Pt):(Ah5 (Cz l).n).map (Cz l).g=((Ah5 (Av l).n).filter (Ef l (Av l))).map (Ff l (Av l)):=by
 rw[<- MB,Aiy];rfl
theorem cS (l:L.Sq L.Pt):(Ah5 (AP l).n).map (AP l).g=((Ah5 l.n).filter (Do l)).map (ED l):=by
 rw[<- MB,Aiy];rfl
theorem cT {l:L.Sq L.Pt} (hv:Am l=true):KN l:=fun i hi=>by
 have m:(Cz l).g i∈(Ah5 (Cz l).n).map (Cz l).g:=Ah2.2 ⟨i,AhB.2 hi,rfl⟩;rw[R3]at m;obtain⟨k,hk,e⟩:=Ah2.1 m;rw[<- e];exact Ac6 hv (AhB.1 (rK.1 hk).1)
theorem cU {l:L.Sq L.Pt} (hv:Am l=true) {i:Nat} (hi:i<(AP l).n):∃k,k<(Cz l).n/\(Cz l).g k=(AP l).g i:=by
 have m:(AP l).g i∈(Ah5 (Cz l).n).map (Cz l).g:=by
  rw[R3];refine(R1 hv).mem_iff.2 ?_;rw[<- cS];exact Ah2.2 ⟨i,AhB.2 hi,rfl⟩
 obtain⟨k,hk,e⟩:=Ah2.1 m;exact⟨k,AhB.1 hk,e⟩
theorem KP {l:L.Sq L.Pt} (hv:Am l=true) {i:Nat} (hi:i<(AP l).n):Df l.n ((AP l).g i):=by
 obtain⟨k,hk,e⟩:=cU hv hi;rw[<- e];exact cT hv k hk
def EG (l:L.Sq L.Pt) (r:L.Sq Int) (i:Nat):L.Pt:=l.g (r.g i).toNat
def Ac7 (l:L.Sq L.Pt) (t:Bt):Int:=HY (l.g t.a.toNat) (l.g t.b.toNat) (l.g t.c.toNat)
def H6 (l:L.Sq L.Pt):List Bt->Int
 |[]=>0
 |t::x=>Ac7 l t+H6 l x
theorem cV (l:L.Sq L.Pt):∀x y,H6 l (x++y)=H6 l x+H6 l y
 |[],y=>by show H6 l y=0+_;omega
 |t::x,y=>by show _+H6 l (x++y)=_+H6 l x+_;rw[cV l x y];omega
def Ac8 (l:L.Sq L.Pt) (r:L.Sq Int) (bite:Int) (a b:Nat) (t:Bt):Prop:=∃i m k,a<=i/\i<=b/\a<=m/\m<=b/\a<=k/\k<=b/\t=⟨r.g i,r.g m,r.g k⟩/\Fw l r bite i m k=true
def R4 (l:L.Sq L.Pt) (r:L.Sq Int) (bite:Int) (a b:Nat) (x:List Bt):Prop:=(∀t,t∈x->Ac8 l r bite a b t)/\H6 l x = -(EF (EG l r) b-EF (EG l r) a+FW (EG l r b) (EG l r a))
theorem Ac9 (u m v:L.Pt):HY u m v = -(FW u m+FW m v+FW v u):=by
 unfold HY FW;grind
theorem R5 (l:L.Sq L.Pt) (r:L.Sq Int) (bite:Int):∀(n a b:Nat),a<b->∀x,Ei (Fw l r bite) r.g n a b=some x->R4 l r bite a b x
 |0,a,b,_,x,e=>by cases e
 |n+1,a,b,hab,x,e=>by
   rw[Ei]at e
   by_cases e1:b=a+1
   ·rw[if_pos e1]at e;cases e;refine⟨fun t h=>(by cases h),?_⟩;subst e1;show(0:Int)= -(EF (EG l r) a+FW (EG l r a) (EG l r (a+1))-EF (EG l r) a+_);rw[MA (EG l r a) (EG l r (a+1))];omega
   ·rw[if_neg e1]at e;have key:∀m,a<m->m<b->∀x,E2 (Ei (Fw l r bite) r.g n) (Fw l r bite) r.g a b m=some x->R4 l r bite a b x:=fun m h1 h2 x e=>by
     unfold E2 at e;cases h3:Fw l r bite a m b with
     |false=>rw[h3]at e;cases e
     |true =>
       rw[h3,cond_true]at e;cases h4:Ei (Fw l r bite) r.g n a m with
       |none=>rw[h4]at e;cases e
       |some y =>
         cases h5:Ei (Fw l r bite) r.g n m b with
         |none=>rw[h4,h5]at e;cases e
         |some z =>
           rw[h4,h5]at e;cases e;obtain⟨y1,y2⟩:=R5 l r bite n a m h1 y h4;obtain⟨z1,z2⟩:=R5 l r bite n m b h2 z h5;refine⟨fun t ht=>?_,?_⟩
           ·rcases List.mem_cons.1 ht with rfl|ht
            ·exact⟨a,m,b,by omega,by omega,by omega,by omega,by omega,by omega,rfl,h3⟩
            rcases List.mem_append.1 ht with ht|ht
            ·obtain⟨i,j,k,q1,q2,q3,q4,q5,q6,q7,q8⟩:=y1 t ht;exact⟨i,j,k,q1,by omega,q3,by omega,q5,by omega,q7,q8⟩
            ·obtain⟨i,j,k,q1,q2,q3,q4,q5,q6,q7,q8⟩:=z1 t ht;exact⟨i,j,k,by omega,q2,by omega,q4,by omega,q6,q7,q8⟩
           ·show HY (EG l r a) (EG l r m) (EG l r b)+H6 l (y++z)=_;rw[cV,y2,z2,Ac9,MA (EG l r a) (EG l r m),MA (EG l r m) (EG l r b)];omega
    have:∀m,m<=b-a-1->∀x,Es (fun k=>E2 (Ei (Fw l r bite) r.g n) (Fw l r bite) r.g a b (a+1+k)) m=some x->R4 l r bite a b x:=fun m=>by
     induction m with
     |zero=>intro _ x e;cases e
     |succ m ih =>
       intro hm x e;rw[Es]at e;cases e2:Es (fun k=>E2 (Ei (Fw l r bite) r.g n) (Fw l r bite) r.g a b (a+1+k)) m with
       |some y=>rw[e2]at e;cases e;exact ih (by omega) _ e2
       |none=>rw[e2]at e;exact key _ (by omega) (by omega) x e
    exact this _ (Ah0 _) x e
theorem cW {α:Type} {f:Nat->Option α}:∀{n},(Es f n).isSome=true↔∃k,k<n/\(f k).isSome=true
 |0=>⟨fun h=>(by cases h),fun⟨k,hk,_⟩=>absurd hk (oE _)⟩
 |n+1=>by
   have ih:=cW (f:=f) (n:=n);rw[Es];cases h:Es f n with
   |some x =>
     rw[h]at ih;obtain⟨k,hk,h2⟩:=ih.1 rfl;exact⟨fun _=>⟨k,by omega,h2⟩,fun _=>rfl⟩
   |none =>
     rw[h]at ih;refine⟨fun h2=>⟨n,Nat.lt_succ_self _,h2⟩,fun⟨k,hk,h2⟩=>?_⟩
     by_cases e:k=n
     ·subst e;exact h2
     ·exact absurd (ih.2 ⟨k,by omega,h2⟩) (fun h=>by cases h)
theorem AcA {f:Nat->Nat->Option (List Bt)} {lw:Nat->Nat->Nat->Bool} {r:Nat->Int} {a b m:Nat}:(E2 f lw r a b m).isSome=true↔lw a m b=true/\(f a m).isSome=true/\(f m b).isSome=true:=by
 unfold E2;cases lw a m b<;>cases f a m<;>cases f m b<;>simp
theorem AcB {l:L.Sq L.Pt} {p:AG} {b:Int} (hn:0<l.n) (hk:Df l.n p) {x:List Bt} (h:BM l p b=some x):(∀t,t∈x->((0<=t.a/\t.a<(l.n:Int))/\(0<=t.b/\t.b<(l.n:Int))/\(0<=t.c/\t.c<(l.n:Int)))/\DV (l.g t.a.toNat) (l.g t.b.toNat) (l.g t.c.toNat) b=true)/\H6 l x=0-BT (D2 l p.fr p.to_) (D2 l p.fr p.to_).n:=by
 obtain⟨d1,d2,f0,f1,fr,fe,fs⟩:=JD hk;unfold BM at h;cases hh:FU l p with
 |false=>rw[hh]at h;cases h
 |true =>
   rw[hh]at h;have h:Bn l (Fx l p) b 0 (Bb l.n p+1-1)=some x:=h;rw[Nat.add_sub_cancel]at h;obtain⟨x1,x2⟩:=R5 _ _ _ _ _ _ (by omega) x h;refine⟨fun t ht=>?_,?_⟩
   ·obtain⟨i,m,k,_,q2,_,q4,_,q6,rfl,q8⟩:=x1 t ht;exact⟨⟨fr i q2,fr m q4,fr k q6⟩,q8⟩
   ·have e : ∀j, j<=Bb l.n p->EG l (Fx l p) j = (D2 l p.fr p.to_).g j :=fun j hj =>by
     show l.g (Bz l.n p j).toNat=l.g (BY l.n (p.fr+(j:Int)));have:=XO (n:=l.n) (a:=p.fr+(j:Int)) hn;congr 1;unfold Bz;omega
    have e0:EF (EG l (Fx l p)) 0=0:=rfl;rw[x2,Rz (x:=D2 l p.fr p.to_) (d:=Bb l.n p) rfl,R0 _ e,e0,e _ (Ah0 _),e 0 (rH _)];omega
def Cm (l:L.Sq L.Pt) (b:Int):Bool:=Ch (AP l).n fun i=>Bm (BM l ((AP l).g i) b)
theorem AcC {l:L.Sq L.Pt} (hv:Am l=true):DL l=false:=by
 obtain⟨n3,n24,hsm,hbd⟩:=CZ hv;have hf:=QY (l:=l) (k:=1) (by omega) (fun j hj=>by rw[show j=0 by omega]) (fun e=>by have:=cR hv 1 0 (by omega) (by omega) e;omega);unfold DL;rw[hf,decide_eq_false (show ¬ ((1:Nat):Int)<0 by omega),cond_false,EO.2 ⟨2,by omega,?_⟩]
 ·rfl
 ·have h:=(Mz hv).2 1 (by omega);rw[Ry (by omega),show Ew l.n 1=0 by unfold Ew;rw[show((1:Nat):Int)+(l.n:Int)-1=(l.n:Int)by omega,Int.tmod_self];rfl]at h;show(!decide (Ay (l.g 0) (l.g ((1:Nat):Int).toNat) (l.g 2)=0))=true;rw[decide_eq_false (show ¬ Ay (l.g 0) (l.g ((1:Nat):Int).toNat) (l.g 2)=0 from h)];rfl
theorem cX:∀(n:Nat) (f:Nat->Nat),(∀i,i<=n->f i<n)->∃i j,i<j/\j<=n/\f i=f j
 |0,f,h=>absurd (h 0 (Ah0 _)) (oE _)
 |n+1,f,h=>by
   by_cases hx:∃i,i<=n/\f i=f (n+1)
   ·obtain⟨i,hi,e⟩:=hx;exact⟨i,n+1,by omega,Ah0 _,e⟩
   ·have hv:=h (n+1) (Ah0 _);obtain⟨i,j,hij,hj,e⟩:=cX n (fun i=>if f i=n then f (n+1)else f i) (fun i hi=>by
     have h1:=h i (by omega);have h2:f i≠f (n+1):=fun e=>hx ⟨i,hi,e⟩
     by_cases hin:f i=n
     ·simp[hin];omega
     ·simp[hin];omega)
    refine⟨i,j,hij,by omega,?_⟩;have h1:f i≠f (n+1):=fun e=>hx ⟨i,by omega,e⟩;have h2:f j≠f (n+1):=fun e=>hx ⟨j,by omega,e⟩
    by_cases hi:f i=n<;>by_cases hjn:f j=n
    ·omega
    ·simp[hi,hjn]at e;omega
    ·simp[hi,hjn]at e;omega
    ·simpa[hi,hjn]using e
theorem AcD {l:L.Sq L.Pt} (hv:Am l=true):(Av l).n<=l.n:=by
 obtain⟨H,hN,hinj⟩:=JE hv;refine Nat.le_of_not_lt fun hlt=>?_;obtain⟨i,j,hij,hj,e⟩:=cX l.n (fun k=>(AW l ((Av l).g k)).toNat) (fun k hk=>by
  obtain⟨a,ha,e⟩:=KO hv (k:=k) (by omega);show(AW l ((Av l).g k)).toNat<l.n;rw[e,JF hinj ha,Ah7];exact ha)
 obtain⟨a,ha,ea⟩:=KO hv (k:=i) (by omega);obtain⟨b,hb,eb⟩:=KO hv (k:=j) (by omega);have e:(AW l ((Av l).g i)).toNat=(AW l ((Av l).g j)).toNat:=e;rw[ea,eb,JF hinj ha,JF hinj hb,Ah7,Ah7]at e;rw[e,<- eb]at ea;have:=Oi H (by omega) (by omega) ea;omega
theorem O1 {l:L.Sq L.Pt} (hv:Am l=true):Cb l (Av (CD (AA l))).n=0/\(Av (CD (AA l))).n=Au l/\(∀k,k<Au l->(Av (CD (AA l))).g k=AR l k)/\2<=Au l/\Au l<=l.n:=by
 obtain⟨n3,n24,hsm,hbd⟩:=CZ hv;obtain⟨H,hN,hinj⟩:=JE hv;have hle:=AcD hv;have h2:=H.pos;have hf:=AcC hv;have hp:DI l=true:=C8.2 (Mz hv).1;obtain⟨c1,c2,c3,c4⟩:=Rc l;have hset:Og l (CD (AA l)):=by
  refine⟨Zl (YK hf (by omega)),fun i k hi hk e=>?_,c3,fun j hj=>by obtain⟨i,hi,e⟩:=c2 j hj;exact⟨i,hi,e.symm⟩⟩;rcases AiE i k with q|q|q
  ·have:=c1 i k q hk;rw[e]at this;unfold BX ER at this;omega
  ·exact q
  ·have:=c1 k i q hi;rw[e]at this;unfold BX ER at this;omega
 obtain⟨H2,hle2⟩:=Z1 hset;have hN2:=Z2 H2 (by omega);refine⟨?_,hN2.symm,fun k hk=>(H2.at_ k (by omega)).symm,by omega,by omega⟩;unfold Cb;rw[hf,hp,decide_eq_false (show ¬ 400<(l.n:Int)by omega),decide_eq_false (by omega)];rfl
def O2 (l:L.Sq L.Pt) (k:Nat):L.Pt:=AR l (BO (Au l) k)
def H7 (l:L.Sq L.Pt) (k:Nat):Bool:=bif !decide ((AR l k).x=(O2 l k).x)then !decide ((AR l k).y=(O2 l k).y)else false
def BE (l:L.Sq L.Pt) (k:Nat):Nat:=AJ (H7 l) k
def BJ (l:L.Sq L.Pt) (k i:Nat):Int:=AW l (AR l (BI (H7 l) k i))
def BK (l:L.Sq L.Pt) (k i:Nat):Int:=AW l (O2 l (BI (H7 l) k i))
def Cj (l:L.Sq L.Pt) (b:Int) (k:Nat):List Bt:=(BM l ((AP l).g k) b).getD []
def BW (l:L.Sq L.Pt) (b:Int):Nat->List Bt
 |0=>[]
 |k+1=>BW l b k++Cj l b k
def Cd (l:L.Sq L.Pt) (b:Int) (k j:Nat):List Bt:=BW l b k++(Cj l b k).take j
def AZ (x:List Bt):Nat:=x.length
def C2 (x:List Bt) (i:Nat):Int:=(x.getD i ⟨0,0,0⟩).a
def C3 (x:List Bt) (i:Nat):Int:=(x.getD i ⟨0,0,0⟩).b
def C4 (x:List Bt) (i:Nat):Int:=(x.getD i ⟨0,0,0⟩).c
def FX (l:L.Sq L.Pt) (b:Int) (k:Nat):Bool:=Ch k fun i=>Bm (BM l ((AP l).g i) b)
def DF (l:L.Sq L.Pt) (b:Int):Nat:=bif Cm l b then BE l (Au l)else 0
def Et (l:L.Sq L.Pt) (b:Int):Nat:=bif Cm l b then AZ (BW l b (AP l).n)else 0
theorem O3 {l:L.Sq L.Pt} (hv:Am l=true) {b:Int} {k:Nat} (hk:k<(AP l).n):(Cj l b k).length<=1000:=by
 obtain⟨n3,n24,hsm,hbd⟩:=CZ hv;obtain⟨d1,d2,_⟩:=JD (KP hv hk);unfold Cj BM;cases FU l ((AP l).g k)with
 |false=>exact rH _
 |true =>
   show((Bn l (Fx l ((AP l).g k)) b 0 (Bb l.n ((AP l).g k)+1-1)).getD []).length<=1000;rw[Nat.add_sub_cancel];cases e:Bn l (Fx l ((AP l).g k)) b 0 (Bb l.n ((AP l).g k))with
   |none=>exact rH _
   |some x =>
     have:=Ox _ _ _ _ _ (by omega) x e;show x.length<=1000;omega
theorem O4 {l:L.Sq L.Pt} (hv:Am l=true) {b:Int}:∀k,k<=(AP l).n->(BW l b k).length<=1000*k
 |0,_=>rH _
 |k+1,h=>by
   have:=O4 hv (b:=b) k (by omega);have:=O3 hv (b:=b) (k:=k) (by omega);rw[BW,AhU];omega
theorem MC {l:L.Sq L.Pt} (hv:Am l=true):(AP l).n<=24:=by
 obtain⟨n3,n24,hsm,hbd⟩:=CZ hv;have:AJ (Do l) l.n<=l.n:=H0;show AJ (Do l) l.n<=24;omega
theorem AcE {l:L.Sq L.Pt} {b:Int} {k j:Nat} (hj:j<(Cj l b k).length):Cd l b k (j+1)=Cd l b k j ++ [(Cj l b k).getD j ⟨0,0,0⟩]:=by
 unfold Cd;rw[List.append_assoc,List.take_add_one,AS,List.getElem?_eq_getElem hj];rfl
theorem AcF (x:List Bt) (t:Bt) (i:Nat) (hi:i<x.length+1):(x ++ [t]).getD i ⟨0,0,0⟩=if i<x.length then x.getD i ⟨0,0,0⟩else t:=by
 by_cases h:i<x.length
 ·rw[if_pos h,AS,AhP h,<- AS]
 ·rw[if_neg h,AS,AhT (by omega),show i-x.length=0 by omega];rfl
theorem cY {l:L.Sq L.Pt} {b:Int} {k j:Nat} (hj:j<(Cj l b k).length):AZ (Cd l b k j)+1=AZ (Cd l b k (j+1))/\∀i,i<AZ (Cd l b k j)+1->AH (AZ (Cd l b k j)) (fun i=>[SV.sl 1 3 (AD [.int .i64 (C2 (Cd l b k j) i),.int .i64 (C3 (Cd l b k j) i),.int .i64 (C4 (Cd l b k j) i)] 1)]) (fun _=>[SV.sl 1 3 (AD [.int .i64 ((Cj l b k).getD j ⟨0,0,0⟩).a,.int .i64 ((Cj l b k).getD j ⟨0,0,0⟩).b,.int .i64 ((Cj l b k).getD j ⟨0,0,0⟩).c] 1)]) i = [SV.sl 1 3 (AD [.int .i64 (C2 (Cd l b k (j+1)) i),.int .i64 (C3 (Cd l b k (j+1)) i),.int .i64 (C4 (Cd l b k (j+1)) i)] 1)]:=by
 rw[AcE hj];unfold AZ;refine⟨by rw[AhU];rfl,fun i hi=>?_⟩;unfold AH C2 C3 C4;rw[AcF _ _ _ hi]
 by_cases h:i<(Cd l b k j).length
 ·rw[if_pos h,if_pos h]
 ·rw[if_neg h,if_neg h]
theorem cZ (l:L.Sq L.Pt) (b:Int) (k:Nat):Cd l b k 0=BW l b k:=by unfold Cd;rw[List.take_zero,List.append_nil]
theorem dA (l:L.Sq L.Pt) (b:Int) (k:Nat):Cd l b k (AZ (Cj l b k))=BW l b (k+1):=by unfold Cd AZ;rw[List.take_length];rfl
def DN (u m v:L.Pt) (b:Int):Bool:=bif bif bif !B4 u then true else !B4 m then true else !B4 v then true else !AI b 0 4096
def CO (l:L.Sq L.Pt) (b:Int):Bool:=bif !Am l then true else !AI b 0 4096
def dB (u:L.Pt) (m:L.Pt) (v:L.Pt) (b:Int):Prop:=True
def dC (u:L.Pt) (m:L.Pt) (v:L.Pt) (b:Int):SV:=.tup [.bool (bif DN u m v b then false else DV u m v b),.int .i64 (bif DN u m v b then 1 else 0)]
def dD:List EV->Option (Prop×SV)
 |[.p (.agg [.int .i64 u_x,.int .i64 u_y]),.p (.agg [.int .i64 m_x,.int .i64 m_y]),.p (.agg [.int .i64 v_x,.int .i64 v_y]),.p (.int .i64 b)]=>some (dB (⟨u_x,u_y⟩:L.Pt) (⟨m_x,m_y⟩:L.Pt) (⟨v_x,v_y⟩:L.Pt) b,dC (⟨u_x,u_y⟩:L.Pt) (⟨m_x,m_y⟩:L.Pt) (⟨v_x,v_y⟩:L.Pt) b)
 |_=>none
abbrev dE:SE.Spec:=(AM dD)
def AcG:Aj:={ cC with specs:=AE [(43,Q0),(38,II),(44,Ru)] }
theorem AcH (u:L.Pt) (m:L.Pt) (v:L.Pt) (b:Int) (hp:dB u m v b):vc prog (AcG) (Ae f11) (Ao f11 [.p (.agg [.int .i64 u.x,.int .i64 u.y]),.p (.agg [.int .i64 m.x,.int .i64 m.y]),.p (.agg [.int .i64 v.x,.int .i64 v.y]),.p (.int .i64 b)]) (AL prog f11 (dC u m v b)):=
 @Eq.mpr _ (let A2:=(0:Int);let A1:=(bif bif bif !B4 u then true else !B4 m then true else !B4 v then true else !AI b A2 (4096:Int));True/\((!!B4 u)=true->True)/\((!bif !B4 u then true else !B4 m)=true->True)/\((!bif bif !B4 u then true else !B4 m then true else !B4 v)=true->True)/\(A1=true->(false=bif DN u m v b then false else DV u m v b)/\(1:Int)=bif DN u m v b then(1:Int)else A2)/\(A1=false->(Du u/\Du m/\Du v/\A2<=b/\b<=(4096:Int))/\(DV u m v b=bif DN u m v b then false else DV u m v b)/\A2=bif DN u m v b then(1:Int)else A2)) (by kernel_rfl) (by
 conv=>zeta
 refine⟨trivial,fun _=>trivial,fun _=>trivial,fun _=>trivial,fun h=>?_,fun h=>?_⟩
 ·have h:DN u m v b=true:=h;rw[h];exact⟨rfl,rfl⟩
 ·have h:DN u m v b=false:=h;rw[h];unfold DN at h;rw[De,De,De,AhJ,AhJ,AhJ]at h;obtain⟨⟨⟨h1,h2⟩,h3⟩,h4⟩:=h;have h4:AI b 0 4096=true:=B5 h4;unfold AI at h4;rw[pR,decide_eq_true_eq,decide_eq_true_eq]at h4;exact⟨⟨FF.1 (B5 h1),FF.1 (B5 h2),FF.1 (B5 h3),h4.1,h4.2⟩,rfl,rfl⟩)
theorem AcI:Az prog 11 dE:=AN func11 (c:=Ae f11) (by kernel_rfl) mixed (fun _ _ _ hs hp=>by
 unfold dD at hs;split at hs
 ·cases hs;exact⟨_,_,AcH _ _ _ _ hp,(.same _ (.same _ (.same _ (.same _ .nil)))),⟨show Aa prog _ from(Aa.cons V3 V4 (Aa.cons JB JC (Aa.cons aP aQ Aa.nil))),rfl,nz⟩⟩
 ·cases hs)
theorem AcJ:An prog 11:=fun _ _=>by kernel_rfl
def dF (l:L.Sq L.Pt):Prop:=Am l=true
def dG (l:L.Sq L.Pt):SV:=.sl 1 (BE l (Au l)) (fun i=>[.sl 1 2 (AD [.int .i64 (BJ l (Au l) i),.int .i64 (BK l (Au l) i)] 1)])
def dH:List EV->Option (Prop×SV)
 |[.p (.sl 2 l_n l_g)]=>some ((∀i,i<l_n->l_g i = [.int .i64 (Ad (l_g i)).x,.int .i64 (Ad (l_g i)).y])/\dF ⟨l_n,fun i=>Ad (l_g i)⟩,dG ⟨l_n,fun i=>Ad (l_g i)⟩)
 |_=>none
abbrev dI:SE.Spec:=(AM dH)
def AcK:Aj:={ cC with muts:=[7,8],specs:=AE [(125,Zz),(82,QA)],nils:=B3 [(3,[(3,50,69,1)])] }
theorem AcL (l:L.Sq L.Pt) (hp:dF l):vc prog ({ AcK with loops:=AT [(4,{ T:=Nat,keep:=[0,4,14,15],keepO:=[],chg:=fun k=>[(3,.row 50),(16,.p (.int .i64 (k:Int)))],own:=fun k=>[(50,.row 69 1 (BE l k) (fun i=>[.sl 1 2 (AD [.int .i64 (BJ l k i),.int .i64 (BK l k i)] 1)]))],inv:=fun k=>k<=Au l,mu:=fun k=>Au l-k })]}) (Ae f80) (Ao f80 [.p (.sl 2 l.n (fun i=>[.int .i64 (l.g i).x,.int .i64 (l.g i).y]))]) (AL prog f80 (dG l)):=
 @Eq.mpr _ (let I:=SV.int .i64;let T:=AhD;let M:=AhQ;let A21:=(0:Nat);let A16:=(2:Nat);let A15:=(0:Int);let A13:=(L.Sq.mk l.n fun(i:Nat)=>l.g i);let A12:=(1:Nat);let A10:=(l.n=l.n/\∀(i:Nat),let A19:=[I (l.g i).x,I (l.g i).y];i<l.n->A19=A19);let A6:=((∀(i:Nat),let A20:=[I (l.g i).x,I (l.g i).y];i<l.n->A20=A20)/\l.n<=1000000);let A3:=(Av (CD (AA A13)));let A1:=(bif decide (Cb A13 A3.n=A15)then A3.n else A21);let A9:=(↑A1:Int);A6/\(∃(g:Nat),A15=(↑g:Int)/\(0=BE l g/\∀(i:Nat),i<0 -> []= [SV.sl A12 A16 (AD [I (BJ l g i),I (BK l g i)] A12)])/\g<=Au l)/\∀(g:Nat),let A14:=(↑g:Int);let A8:=(A14+(1:Int));let A5:=(bif !decide ((A3.g (T A14)).x=(A3.g (T (M A8 A9))).x)then !decide ((A3.g (T A14)).y=(A3.g (T (M A8 A9))).y)else false);let A2:=((A1=bif decide (Cb A13 A3.n=A15)then A3.n else A21)/\∀(i:Nat),let A17:=(L.Sq.mk l.n fun(i:Nat)=>l.g i);let A4:=(Av (CD (AA A17)));let A18:=[I (A4.g i).x,I (A4.g i).y];(i<bif decide (Cb A17 A4.n=A15)then A4.n else A21)->A18=A18);g<=Au l->(decide (A14<A9)=true->(A15<=A14/\A14<A9)/\Ab .i64 A8/\A9≠A15/\(A15<=M A8 A9/\M A8 A9<A9)/\(A5=true->A6/\A6/\(BE l g+1)*24<=140737488355328/\Ab .i64 A8/\∃(g':Nat),A14+1=(↑g':Int)/\A9=A9/\A2/\A2/\A10/\(BE l g+1=BE l g'/\∀(i:Nat),let A7:=(L.Sq.mk l.n fun(i:Nat)=>l.g i);let A11:=(Av (CD (AA A7)));i<BE l g+1->AH (BE l g) (fun(i:Nat)=>[SV.sl A12 A16 (AD [I (BJ l g i),I (BK l g i)] A12)]) (fun(x:Nat)=>[SV.sl 1 2 (AD [I (AW A7 (A11.g (T A14))),I (AW A7 (A11.g (T (M A8 (↑(bif decide (Cb A7 A11.n=A15)then A11.n else A21):Int)))))] 1)]) i = [SV.sl A12 A16 (AD [I (BJ l g' i),I (BK l g' i)] A12)])/\g'<=Au l/\Au l-g'<Au l-g)/\(A5=false->Ab .i64 A8/\∃(g':Nat),A14+1=(↑g':Int)/\A9=A9/\A2/\A2/\A10/\(BE l g=BE l g'/\∀(i:Nat),i<BE l g -> [SV.sl A12 A16 (AD [I (BJ l g i),I (BK l g i)] A12)]= [SV.sl A12 A16 (AD [I (BJ l g' i),I (BK l g' i)] A12)])/\g'<=Au l/\Au l-g'<Au l-g))/\(decide (A14<A9)=false->BE l g=BE l (Au l)/\∀(i:Nat),i<BE l g -> [SV.sl A12 A16 (AD [I (BJ l g i),I (BK l g i)] A12)]= [SV.sl A12 A16 (AD [I (BJ l (Au l) i),I (BK l (Au l) i)] A12)])) (by kernel_rfl) (by
 conv=>zeta
 have hv:Am l=true:=hp;obtain⟨n3,n24,hsm,hbd⟩:=CZ hv;obtain⟨hE,hN,hG,w2,wl⟩:=O1 hv;have eN:(bif decide (Cb l (Av (CD (AA l))).n=0)then(Av (CD (AA l))).n else 0)=Au l:=by rw[hE,decide_eq_true rfl];exact hN
 rw[eN];refine⟨⟨zr,by omega⟩,⟨0,rfl,⟨rfl,fun i hi=>absurd hi (oE _)⟩,rH _⟩,fun g hg=>⟨fun hlt=>?_,fun hge=>?_⟩⟩
 ·have hlt:(g:Int)<(Au l:Int):=of_decide_eq_true hlt;have e0:((g:Int)).toNat=g:=Ah7 g;have e1:(AhQ ((g:Int)+1) (Au l:Int)).toNat=BO (Au l) g:=rfl;have hx:=Gm (n:=Au l) (k:=g) (by omega);rw[e0,e1,hG g (by omega),hG _ hx];have t3:=Int.tmod_nonneg (Au l:Int) (show 0<=(g:Int)+1 by omega);have t4:=Int.tmod_lt_of_pos ((g:Int)+1) (show 0<(Au l:Int)by omega);have c0:BE l g<=g:=H0;have ln:l.n<=1000000:=by omega
  refine⟨⟨by omega,by omega⟩,jK,by omega,⟨t3,t4⟩,fun hp=>?_,fun hp=>?_⟩
  ·have hp:H7 l g=true:=hp;have row:BE l g+1=BE l (g+1)/\∀(i:Nat),i<BE l g+1->AH (BE l g) (fun(i:Nat)=>[SV.sl 1 2 (AD [.int .i64 (BJ l g i),.int .i64 (BK l g i)] 1)]) (fun(x:Nat)=>[SV.sl 1 2 (AD [.int .i64 (AW l (AR l g)),.int .i64 (AW l (AR l (BO (Au l) g)))] 1)]) i = [SV.sl 1 2 (AD [.int .i64 (BJ l (g+1) i),.int .i64 (BK l (g+1) i)] 1)]:=by
    refine⟨(H1 hp).symm,fun i hi=>?_⟩;unfold AH BJ BK
    by_cases h':i<BE l g
    ·rw[if_pos h',H3 (Nat.ne_of_lt h')]
    ·rw[if_neg h'];obtain rfl:i=BE l g:=by omega
     have sn:BI (H7 l) (g+1) (BE l g)=g:=HR hp;rw[sn];rfl
   have o:(BE l g+1)*24<=140737488355328:=by omega
   refine⟨⟨zr,ln⟩,⟨zr,ln⟩,o,jK,g+1,?_⟩;exact(by(try dsimp only);(repeat' with_reducible apply And.intro)<;>first|(with_reducible first|rfl|exact row.1|exact row.2|(intros;exact rfl)|exact trivial)|(intros;exact rfl)|exact row.1|exact row.2|exact(by omega)|exact trivial|(intro _ h_;exact absurd h_ (oE _)))
  ·have hp:H7 l g=false:=hp;refine⟨jK,g+1,?_⟩;have row:BE l g=BE l (g+1)/\∀(i:Nat),i<BE l g -> [SV.sl 1 2 (AD [.int .i64 (BJ l g i),.int .i64 (BK l g i)] 1)]= [SV.sl 1 2 (AD [.int .i64 (BJ l (g+1) i),.int .i64 (BK l (g+1) i)] 1)]:=by
    refine⟨(GW hp).symm,fun i hi=>?_⟩;unfold BJ BK;rw[IC hp]
   exact(by(try dsimp only);(repeat' with_reducible apply And.intro)<;>first|(with_reducible first|rfl|exact row.1|exact row.2|(intros;exact rfl)|exact trivial)|(intros;exact rfl)|exact row.1|exact row.2|exact(by omega)|exact trivial|(intro _ h_;exact absurd h_ (oE _)))
 ·have hge:¬ (g:Int)<(Au l:Int):=of_decide_eq_false hge;obtain rfl:g=Au l:=by omega
  exact rz)
theorem AcM:Az prog 80 dI:=AN func80 (c:=Ae f80) (by kernel_rfl) mixed (fun _ _ _ hs hp=>by
 unfold dH at hs;split at hs
 ·cases hs;exact⟨_,_,AcL _ hp.2,(.p (.sl hp.1) .nil),⟨show Aa prog _ from(Aa.cons Aba Abb (Aa.cons Wv Ww Aa.nil)),rfl,nz⟩⟩
 ·cases hs)
theorem AcN:An prog 80:=fun _ _=>by kernel_rfl
def dJ (l:L.Sq L.Pt) (b:Int):Prop:=Am l=true/\0<=b/\b<=4096
def dK (l:L.Sq L.Pt) (b:Int):SV:=.tup [.sl 1 (DF l b) (fun i=>[.sl 1 2 (AD [.int .i64 (BJ l (Au l) i),.int .i64 (BK l (Au l) i)] 1)]),.sl 1 (Et l b) (fun i=>[.sl 1 3 (AD [.int .i64 (C2 (BW l b (AP l).n) i),.int .i64 (C3 (BW l b (AP l).n) i),.int .i64 (C4 (BW l b (AP l).n) i)] 1)]),.bool (Cm l b)]
def dL:List EV->Option (Prop×SV)
 |[.p (.sl 2 l_n l_g),.p (.int .i64 b)]=>some ((∀i,i<l_n->l_g i = [.int .i64 (Ad (l_g i)).x,.int .i64 (Ad (l_g i)).y])/\dJ ⟨l_n,fun i=>Ad (l_g i)⟩ b,dK ⟨l_n,fun i=>Ad (l_g i)⟩ b)
 |_=>none
abbrev R6:SE.Spec:=(AM dL)
def AcO:Aj:={ cC with muts:=[10,14],specs:=AE [(40,QI),(42,Rw),(80,dI)],nils:=B3 [(2,[(5,50,69,1)])] }
theorem AcP (l:L.Sq L.Pt) (b:Int) (hp:dJ l b):vc prog ({ AcO with loops:=AT [(3,{ T:=Nat,keep:=[0,1,20,21],keepO:=[],chg:=fun k=>[(5,.row 50),(22,.p (.int .i64 (k:Int)))],own:=fun k=>[(50,.row 69 1 (AZ (BW l b k)) (fun i=>[.sl 1 3 (AD [.int .i64 (C2 (BW l b k) i),.int .i64 (C3 (BW l b k) i),.int .i64 (C4 (BW l b k) i)] 1)]))],inv:=fun k=>k<=(AP l).n/\FX l b k=true,mu:=fun k=>(AP l).n-k }),(9,{ T:=Nat×Nat,keep:=[0,1,20,21,22,35,36],keepO:=[],tie:=fun g=>[(22,.int .i64 (g.1:Int))],chg:=fun g=>[(5,.row 50),(37,.p (.int .i64 (g.2:Int)))],own:=fun g=>[(50,.row 69 1 (AZ (Cd l b g.1 g.2)) (fun i=>[.sl 1 3 (AD [.int .i64 (C2 (Cd l b g.1 g.2) i),.int .i64 (C3 (Cd l b g.1 g.2) i),.int .i64 (C4 (Cd l b g.1 g.2) i)] 1)]))],inv:=fun g=>(g.1<(AP l).n/\FX l b g.1=true)/\g.2<=AZ (Cj l b g.1),mu:=fun g=>AZ (Cj l b g.1)-g.2 })]}) (Ae f39) (Ao f39 [.p (.sl 2 l.n (fun i=>[.int .i64 (l.g i).x,.int .i64 (l.g i).y])),.p (.int .i64 b)]) (AL prog f39 (dK l b)):=
 @Eq.mpr _ (let I:=SV.int .i64;let T:=AhD;let A29:=(1:Int);let A25:=(0:Int);let A19:=(3:Nat);let A15:=(AP l);let A24:=(BW l b A15.n);let A13:=(l.n=l.n/\∀(i:Nat),let A27:=[I (l.g i).x,I (l.g i).y];i<l.n->A27=A27);let A9:=(1:Nat);let A8:=(∀(i:Nat),let A28:=[I (l.g i).x,I (l.g i).y];i<l.n->A28=A28);let A1:=(L.Sq.mk l.n fun(i:Nat)=>l.g i);let A12:=(↑(Eg A1):Int);(A8/\l.n<=1000000)/\∀(t:Nat->AG),let A6:=(Eg A1=Eg A1/\∀(i:Nat),let A21:=[I (t i).fr,I (t i).to_,I (t i).area];i<Eg (L.Sq.mk l.n fun(i:Nat)=>l.g i)->A21=A21);(Am A1=true->D0 Fs (Cz A1).n (Cz A1).g t)->(∃(g:Nat),let A23:=(BW l b g);A25=(↑g:Int)/\(0=AZ A23/\∀(i:Nat),i<0 -> []= [SV.sl A9 A19 (AD [I (C2 A23 i),I (C3 A23 i),I (C4 A23 i)] A9)])/\g<=A15.n/\FX l b g=true)/\∀(g:Nat),let A11:=(↑g:Int);let A26:=(t (T A11));let A10:=(BW l b g);let A4:=(BM A1 A26 b);let A14:=(↑(AU A4).n:Int);g<=A15.n/\FX l b g=true->(decide (A11<A12)=true->(A25<=A11/\A11<A12)/\(A8/\Am A1=true/\Df (↑l.n:Int) A26/\A25<=b/\b<=(4096:Int))/\((!Bm A4)=true->DF l b=0/\Et l b=0/\false=Cm l b)/\((!Bm A4)=false->(∃(g_1:Nat×Nat),let A17:=(Cd l b g_1.1 g_1.2);A25=(↑g_1.2:Int)/\(AZ A10=AZ A17/\∀(i:Nat),i<AZ A10 -> [SV.sl A9 A19 (AD [I (C2 A10 i),I (C3 A10 i),I (C4 A10 i)] A9)]= [SV.sl A9 A19 (AD [I (C2 A17 i),I (C3 A17 i),I (C4 A17 i)] A9)])/\A11=(↑g_1.1:Int)/\(g_1.1<A15.n/\FX l b g_1.1=true)/\g_1.2<=AZ (Cj l b g_1.1))/\∀(g_1:Nat×Nat),let A16:=(↑g_1.2:Int);let A3:=(Cd l b g_1.1 g_1.2);A11=(↑g_1.1:Int)/\(g_1.1<A15.n/\FX l b g_1.1=true)/\g_1.2<=AZ (Cj l b g_1.1)->(decide (A16<A14)=true->(A25<=A16/\A16<A14)/\(AZ A3+1)*24<=140737488355328/\Ab .i64 (A16+A29)/\∃(g':Nat×Nat),let A18:=(Cd l b g'.1 g'.2);A16+A29=(↑g'.2:Int)/\A14=A14/\((AU A4).n=(AU A4).n/\∀(i:Nat),let A2:=(AU (BM (L.Sq.mk l.n fun(i:Nat)=>l.g i) A26 b));let A20:=[I (A2.g i).a,I (A2.g i).b,I (A2.g i).c];i<A2.n->A20=A20)/\A11=A11/\A12=A12/\A6/\A13/\b=b/\(AZ A3+1=AZ A18/\∀(i:Nat),let A5:=((AU (BM (L.Sq.mk l.n fun(i:Nat)=>l.g i) A26 b)).g (T A16));i<AZ A3+1->AH (AZ A3) (fun(i:Nat)=>[SV.sl A9 A19 (AD [I (C2 A3 i),I (C3 A3 i),I (C4 A3 i)] A9)]) (fun(x:Nat)=>[SV.sl 1 3 (AD [I A5.a,I A5.b,I A5.c] 1)]) i = [SV.sl A9 A19 (AD [I (C2 A18 i),I (C3 A18 i),I (C4 A18 i)] A9)])/\(A11=(↑g'.1:Int)/\(g'.1<A15.n/\FX l b g'.1=true)/\g'.2<=AZ (Cj l b g'.1))/\AZ (Cj l b g'.1)-g'.2<AZ (Cj l b g_1.1)-g_1.2)/\(decide (A16<A14)=false->Ab .i64 (A11+A29)/\∃(g':Nat),let A22:=(BW l b g');A11+A29=(↑g':Int)/\A12=A12/\A6/\A13/\b=b/\(AZ A3=AZ A22/\∀(i:Nat),i<AZ A3 -> [SV.sl A9 A19 (AD [I (C2 A3 i),I (C3 A3 i),I (C4 A3 i)] A9)]= [SV.sl A9 A19 (AD [I (C2 A22 i),I (C3 A22 i),I (C4 A22 i)] A9)])/\(g'<=A15.n/\FX l b g'=true)/\A15.n-g'<A15.n-g)))/\(decide (A11<A12)=false->(A8/\Am A1=true)/\(BE A1 (Au A1)=DF l b/\∀(i:Nat),let A7:=(L.Sq.mk l.n fun(i:Nat)=>l.g i);let A30:=(Au A7);i<BE A7 A30 -> [SV.sl A9 2 (AD [I (BJ A7 A30 i),I (BK A7 A30 i)] A9)]= [SV.sl A9 2 (AD [I (BJ l (Au l) i),I (BK l (Au l) i)] A9)])/\(AZ A10=Et l b/\∀(i:Nat),i<AZ A10 -> [SV.sl A9 A19 (AD [I (C2 A10 i),I (C3 A10 i),I (C4 A10 i)] A9)]= [SV.sl A9 A19 (AD [I (C2 A24 i),I (C3 A24 i),I (C4 A24 i)] A9)])/\true=Cm l b)) (by kernel_rfl) (by
 conv=>zeta
 obtain⟨hv,b0,b1⟩:=(show Am l=true/\0<=b/\b<=4096 from hp);obtain⟨n3,n24,hsm,hbd⟩:=CZ hv;have ln:l.n<=1000000:=by omega
 refine⟨⟨zr,ln⟩,fun t ht=>?_⟩;obtain⟨pn,pg⟩:=Ac5 hv (ht hv);have eN:Eg l=(AP l).n:=by unfold Eg;rw[hv];exact pn
 have hr:=MC hv;rw[eN];refine⟨⟨0,rfl,⟨rfl,fun i hi=>absurd hi (oE _)⟩,rH _,rfl⟩,fun g hg0=>⟨fun hlt=>?_,fun hge=>?_⟩⟩
 ·obtain⟨hg,hcan⟩:=hg0;have hlt:g<(AP l).n:=by have:=of_decide_eq_true hlt;omega
  have e0:((g:Int)).toNat=g:=Ah7 g;rw[e0,pg g (by omega)];have lw:=O3 hv (b:=b) hlt;have lb:=O4 hv (b:=b) g hg;have eW:(AU (BM l ((AP l).g g) b)).n=(Cj l b g).length:=rfl;refine⟨⟨by omega,by omega⟩,⟨zr,hv,KP hv hlt,b0,b1⟩,fun h=>?_,fun h=>⟨⟨(g,0),rfl,?_,rfl,⟨hlt,hcan⟩,rH _⟩,fun g1 hg1=>?_⟩⟩
  ·have h:Bm (BM l ((AP l).g g) b)=false:=CC h;have e:Cm l b=false:=G6 (i:=g) hlt h;unfold DF Et;rw[e];exact⟨rfl,rfl,rfl⟩
  ·show AZ (BW l b g)=AZ (Cd l b g 0)/\∀i,i<AZ (BW l b g)->_ = [SV.sl 1 3 (AD [.int .i64 (C2 (Cd l b g 0) i),.int .i64 (C3 (Cd l b g 0) i),.int .i64 (C4 (Cd l b g 0) i)] 1)];rw[cZ];exact rz
  ·obtain⟨k,j⟩:=g1;obtain⟨q1,q2,q3⟩:=hg1;have q1:(g:Int)=(k:Int):=q1;obtain rfl:g=k:=by omega
   have q3:j<=(Cj l b g).length:=q3;have e3:((j:Int)).toNat=j:=Ah7 j;refine⟨fun hl=>?_,fun hl=>?_⟩
   ·have hj : j<(Cj l b g).length :=by
     have hl:(j:Int)<((Cj l b g).length:Int):=of_decide_eq_true hl;omega
    have row:=cY (l:=l) (b:=b) (k:=g) hj;have lt:AZ (Cd l b g j)<=100000:=by
     unfold AZ Cd;rw[AhU,List.length_take];omega
    have o:(AZ (Cd l b g j)+1)*24<=140737488355328:=by omega
    have bd:0<=(j:Int)/\(j:Int)<((AU (BM l ((AP l).g g) b)).n:Int):=by rw[eW];omega
    have hm:AZ (Cj l b g)-(j+1)<AZ (Cj l b g)-j:=by unfold AZ;omega
    dsimp only;rw[e3];refine⟨bd,o,jK,(g,j+1),?_⟩;exact(by(try dsimp only);(repeat' with_reducible apply And.intro)<;>first|(with_reducible first|rfl|assumption|exact row.1|exact row.2|(intros;exact rfl)|exact trivial)|(intros;exact rfl)|exact row.1|exact row.2|exact hlt|exact hcan|exact hj|exact hm|exact(by omega)|exact trivial|(intro _ h_;exact absurd h_ (oE _)))
   ·have hj : j = (Cj l b g).length :=by
     have hl:¬ (j:Int)<((Cj l b g).length:Int):=of_decide_eq_false hl;omega
    have row:=dA l b g;unfold AZ at row;subst hj;have nx:FX l b (g+1)=true:=by
     unfold FX at *;show(Ch g _&&_)=true;rw[hcan];exact B5 h
    refine⟨jK,g+1,?_⟩;dsimp only;rw[row];exact(by(try dsimp only);(repeat' with_reducible apply And.intro)<;>first|(with_reducible first|rfl|assumption|(intros;exact rfl)|exact trivial)|(intros;exact rfl)|exact hlt|exact nx|exact(by omega)|exact trivial|(intro _ h_;exact absurd h_ (oE _)))
 ·have hge:¬ (g:Int)<((AP l).n:Int):=of_decide_eq_false hge;obtain rfl:g=(AP l).n:=by omega
  have hc:Cm l b=true:=hg0.2;have e1:DF l b=BE l (Au l):=by unfold DF;rw[hc];rfl
  have e2:Et l b=AZ (BW l b (AP l).n):=by unfold Et;rw[hc];rfl
  rw[e1,e2,hc];exact⟨⟨zr,hv⟩,rz,rz,rfl⟩)
theorem dM:Az prog 39 R6:=AN func39 (c:=Ae f39) (by kernel_rfl) mixed (fun _ _ _ hs hp=>by
 unfold dL at hs;split at hs
 ·cases hs;exact⟨_,_,AcP _ _ hp.2,(.p (.sl hp.1) (.same _ .nil)),⟨show Aa prog _ from(Aa.cons X4 X5 (Aa.cons cH cI (Aa.cons AcM AcN Aa.nil))),rfl,nz⟩⟩
 ·cases hs)
theorem dN:An prog 39:=fun _ _=>by kernel_rfl
def dO (l:L.Sq L.Pt) (b:Int):Prop:=l.n<=1000000
def dP (l:L.Sq L.Pt) (b:Int):SV:=.tup [.bool (bif CO l b then false else Cm l b),.int .i64 (bif CO l b then 1 else 0)]
def dQ:List EV->Option (Prop×SV)
 |[.p (.sl 2 l_n l_g),.p (.int .i64 b)]=>some ((∀i,i<l_n->l_g i = [.int .i64 (Ad (l_g i)).x,.int .i64 (Ad (l_g i)).y])/\dO ⟨l_n,fun i=>Ad (l_g i)⟩ b,dP ⟨l_n,fun i=>Ad (l_g i)⟩ b)
 |_=>none
abbrev dR:SE.Spec:=(AM dQ)
def AcQ:Aj:={ cC with specs:=AE [(37,J3),(38,II),(39,R6)] }
theorem AcR (l:L.Sq L.Pt) (b:Int) (hp:dO l b):vc prog (AcQ) (Ae f9) (Ao f9 [.p (.sl 2 l.n (fun i=>[.int .i64 (l.g i).x,.int .i64 (l.g i).y])),.p (.int .i64 b)]) (AL prog f9 (dP l b)):=
 @Eq.mpr _ (let I:=SV.int .i64;let A4:=(0:Int);let A2:=(∀(i:Nat),let A5:=[I (l.g i).x,I (l.g i).y];i<l.n->A5=A5);let A1:=(L.Sq.mk l.n fun(i:Nat)=>l.g i);let A3:=(bif !Am A1 then true else !AI b A4 (4096:Int));(A2/\l.n<=1000000)/\((!!Am A1)=true->True)/\(A3=true->(false=bif CO l b then false else Cm l b)/\(1:Int)=bif CO l b then(1:Int)else A4)/\(A3=false->(A2/\Am A1=true/\A4<=b/\b<=(4096:Int))/\(Cm A1 b=bif CO l b then false else Cm l b)/\A4=bif CO l b then(1:Int)else A4)) (by kernel_rfl) (by
 conv=>zeta
 have hn:l.n<=1000000:=hp;refine⟨⟨zr,hn⟩,fun _=>trivial,fun h=>?_,fun h=>?_⟩
 ·have h:CO l b=true:=h;rw[h];exact⟨rfl,rfl⟩
 ·have h:CO l b=false:=h;rw[h];unfold CO at h;rw[De,AhJ]at h;have hv:=B5 h.1;have hw:=B5 h.2;unfold AI at hw;rw[pR,decide_eq_true_eq,decide_eq_true_eq]at hw;exact⟨⟨zr,hv,hw.1,hw.2⟩,rfl,rfl⟩)
theorem AcS:Az prog 9 dR:=AN func9 (c:=Ae f9) (by kernel_rfl) mixed (fun _ _ _ hs hp=>by
 unfold dQ at hs;split at hs
 ·cases hs;exact⟨_,_,AcR _ _ hp.2,(.p (.sl hp.1) (.same _ .nil)),⟨show Aa prog _ from(Aa.cons KA KB (Aa.cons JB JC (Aa.cons dM dN Aa.nil))),rfl,nz⟩⟩
 ·cases hs)
theorem AcT:An prog 9:=fun _ _=>by kernel_rfl
def JG (l:L.Sq L.Pt) (r:L.Sq Int) (b:Int) (i k:Nat):Bool:=bif decide (i<k)then Bm (Bn l r b i k)else false
def Ce (l:L.Sq L.Pt) (r:L.Sq Int) (b:Int) (d i x y:Nat):Bool:=bif decide (y<x+d)||(decide (y=x+d)&&decide (x<i))then JG l r b x y else false
def KQ (l:L.Sq L.Pt) (r:L.Sq Int) (b:Int) (d i m:Nat):Bool:=decide (d=1)||BH m fun k=>Bm (CF l r b i (i+d) (i+1+k))
def Dh (l:L.Sq L.Pt) (r:L.Sq Int) (b:Int) (d i m x y:Nat):Bool:=bif decide (x=i)&&decide (y=i+d)then KQ l r b d i m else Ce l r b d i x y
theorem AcU {l:L.Sq L.Pt} {r:L.Sq Int} {b:Int} {x y:Nat}:Ce l r b 1 0 x y=false:=by
 unfold Ce JG
 by_cases h:x<y
 ·simp;omega
 ·simp[h]
theorem AcV {l:L.Sq L.Pt} {r:L.Sq Int} {b:Int} {d i x y:Nat} (hy:y<i+d):Ce l r b d i x y=Ce l r b (d+1) 0 x y:=by
 unfold Ce;congr 1;rw[Ai6];simp;omega
theorem AcW {l:L.Sq L.Pt} {r:L.Sq Int} {b:Int} {d x y:Nat} (hy:y<d):Ce l r b d 0 x y=JG l r b x y:=by
 unfold Ce;simp;omega
theorem AcX {l:L.Sq L.Pt} {r:L.Sq Int} {b:Int} {d i x y:Nat}:GK (fun x y=>[.bool (Ce l r b d i x y)]) i (i+d) [.bool (decide ((d:Int)=1))] x y = [.bool (Dh l r b d i 0 x y)]:=by
 rw[show decide ((d:Int)=1)=decide (d=1)by rw[decide_eq_decide];omega];unfold GK Dh KQ
 by_cases h1:x=i<;>by_cases h2:y=i+d<;>simp[h1,h2,BH]
theorem AcY {l:L.Sq L.Pt} {r:L.Sq Int} {b:Int} {d i m x y:Nat} (h:Bm (CF l r b i (i+d) (i+1+m))=true):GK (fun x y=>[.bool (Dh l r b d i m x y)]) i (i+d) [.bool true] x y = [.bool (Dh l r b d i (m+1) x y)]:=by
 unfold GK Dh KQ
 by_cases h1:x=i<;>by_cases h2:y=i+d<;>simp[h1,h2,BH,h]
theorem AcZ {l:L.Sq L.Pt} {r:L.Sq Int} {b:Int} {d i m x y:Nat} (h:Bm (CF l r b i (i+d) (i+1+m))=false):Dh l r b d i m x y=Dh l r b d i (m+1) x y:=by
 unfold Dh KQ
 by_cases h1:x=i<;>by_cases h2:y=i+d<;>simp[h1,h2,BH,h]
theorem Ada {n:Nat} {f:Nat->Option (List Bt)}:Bm (Es f n)=BH n fun k=>Bm (f k):=by
 rw[Ai6,EO];exact cW
theorem Adb {l:L.Sq L.Pt} {r:L.Sq Int} {b:Int} {d i x y:Nat} (hd:1<=d) (hi:i+d<r.n):Dh l r b d i (d-1) x y=Ce l r b d (i+1) x y:=by
 unfold Dh
 by_cases h:x=i/\y=i+d
 ·obtain⟨rfl,rfl⟩:=h;have e:KQ l r b d x (d-1)=Bm (Bn l r b x (x+d)):=by
   unfold KQ
   by_cases h1:d=1
   ·subst h1;rw[Rt l r b rfl hi];simp[Bm]
   ·rw[M7 l r b (by omega) (by omega) hi,Ada];simp[h1]
  rw[e];unfold Ce JG;simp;omega
 ·have e:(decide (x=i)&&decide (y=i+d))=false:=by simpa using h
  rw[e];show Ce l r b d i x y=_;unfold Ce;congr 1;rw[Ai6];simp;omega
theorem Adc {l:L.Sq L.Pt} {r:L.Sq Int} {b:Int} {d i m:Nat} (h:i+1+m<i+d):Dh l r b d i m i (i+1+m)=Bm (Bn l r b i (i+1+m)):=by
 unfold Dh Ce JG;rw[decide_eq_false (show ¬ i+1+m=i+d by omega),decide_eq_true h,decide_eq_true (show i<i+1+m by omega),Bool.and_false];rfl
theorem Ade {l:L.Sq L.Pt} {r:L.Sq Int} {b:Int} {d i m:Nat} (h:i+1+m<i+d):Dh l r b d i m (i+1+m) (i+d)=Bm (Bn l r b (i+1+m) (i+d)):=by
 unfold Dh Ce JG;rw[decide_eq_false (show ¬ i+1+m=i by omega),decide_eq_true (show i+d<i+1+m+d by omega),decide_eq_true h];rfl
theorem dS {l:L.Sq L.Pt} {r:L.Sq Int} {b:Int} {a k m:Nat}:(bif bif Bm (Bn l r b a m)then Bm (Bn l r b m k)else false then DV (l.g (r.g a).toNat) (l.g (r.g m).toNat) (l.g (r.g k).toNat) b else false)=Bm (CF l r b a k m):=by
 unfold CF E2 Fw;cases DV (l.g (r.g a).toNat) (l.g (r.g m).toNat) (l.g (r.g k).toNat) b<;>cases Bn l r b a m<;>cases Bn l r b m k<;>rfl
theorem dT {l:L.Sq L.Pt} (hv:Am l=true) {k:Nat} (hk:k<l.n):decide (Cp l k = -1)= !decide (0<Cp l k):=by
 have h:=(Mz hv).2 k hk;unfold Cp B0;generalize Ay (l.g (Ew l.n k)) (l.g k) (l.g (BO l.n k))=c at h ⊢;rcases Int.lt_trichotomy c 0 with q|q|q
 ·rw[decide_eq_true q];rfl
 ·exact absurd q h
 ·rw[decide_eq_false (show ¬ c<0 by omega),decide_eq_true q];rfl
def dU (u:L.Pt) (m:L.Pt) (v:L.Pt) (b:Int):Prop:=Du u/\Du m/\Du v/\0<=b/\b<=4096
def dV (u:L.Pt) (m:L.Pt) (v:L.Pt) (b:Int):SV:=.bool (DV u m v b)
def dW:List EV->Option (Prop×SV)
 |[.p (.agg [.int .i64 u_x,.int .i64 u_y]),.p (.agg [.int .i64 m_x,.int .i64 m_y]),.p (.agg [.int .i64 v_x,.int .i64 v_y]),.p (.int .i64 b)]=>some (dU (⟨u_x,u_y⟩:L.Pt) (⟨m_x,m_y⟩:L.Pt) (⟨v_x,v_y⟩:L.Pt) b,dV (⟨u_x,u_y⟩:L.Pt) (⟨m_x,m_y⟩:L.Pt) (⟨v_x,v_y⟩:L.Pt) b)
 |_=>none
abbrev O5:SE.Spec:=(AM dW)
def Adf:Aj:={ cC with specs:=AE [(12,IG),(72,QT)] }
theorem Adg (u:L.Pt) (m:L.Pt) (v:L.Pt) (b:Int) (hp:dU u m v b):vc prog (Adf) (Ae f47) (Ao f47 [.p (.agg [.int .i64 u.x,.int .i64 u.y]),.p (.agg [.int .i64 m.x,.int .i64 m.y]),.p (.agg [.int .i64 v.x,.int .i64 v.y]),.p (.int .i64 b)]) (AL prog f47 (dV u m v b)):=
 @Eq.mpr _ (let A7:=(0:Int);let A6:=(v.y-m.y);let A5:=(m.y-u.y);let A4:=(v.x-m.x);let A3:=(m.x-u.x);let A2:=(A7-Ay u v m);let A1:=(bif !decide (Ay u v m=A7)then decide (Max.max (Ay u v m) A2<=A3*A4+A5*A6)else false);(As u/\As v/\As m)/\Ab .i64 A3/\Ab .i64 A4/\Ab .i64 (A3*A4)/\Ab .i64 A5/\Ab .i64 A6/\Ab .i64 (A5*A6)/\Ab .i64 (A3*A4+A5*A6)/\((!decide (Ay u v m=A7))=true->Ab .i64 A2)/\(A1=true->Ab .i64 (Ay u v m*Ay u v m))/\(A1=true->Ab .i64 (b*b))/\(A1=true->As u/\As v)/\(A1=true->Ab .i64 (b*b*DB u v))/\(bif bif !decide (Ay u v m=A7)then decide (Max.max (Ay u v m) A2<=A3*A4+A5*A6)else false then decide (Ay u v m*Ay u v m<=b*b*DB u v)else false)=DV u m v b) (by kernel_rfl) (by
 conv=>zeta
 obtain⟨h1,h2,h3,b0,b1⟩:=hp;unfold Du at h1 h2 h3;have eC:Ay u v m=(v.x-u.x)*(m.y-u.y)-(v.y-u.y)*(m.x-u.x):=rfl;have eD:DB u v=(v.x-u.x)*(v.x-u.x)+(v.y-u.y)*(v.y-u.y):=rfl;rw[eC,eD];have m1:=Dd (a:=v.x-u.x) (b:=m.y-u.y) (m:=4096) (n:=4096) (by omega) (by omega) (by omega) (by omega);have m2:=Dd (a:=v.y-u.y) (b:=m.x-u.x) (m:=4096) (n:=4096) (by omega) (by omega) (by omega) (by omega);have m3:=Dd (a:=m.x-u.x) (b:=v.x-m.x) (m:=4096) (n:=4096) (by omega) (by omega) (by omega) (by omega);have m4:=Dd (a:=m.y-u.y) (b:=v.y-m.y) (m:=4096) (n:=4096) (by omega) (by omega) (by omega) (by omega);have m5:=Dd (a:=v.x-u.x) (b:=v.x-u.x) (m:=4096) (n:=4096) (by omega) (by omega) (by omega) (by omega);have m6:=Dd (a:=v.y-u.y) (b:=v.y-u.y) (m:=4096) (n:=4096) (by omega) (by omega) (by omega) (by omega);have m7:=Dd (a:=(v.x-u.x)*(m.y-u.y)-(v.y-u.y)*(m.x-u.x)) (b:=(v.x-u.x)*(m.y-u.y)-(v.y-u.y)*(m.x-u.x)) (m:=33554432) (n:=33554432) (by omega) (by omega) (by omega) (by omega);have m8:=Dd (a:=b) (b:=b) (m:=4096) (n:=4096) (by omega) (by omega) (by omega) (by omega);have m9:=Dd (a:=b*b) (b:=(v.x-u.x)*(v.x-u.x)+(v.y-u.y)*(v.y-u.y)) (m:=16777216) (n:=33554432) (by omega) (by omega) (by omega) (by omega)
 repeat' with_reducible apply And.intro
 all_goals first|exact rfl|exact jK|exact fun _=>jK|(unfold As;omega)|(intro _;unfold As;omega))
theorem R7:Az prog 47 O5:=AN func47 (c:=Ae f47) (by kernel_rfl) mixed (fun _ _ _ hs hp=>by
 unfold dW at hs;split at hs
 ·cases hs;exact⟨_,_,Adg _ _ _ _ hp,(.same _ (.same _ (.same _ (.same _ .nil)))),⟨show Aa prog _ from(Aa.cons J7 J8 (Aa.cons Yf Yg Aa.nil)),rfl,nz⟩⟩
 ·cases hs)
theorem R8:An prog 47:=fun _ _=>by kernel_rfl
def dX (u:L.Pt) (m:L.Pt) (v:L.Pt) (b:Int):Prop:=True
def dY (u:L.Pt) (m:L.Pt) (v:L.Pt) (b:Int):SV:=.tup [.bool (bif DN u m v b then false else DV u m v b),.int .i64 (bif DN u m v b then 1 else 0)]
def dZ:List EV->Option (Prop×SV)
 |[.p (.agg [.int .i64 u_x,.int .i64 u_y]),.p (.agg [.int .i64 m_x,.int .i64 m_y]),.p (.agg [.int .i64 v_x,.int .i64 v_y]),.p (.int .i64 b)]=>some (dX (⟨u_x,u_y⟩:L.Pt) (⟨m_x,m_y⟩:L.Pt) (⟨v_x,v_y⟩:L.Pt) b,dY (⟨u_x,u_y⟩:L.Pt) (⟨m_x,m_y⟩:L.Pt) (⟨v_x,v_y⟩:L.Pt) b)
 |_=>none
abbrev eE:SE.Spec:=(AM dZ)
def Adh:Aj:={ cC with specs:=AE [(45,QR),(46,M6),(47,O5)] }
theorem Adi (u:L.Pt) (m:L.Pt) (v:L.Pt) (b:Int) (hp:dX u m v b):vc prog (Adh) (Ae f13) (Ao f13 [.p (.agg [.int .i64 u.x,.int .i64 u.y]),.p (.agg [.int .i64 m.x,.int .i64 m.y]),.p (.agg [.int .i64 v.x,.int .i64 v.y]),.p (.int .i64 b)]) (AL prog f13 (dY u m v b)):=
 @Eq.mpr _ (let A2:=(0:Int);let A1:=(bif bif bif !B4 u then true else !B4 m then true else !B4 v then true else !AI b A2 (4096:Int));True/\((!!B4 u)=true->True)/\((!bif !B4 u then true else !B4 m)=true->True)/\((!bif bif !B4 u then true else !B4 m then true else !B4 v)=true->True)/\(A1=true->(false=bif DN u m v b then false else DV u m v b)/\(1:Int)=bif DN u m v b then(1:Int)else A2)/\(A1=false->(Du u/\Du m/\Du v/\A2<=b/\b<=(4096:Int))/\(DV u m v b=bif DN u m v b then false else DV u m v b)/\A2=bif DN u m v b then(1:Int)else A2)) (by kernel_rfl) (by
 conv=>zeta
 refine⟨trivial,fun _=>trivial,fun _=>trivial,fun _=>trivial,fun h=>?_,fun h=>?_⟩
 ·have h:DN u m v b=true:=h;rw[h];exact⟨rfl,rfl⟩
 ·have h:DN u m v b=false:=h;rw[h];unfold DN at h;rw[De,De,De,AhJ,AhJ,AhJ]at h;obtain⟨⟨⟨h1,h2⟩,h3⟩,h4⟩:=h;have h4:AI b 0 4096=true:=B5 h4;unfold AI at h4;rw[pR,decide_eq_true_eq,decide_eq_true_eq]at h4;exact⟨⟨FF.1 (B5 h1),FF.1 (B5 h2),FF.1 (B5 h3),h4.1,h4.2⟩,rfl,rfl⟩)
theorem Adj:Az prog 13 eE:=AN func13 (c:=Ae f13) (by kernel_rfl) mixed (fun _ _ _ hs hp=>by
 unfold dZ at hs;split at hs
 ·cases hs;exact⟨_,_,Adi _ _ _ _ hp,(.same _ (.same _ (.same _ (.same _ .nil)))),⟨show Aa prog _ from(Aa.cons XS XT (Aa.cons Oq Ot (Aa.cons R7 R8 Aa.nil))),rfl,nz⟩⟩
 ·cases hs)
theorem Adk:An prog 13:=fun _ _=>by kernel_rfl
def eG (l:L.Sq L.Pt) (p:AG):Prop:=l.n<=1000/\Df l.n p
def eI (l:L.Sq L.Pt) (p:AG):SV:=.sl 1 (Bb l.n p+1) (fun i=>[.int .i64 (Bz l.n p i)])
def eJ:List EV->Option (Prop×SV)
 |[.p (.sl 2 l_n l_g),.p (.agg [.int .i64 p_fr,.int .i64 p_to_,.int .i64 p_area])]=>some ((∀i,i<l_n->l_g i = [.int .i64 (Ad (l_g i)).x,.int .i64 (Ad (l_g i)).y])/\eG ⟨l_n,fun i=>Ad (l_g i)⟩ (⟨p_fr,p_to_,p_area⟩:AG),eI ⟨l_n,fun i=>Ad (l_g i)⟩ (⟨p_fr,p_to_,p_area⟩:AG))
 |_=>none
abbrev eM:SE.Spec:=(AM eJ)
def Adl:Aj:={ cC with muts:=[9],frz:=B9 [(6,[9])] }
theorem Adm (l:L.Sq L.Pt) (p:AG) (hp:eG l p):vc prog ({ Adl with loops:=AT [(3,{ T:=Nat,keep:=[0,3],keepO:=[],chg:=fun i=>[(5,.row 9),(6,.p (.int .i64 (Bz l.n p i)))],own:=fun i=>[(9,.row 3 1 (i+1) (fun j=>[.int .i64 (Bz l.n p j)]))],inv:=fun i=>i<=Bb l.n p,mu:=fun i=>Bb l.n p-i })]}) (Ae f90) (Ao f90 [.p (.sl 2 l.n (fun i=>[.int .i64 (l.g i).x,.int .i64 (l.g i).y])),.p (.agg [.int .i64 p.fr,.int .i64 p.to_,.int .i64 p.area])]) (AL prog f90 (eI l p)):=
 @Eq.mpr _ (let I:=SV.int .i64;let A5:=[I p.fr,I p.to_,I p.area];let A2:=(1:Nat);let A1:=(↑l.n:Int);(∃(g:Nat),p.fr=Bz A1 p g/\(1=g+A2/\∀(i:Nat),i<1->AD [I p.fr] 1 i = [I (Bz A1 p i)])/\g<=Bb A1 p)/\∀(g:Nat),let A4:=(!decide (Bz A1 p g=p.to_));let A3:=(Bz A1 p g+(1:Int));g<=Bb A1 p->(A4=true->Ab .i64 A3/\A1≠(0:Int)/\(g+A2+1)*8<=140737488355328/\∃(g':Nat),AhQ A3 A1=Bz A1 p g'/\SV.ref A5 0=SV.ref A5 0/\(l.n=l.n/\∀(i:Nat),let A6:=[I (l.g i).x,I (l.g i).y];i<l.n->A6=A6)/\(g+A2+1=g'+A2/\∀(i:Nat),i<g+A2+1->AH (g+A2) (fun(j:Nat)=>[I (Bz A1 p j)]) (fun(x:Nat)=>[I (AhQ A3 A1)]) i = [I (Bz A1 p i)])/\g'<=Bb A1 p/\Bb A1 p-g'<Bb A1 p-g)/\(A4=false->g+A2=Bb A1 p+A2/\∀(i:Nat),i<g+A2 -> [I (Bz A1 p i)]= [I (Bz A1 p i)])) (by kernel_rfl) (by
 conv=>zeta
 obtain⟨hn,hk⟩:=(show l.n<=1000/\Df l.n p from hp);obtain⟨d1,d2,f0,f1,fr,fe,fs⟩:=JD hk;refine⟨⟨(0:Nat),f0.symm,⟨rfl,fun i hi=>?_⟩,rH _⟩,fun g hg=>⟨fun hc=>?_,fun hc=>?_⟩⟩
 ·have hi:i<1:=hi;obtain rfl:i=0:=by omega
  rw[f0];rfl
 ·have hc:¬ Bz l.n p g=p.to_:=of_decide_eq_false (CC hc);have hlt:g<Bb l.n p:=by
   rcases Nat.lt_or_ge g (Bb l.n p)with h|h
   ·exact h
   ·obtain rfl:g=Bb l.n p:=by omega
    exact absurd f1 hc
  have hr:=fr g hg;refine⟨jK,by omega,by show(g+1+1)*8<=140737488355328;omega,g+1,fs g hlt,rfl,rz,⟨rfl,fun i hi=>?_⟩,hlt,by omega⟩;have hi:i<g+1+1:=hi;unfold AH
  by_cases e:i<g+1
  ·rw[if_pos e]
  ·rw[if_neg e];obtain rfl:i=g+1:=by omega
   rw[fs g hlt]
 ·have hc:Bz l.n p g=p.to_:=of_decide_eq_true (B5 hc);obtain rfl:=fe g hg hc;exact rz)
theorem Adn:Az prog 90 eM:=AN func90 (c:=Ae f90) (by kernel_rfl) mixed (fun _ _ _ hs hp=>by
 unfold eJ at hs;split at hs
 ·cases hs;exact⟨_,_,Adm _ _ hp.2,(.p (.sl hp.1) (.same _ .nil)),⟨show Aa prog _ from Aa.nil,rfl,nz⟩⟩
 ·cases hs)
theorem Ado:An prog 90:=fun _ _=>by kernel_rfl
def eO (l:L.Sq L.Pt):Prop:=l.n<=1000000
def eQ (l:L.Sq L.Pt):SV:=.tup [.sl 1 (bif Am l then l.n else 0) (fun k=>[.int .i64 (Cp l k)]),.int .i64 (bif Am l then 0 else 1)]
def eV:List EV->Option (Prop×SV)
 |[.p (.sl 2 l_n l_g)]=>some ((∀i,i<l_n->l_g i = [.int .i64 (Ad (l_g i)).x,.int .i64 (Ad (l_g i)).y])/\eO ⟨l_n,fun i=>Ad (l_g i)⟩,eQ ⟨l_n,fun i=>Ad (l_g i)⟩)
 |_=>none
abbrev eX:SE.Spec:=(AM eV)
def Adp:Aj:={ cC with specs:=AE [(7,M4),(33,J9),(12,IG),(119,QV)],nils:=B3 [(4,[(4,31,3,1)])] }
theorem Adq (l:L.Sq L.Pt) (hp:eO l):vc prog ({ Adp with loops:=AT [(5,{ T:=Nat,keep:=[0,4],keepO:=[],chg:=fun i=>[(5,.p (.int .i64 (i:Int)))],own:=fun i=>[(31,.row 3 1 i (fun k=>[.int .i64 (Cp l k)]))],inv:=fun i=>i<=l.n,mu:=fun i=>l.n-i })]}) (Ae f139) (Ao f139 [.p (.sl 2 l.n (fun i=>[.int .i64 (l.g i).x,.int .i64 (l.g i).y]))]) (AL prog f139 (eQ l)):=
 @Eq.mpr _ (let I:=SV.int .i64;let A10:=(↑l.n:Int);let A5:=(0:Int);let A4:=(!Am (L.Sq.mk l.n fun(i:Nat)=>l.g i));let A3:=(1:Int);let A1:=(∀(i:Nat),let A6:=[I (l.g i).x,I (l.g i).y];i<l.n->A6=A6);(A1/\True)/\(A4=true->(bif Am l then l.n else(0:Nat))=0/\A3=bif Am l then A5 else A3)/\(A4=false->(∃(g:Nat),A5=(↑g:Int)/\(0=g/\∀(i:Nat),i<0 -> []= [I (Cp l i)])/\g<=l.n)/\∀(g:Nat),let A2:=(↑g:Int);let A8:=(l.g (BY l.n (A2+A3)));let A7:=(l.g (BY l.n (A2-A3)));g<=l.n->(decide (A2<A10)=true->Ab .i64 (A2-A3)/\(A1/\(1:Nat)<=l.n/\l.n<=1000000/\(-1000000:Int)<=A2-A3/\A2-A3<=1000000)/\(A5<=A2/\A2<A10)/\Ab .i64 (A2+A3)/\(A1/\(1:Nat)<=l.n/\l.n<=1000000/\(-1000000:Int)<=A2+A3/\A2+A3<=1000000)/\(As A7/\As (l.g (AhD A2))/\As A8)/\True/\(g+1)*8<=140737488355328/\Ab .i64 (A2+A3)/\∃(g':Nat),A2+A3=(↑g':Int)/\(l.n=l.n/\∀(i:Nat),let A9:=[I (l.g i).x,I (l.g i).y];i<l.n->A9=A9)/\(g+1=g'/\∀(i:Nat),i<g+1->AH g (fun(k:Nat)=>[I (Cp l k)]) (fun(x:Nat)=>[I (B0 (Ay A7 (l.g (AhD A2)) A8) A5)]) i = [I (Cp l i)])/\g'<=l.n/\l.n-g'<l.n-g)/\(decide (A2<A10)=false->((g=bif Am l then l.n else(0:Nat))/\∀(i:Nat),i<g -> [I (Cp l i)]= [I (Cp l i)])/\A5=bif Am l then A5 else A3))) (by kernel_rfl) (by
 conv=>zeta
 have hn:l.n<=1000000:=hp;refine⟨⟨zr,trivial⟩,fun h=>?_,fun h=>?_⟩
 ·have h:Am l=false:=CC h;rw[h];exact⟨rfl,rfl⟩
 have hv:Am l=true:=B5 h;obtain⟨n3,n24,_,hbd⟩:=CZ hv;refine⟨⟨(0:Nat),rfl,⟨rfl,fun i hi=>absurd hi (oE _)⟩,rH _⟩,fun g hg=>⟨fun hlt=>?_,fun hge=>?_⟩⟩
 ·have hlt:(g:Int)<(l.n:Int):=of_decide_eq_true hlt;have hk:g<l.n:=by omega
  rw[My hk,XN hk];refine⟨jK,⟨zr,by omega,by omega,by omega,by omega⟩,⟨by omega,hlt⟩,jK,⟨zr,by omega,by omega,by omega,by omega⟩,⟨hbd.2 _ (NR (by omega)),hbd.2 g hk,hbd.2 _ (Gm (by omega))⟩,trivial,show(g+1)*8<=140737488355328 by omega,jK,g+1,by omega,rz,⟨rfl,fun i hi=>?_⟩,by omega,by omega⟩;have hi:i<g+1:=hi;unfold AH
  by_cases h':i<g
  ·rw[if_pos h']
  ·rw[if_neg h',show i=g by omega];rfl
 ·have hge:¬ (g:Int)<(l.n:Int):=of_decide_eq_false hge;obtain rfl:g=l.n:=by omega
  rw[hv];exact⟨rz,rfl⟩)
theorem Adr:Az prog 139 eX:=AN func139 (c:=Ae f139) (by kernel_rfl) mixed (fun _ _ _ hs hp=>by
 unfold eV at hs;split at hs
 ·cases hs;exact⟨_,_,Adq _ hp.2,(.p (.sl hp.1) .nil),⟨show Aa prog _ from(Aa.cons Ob Oc (Aa.cons KI KJ (Aa.cons J7 J8 (Aa.cons Yt Yu Aa.nil)))),rfl,nz⟩⟩
 ·cases hs)
theorem Ads:An prog 139:=fun _ _=>by kernel_rfl
def eY (l:L.Sq L.Pt) (r:L.Sq Int):Prop:=Am l=true/\(2<=r.n/\r.n<=1000)/\∀i,i<r.n->0<=r.g i/\r.g i<(l.n:Int)
def fA (l:L.Sq L.Pt) (r:L.Sq Int):SV:=.bool (Ch (r.n-2) fun i=>decide (Cp l (r.g (1+i)).toNat = -1))
def fB:List EV->Option (Prop×SV)
 |[.p (.sl 2 l_n l_g),.p (.sl 1 r_n r_g)]=>some ((∀i,i<l_n->l_g i = [.int .i64 (Ad (l_g i)).x,.int .i64 (Ad (l_g i)).y])/\(∀i,i<r_n->r_g i = [.int .i64 ((Ds (r_g i)))])/\eY ⟨l_n,fun i=>Ad (l_g i)⟩ ⟨r_n,fun i=>Ds (r_g i)⟩,fA ⟨l_n,fun i=>Ad (l_g i)⟩ ⟨r_n,fun i=>Ds (r_g i)⟩)
 |_=>none
abbrev fC:SE.Spec:=(AM fB)
def Adt:Aj:={ cC with specs:=AE [(139,eX)] }
theorem Adu (l:L.Sq L.Pt) (r:L.Sq Int) (hp:eY l r):vc prog ({ Adt with loops:=AT [(3,{ T:=Nat,keep:=[0,1,5],keepO:=[],chg:=fun i=>[(7,.p (.int .i64 (((1+i:Nat):Int))))],own:=fun _=>[],inv:=fun i=>i<=r.n-2/\(Ch i fun i=>decide (Cp l (r.g (1+i)).toNat = -1))=true,mu:=fun i=>r.n-i })]}) (Ae f92) (Ao f92 [.p (.sl 2 l.n (fun i=>[.int .i64 (l.g i).x,.int .i64 (l.g i).y])),.p (.sl 1 r.n (fun i=>[.int .i64 ((r.g i))]))]) (AL prog f92 (fA l r)):=
 @Eq.mpr _ (let I:=SV.int .i64;let T:=AhD;let A10:=(2:Nat);let A9:=(↑r.n:Int);let A8:=(1:Int);let A7:=(-1:Int);let A6:=(1:Nat);let A2:=(L.Sq.mk l.n fun(i:Nat)=>l.g i);let A5:=(bif Am A2 then l.n else(0:Nat));((∀(i:Nat),let A11:=[I (l.g i).x,I (l.g i).y];i<l.n->A11=A11)/\l.n<=1000000)/\(∃(g:Nat),A8=(↑(A6+g):Int)/\g<=r.n-A10/\(Ch g fun(i:Nat)=>decide (Cp l (T (r.g (A6+i)))=A7))=true)/\∀(g:Nat),let A1:=(↑(A6+g):Int);let A4:=(!decide (Cp A2 (T (r.g (T A1)))=A7));g<=r.n-A10/\(Ch g fun(i:Nat)=>decide (Cp l (T (r.g (A6+i)))=A7))=true->Ab .i64 (A9-A8)/\(decide (A1<A9-A8)=true->(0<=A1/\A1<A9)/\((0:Int)<=r.g (T A1)/\r.g (T A1)<(↑A5:Int))/\(A4=true->false=Ch (r.n-A10) fun(i:Nat)=>decide (Cp l (T (r.g (A6+i)))=A7))/\(A4=false->Ab .i64 (A1+A8)/\∃(g':Nat),A1+A8=(↑(A6+g'):Int)/\((A5=bif Am A2 then l.n else(0:Nat))/\∀(i:Nat),let A3:=(L.Sq.mk l.n fun(i:Nat)=>l.g i);(i<bif Am A3 then l.n else(0:Nat)) -> [I (Cp A3 i)]= [I (Cp A3 i)])/\(l.n=l.n/\∀(i:Nat),let A12:=[I (l.g i).x,I (l.g i).y];i<l.n->A12=A12)/\(r.n=r.n/\∀(i:Nat),i<r.n -> [I (r.g i)]= [I (r.g i)])/\(g'<=r.n-A10/\(Ch g' fun(i:Nat)=>decide (Cp l (T (r.g (A6+i)))=A7))=true)/\r.n-g'<r.n-g))/\(decide (A1<A9-A8)=false->true=Ch (r.n-A10) fun(i:Nat)=>decide (Cp l (T (r.g (A6+i)))=A7))) (by kernel_rfl) (by
 conv=>zeta
 obtain⟨hv,⟨r2,hrn⟩,hr⟩:=(show Am l=true/\(2<=r.n/\r.n<=1000)/\∀i,i<r.n->0<=r.g i/\r.g i<(l.n:Int)from hp);obtain⟨n3,n24,hsm,hbd⟩:=CZ hv;have eB:(bif Am l then l.n else 0)=l.n:=by rw[hv];rfl
 rw[eB];refine⟨⟨zr,by omega⟩,⟨(0:Nat),rfl,rH _,rfl⟩,fun g hg=>⟨jK,fun hc=>?_,fun hc=>?_⟩⟩
 ·have hc:=of_decide_eq_true hc;obtain⟨g1,g2⟩:=hg;have e:((1+g:Nat):Int).toNat=1+g:=Ah7 _;rw[e];have hi:=hr (1+g) (by omega);refine⟨⟨by omega,by omega⟩,hi,fun h=>?_,fun h=>⟨jK,g+1,by omega,rz,rz,rz,⟨by omega,?_⟩,by omega⟩⟩
  ·cases ha:Ch (r.n-2) fun i=>decide (Cp l (r.g (1+i)).toNat = -1)with
   |false=>rfl
   |true =>
     have:=C8.1 ha g (by omega);rw[this]at h;cases h
  ·refine C8.2 fun i hi=>?_;rcases Ah6.1 hi with h'|rfl
   ·exact C8.1 g2 i h'
   ·exact B5 h
 ·have hc:=of_decide_eq_false hc;obtain⟨g1,g2⟩:=hg;obtain rfl:g=r.n-2:=by omega
  exact g2.symm)
theorem Adv:Az prog 92 fC:=AN func92 (c:=Ae f92) (by kernel_rfl) mixed (fun _ _ _ hs hp=>by
 unfold fB at hs;split at hs
 ·cases hs;exact⟨_,_,Adu _ _ hp.2.2,(.p (.sl hp.1) (.p (.sl hp.2.1) .nil)),⟨show Aa prog _ from(Aa.cons Adr Ads Aa.nil),rfl,nz⟩⟩
 ·cases hs)
theorem Adw:An prog 92:=fun _ _=>by kernel_rfl
def fD (l:L.Sq L.Pt) (r:L.Sq Int) (b:Int):Prop:=EE l r b/\2<=r.n
def fE (l:L.Sq L.Pt) (r:L.Sq Int) (b:Int):SV:=.sl 1 r.n (fun i=>[.sl 1 r.n (fun k=>[.bool (Ce l r b r.n 0 i k)])])
def fF:List EV->Option (Prop×SV)
 |[.p (.sl 2 l_n l_g),.p (.sl 1 r_n r_g),.p (.int .i64 b)]=>some ((∀i,i<l_n->l_g i = [.int .i64 (Ad (l_g i)).x,.int .i64 (Ad (l_g i)).y])/\(∀i,i<r_n->r_g i = [.int .i64 ((Ds (r_g i)))])/\fD ⟨l_n,fun i=>Ad (l_g i)⟩ ⟨r_n,fun i=>Ds (r_g i)⟩ b,fE ⟨l_n,fun i=>Ad (l_g i)⟩ ⟨r_n,fun i=>Ds (r_g i)⟩ b)
 |_=>none
abbrev fG:SE.Spec:=(AM fF)
def Adx:Aj:={ cC with muts:=[22,23],frz:=B9 [(19,[50])],specs:=AE [(47,O5)],nils:=B3 [(2,[(7,50,141,1)])] }
theorem Ady (l:L.Sq L.Pt) (r:L.Sq Int) (b:Int) (hp:fD l r b):vc prog ({ Adx with loops:=AT [(3,{ T:=Nat×(Nat->Nat)×(Nat->Nat),keep:=[0,1,2],keepO:=[],chg:=fun g=>[(7,.row 50),(8,.p (.int .i64 (g.1:Int)))],own:=fun g=>(fun bl cp=>[(50,.rr 141 4 1 (g.1) bl cp (fun _=>r.n) (fun x y=>[.bool (false)]))]) g.2.1 g.2.2,inv:=fun g=>g.1<=r.n,mu:=fun g=>r.n-g.1 }),(7,{ T:=Nat×(Nat->Nat)×(Nat->Nat),keep:=[0,1,2,7],keepO:=[],chg:=fun g=>[(9,.p (.int .i64 (g.1:Int)))],own:=fun g=>(fun bl cp=>[(50,.rr 141 4 1 (r.n) bl cp (fun _=>r.n) (fun x y=>[.bool (Ce l r b g.1 0 x y)]))]) g.2.1 g.2.2,inv:=fun g=>1<=g.1/\g.1<=r.n,mu:=fun g=>r.n-g.1 }),(10,{ T:=(Nat×Nat)×(Nat->Nat)×(Nat->Nat),keep:=[0,1,2,7,9],keepO:=[],tie:=fun g=>[(9,.int .i64 (g.1.1:Int))],chg:=fun g=>[(10,.p (.int .i64 (g.1.2:Int)))],own:=fun g=>(fun bl cp=>[(50,.rr 141 4 1 (r.n) bl cp (fun _=>r.n) (fun x y=>[.bool (Ce l r b g.1.1 g.1.2 x y)]))]) g.2.1 g.2.2,inv:=fun g=>(1<=g.1.1/\g.1.1<r.n)/\g.1.2+g.1.1<=r.n,mu:=fun g=>r.n-g.1.2 }),(15,{ T:=(Nat×Nat×Nat)×(Nat->Nat)×(Nat->Nat),keep:=[0,1,2,7,9,10,11],keepO:=[],tie:=fun g=>[(9,.int .i64 (g.1.1:Int)),(10,.int .i64 (g.1.2.1:Int)),(11,.int .i64 ((g.1.2.1+g.1.1:Nat):Int))],chg:=fun g=>[(12,.p (.int .i64 ((g.1.2.1+1+g.1.2.2:Nat):Int)))],own:=fun g=>(fun bl cp=>[(50,.rr 141 4 1 (r.n) bl cp (fun _=>r.n) (fun x y=>[.bool (Dh l r b g.1.1 g.1.2.1 g.1.2.2 x y)]))]) g.2.1 g.2.2,inv:=fun g=>(1<=g.1.1/\g.1.2.1+g.1.1<r.n)/\g.1.2.2<=g.1.1-1,mu:=fun g=>r.n-g.1.2.2 })]}) (Ae f91) (Ao f91 [.p (.sl 2 l.n (fun i=>[.int .i64 (l.g i).x,.int .i64 (l.g i).y])),.p (.sl 1 r.n (fun i=>[.int .i64 ((r.g i))])),.p (.int .i64 b)]) (AL prog f91 (fE l r b)):=
 @Eq.mpr _ (let I:=SV.int .i64;let T:=AhD;let A22:=(↑l.n:Int);let A14:=(0:Nat);let A13:=[SV.bool false];let A11:=(1:Int);let A10:=(0:Int);let A9:=(1:Nat);let A8:=(↑r.n:Int);let A7:=(r.n=r.n/\∀(i:Nat),i<r.n -> [I (r.g i)]= [I (r.g i)]);let A5:=(l.n=l.n/\∀(i:Nat),let A18:=[I (l.g i).x,I (l.g i).y];i<l.n->A18=A18);(∃(g:Nat×(Nat->Nat)×(Nat->Nat)),A10=(↑g.1:Int)/\(0=A14/\g.1=A14)/\g.1<=r.n)/\∀(g:Nat×(Nat->Nat)×(Nat->Nat)),let A16:=(↑g.1:Int);g.1<=r.n->(decide (A16<A8)=true->(A10<=A8/\A8<=A8/\A8*(↑(nat_lit 1):Int)<=140737488355328)/\A14<T A8/\∀(b_1 c:Nat),T A8<=c->(g.1+1)*24<=140737488355328/\Ab .i64 (A16+A11)/\∃(g':Nat×(Nat->Nat)×(Nat->Nat)),A16+A11=(↑g'.1:Int)/\A5/\A7/\b=b/\(g.1+1=g'.1/\∀(i:Nat),i<g.1+1->CQ g.1 g.2.1 (fun(x:Nat)=>b_1) i=g'.2.1 i/\CQ g.1 g.2.2 (fun(x:Nat)=>c) i=g'.2.2 i/\CQ g.1 (fun(x:Nat)=>r.n) (fun(x:Nat)=>T A8) i=r.n/\∀(j:Nat),j<CQ g.1 (fun(x:Nat)=>r.n) (fun(x:Nat)=>T A8) i->Io g.1 (fun(x y:Nat)=>A13) (fun(x x_1:Nat)=>A13) i j=A13)/\g'.1<=r.n/\r.n-g'.1<r.n-g.1)/\(decide (A16<A8)=false->(∃(g_1:Nat×(Nat->Nat)×(Nat->Nat)),A11=(↑g_1.1:Int)/\(g.1=r.n/\∀(i:Nat),i<g.1->g.2.1 i=g_1.2.1 i/\g.2.2 i=g_1.2.2 i/\r.n=r.n/\∀(j:Nat),j<r.n->A13 = [SV.bool (Ce l r b g_1.1 A14 i j)])/\A9<=g_1.1/\g_1.1<=r.n)/\∀(g_1:Nat×(Nat->Nat)×(Nat->Nat)),let A4:=(↑g_1.1:Int);A9<=g_1.1/\g_1.1<=r.n->(decide (A4<A8)=true->(∃(g:(Nat×Nat)×(Nat->Nat)×(Nat->Nat)),A10=(↑g.1.2:Int)/\(r.n=r.n/\∀(i:Nat),i<r.n->g_1.2.1 i=g.2.1 i/\g_1.2.2 i=g.2.2 i/\r.n=r.n/\∀(j:Nat),j<r.n -> [SV.bool (Ce l r b g_1.1 A14 i j)]= [SV.bool (Ce l r b g.1.1 g.1.2 i j)])/\A4=(↑g.1.1:Int)/\(A9<=g.1.1/\g.1.1<r.n)/\g.1.2+g.1.1<=r.n)/\∀(g_2:(Nat×Nat)×(Nat->Nat)×(Nat->Nat)),let A2:=(↑g_2.1.2:Int);let A20:=(l.g (T (r.g (T A2))));let A17:=(A10<=A2+A4/\A2+A4<A8);let A15:=(A10<=A2/\A2<A8);let A12:=(A2+A4);let A19:=(l.g (T (r.g (T A12))));A4=(↑g_2.1.1:Int)/\(A9<=g_2.1.1/\g_2.1.1<r.n)/\g_2.1.2+g_2.1.1<=r.n->Ab .i64 A12/\(decide (A2+A4<A8)=true->Ab .i64 A12/\A15/\T A2<r.n/\A17/\(g_2.2.1 (T A2)=g_2.2.1 (T A2)/\T A2<r.n/\T A12<r.n)/\Ab .i64 (A2+A11)/\(∃(g:(Nat×Nat×Nat)×(Nat->Nat)×(Nat->Nat)),A2+A11=(↑(g.fst.2.1+A9+g.fst.2.2):Int)/\(r.n=r.n/\∀(i:Nat),i<r.n->g_2.2.1 i=g.2.1 i/\g_2.2.2 i=g.2.2 i/\r.n=r.n/\∀(j:Nat),j<r.n->GK (fun(x y:Nat)=>[SV.bool (Ce l r b g_2.1.1 g_2.1.2 x y)]) (T A2) (T A12) [SV.bool (decide (A4=A11))] i j = [SV.bool (Dh l r b g.1.1 g.fst.2.1 g.fst.2.2 i j)])/\A4=(↑g.1.1:Int)/\A2=(↑g.fst.2.1:Int)/\A2+A4=(↑(g.fst.2.1+g.1.1):Int)/\(A9<=g.1.1/\g.fst.2.1+g.1.1<r.n)/\g.fst.2.2<=g.1.1-A9)/\∀(g_3:(Nat×Nat×Nat)×(Nat->Nat)×(Nat->Nat)),let A1:=(↑(g_3.fst.2.1+A9+g_3.fst.2.2):Int);let A21:=(l.g (T (r.g (T A1))));let A6:=(bif bif Dh l r b g_3.1.1 g_3.fst.2.1 g_3.fst.2.2 (T A2) (T A1)then Dh l r b g_3.1.1 g_3.fst.2.1 g_3.fst.2.2 (T A1) (T A12)else false then DV A20 A21 A19 b else false);let A3:=(bif Dh l r b g_3.1.1 g_3.fst.2.1 g_3.fst.2.2 (T A2) (T A1)then Dh l r b g_3.1.1 g_3.fst.2.1 g_3.fst.2.2 (T A1) (T A12)else false);A4=(↑g_3.1.1:Int)/\A2=(↑g_3.fst.2.1:Int)/\A2+A4=(↑(g_3.fst.2.1+g_3.1.1):Int)/\(A9<=g_3.1.1/\g_3.fst.2.1+g_3.1.1<r.n)/\g_3.fst.2.2<=g_3.1.1-A9->(decide (A1<A2+A4)=true->A15/\T A2<r.n/\(A10<=A1/\A1<A8)/\(g_3.2.1 (T A2)=g_3.2.1 (T A2)/\T A2<r.n/\T A1<r.n)/\(Dh l r b g_3.1.1 g_3.fst.2.1 g_3.fst.2.2 (T A2) (T A1)=true->A10<=A1/\A1<A8)/\(Dh l r b g_3.1.1 g_3.fst.2.1 g_3.fst.2.2 (T A2) (T A1)=true->T A1<r.n)/\(Dh l r b g_3.1.1 g_3.fst.2.1 g_3.fst.2.2 (T A2) (T A1)=true->A10<=A2+A4/\A2+A4<A8)/\(Dh l r b g_3.1.1 g_3.fst.2.1 g_3.fst.2.2 (T A2) (T A1)=true->g_3.2.1 (T A1)=g_3.2.1 (T A1)/\T A1<r.n/\T A12<r.n)/\(A3=true->A10<=A2/\A2<A8)/\(A3=true->A10<=r.g (T A2)/\r.g (T A2)<A22)/\(A3=true->A10<=A1/\A1<A8)/\(A3=true->A10<=r.g (T A1)/\r.g (T A1)<A22)/\(A3=true->A10<=A2+A4/\A2+A4<A8)/\(A3=true->A10<=r.g (T A12)/\r.g (T A12)<A22)/\(A3=true->Du A20/\Du A21/\Du A19/\A10<=b/\b<=(4096:Int))/\(A6=true->A15/\T A2<r.n/\A17/\(g_3.2.1 (T A2)=g_3.2.1 (T A2)/\T A2<r.n/\T A12<r.n)/\Ab .i64 (A1+A11)/\∃(g':(Nat×Nat×Nat)×(Nat->Nat)×(Nat->Nat)),A1+A11=(↑(g'.fst.2.1+A9+g'.fst.2.2):Int)/\A2+A4=A2+A4/\A2=A2/\A4=A4/\A5/\A7/\b=b/\(r.n=r.n/\∀(i:Nat),i<r.n->g_3.2.1 i=g'.2.1 i/\g_3.2.2 i=g'.2.2 i/\r.n=r.n/\∀(j:Nat),j<r.n->GK (fun(x y:Nat)=>[SV.bool (Dh l r b g_3.1.1 g_3.fst.2.1 g_3.fst.2.2 x y)]) (T A2) (T A12) [SV.bool true] i j = [SV.bool (Dh l r b g'.1.1 g'.fst.2.1 g'.fst.2.2 i j)])/\(A4=(↑g'.1.1:Int)/\A2=(↑g'.fst.2.1:Int)/\A2+A4=(↑(g'.fst.2.1+g'.1.1):Int)/\(A9<=g'.1.1/\g'.fst.2.1+g'.1.1<r.n)/\g'.fst.2.2<=g'.1.1-A9)/\r.n-g'.fst.2.2<r.n-g_3.fst.2.2)/\(A6=false->Ab .i64 (A1+A11)/\∃(g':(Nat×Nat×Nat)×(Nat->Nat)×(Nat->Nat)),A1+A11=(↑(g'.fst.2.1+A9+g'.fst.2.2):Int)/\A2+A4=A2+A4/\A2=A2/\A4=A4/\A5/\A7/\b=b/\(r.n=r.n/\∀(i:Nat),i<r.n->g_3.2.1 i=g'.2.1 i/\g_3.2.2 i=g'.2.2 i/\r.n=r.n/\∀(j:Nat),j<r.n -> [SV.bool (Dh l r b g_3.1.1 g_3.fst.2.1 g_3.fst.2.2 i j)]= [SV.bool (Dh l r b g'.1.1 g'.fst.2.1 g'.fst.2.2 i j)])/\(A4=(↑g'.1.1:Int)/\A2=(↑g'.fst.2.1:Int)/\A2+A4=(↑(g'.fst.2.1+g'.1.1):Int)/\(A9<=g'.1.1/\g'.fst.2.1+g'.1.1<r.n)/\g'.fst.2.2<=g'.1.1-A9)/\r.n-g'.fst.2.2<r.n-g_3.fst.2.2))/\(decide (A1<A2+A4)=false->Ab .i64 (A2+A11)/\∃(g':(Nat×Nat)×(Nat->Nat)×(Nat->Nat)),A2+A11=(↑g'.1.2:Int)/\A4=A4/\A5/\A7/\b=b/\(r.n=r.n/\∀(i:Nat),i<r.n->g_3.2.1 i=g'.2.1 i/\g_3.2.2 i=g'.2.2 i/\r.n=r.n/\∀(j:Nat),j<r.n -> [SV.bool (Dh l r b g_3.1.1 g_3.fst.2.1 g_3.fst.2.2 i j)]= [SV.bool (Ce l r b g'.1.1 g'.1.2 i j)])/\(A4=(↑g'.1.1:Int)/\(A9<=g'.1.1/\g'.1.1<r.n)/\g'.1.2+g'.1.1<=r.n)/\r.n-g'.1.2<r.n-g_2.1.2))/\(decide (A2+A4<A8)=false->Ab .i64 (A4+A11)/\∃(g':Nat×(Nat->Nat)×(Nat->Nat)),A4+A11=(↑g'.1:Int)/\A5/\A7/\b=b/\(r.n=r.n/\∀(i:Nat),i<r.n->g_2.2.1 i=g'.2.1 i/\g_2.2.2 i=g'.2.2 i/\r.n=r.n/\∀(j:Nat),j<r.n -> [SV.bool (Ce l r b g_2.1.1 g_2.1.2 i j)]= [SV.bool (Ce l r b g'.1 A14 i j)])/\(A9<=g'.1/\g'.1<=r.n)/\r.n-g'.1<r.n-g_1.1))/\(decide (A4<A8)=false->r.n=r.n/\∀(i:Nat),i<r.n -> [SV.sl 1 r.n fun(y:Nat)=>[SV.bool (Ce l r b g_1.1 A14 i y)]]= [SV.sl A9 r.n fun(k:Nat)=>[SV.bool (Ce l r b r.n A14 i k)]]))) (by kernel_rfl) (by
 conv=>zeta
 obtain⟨hok,r2⟩:=(show EE l r b/\2<=r.n from hp);obtain⟨⟨hln,hrn,q0,q1⟩,hri,hli⟩:=id hok;have tn:∀n:Nat,((n:Int)).toNat=n:=fun n=>Ah7 n;refine⟨⟨(0,fun _=>0,fun _=>0),rfl,⟨rfl,rfl⟩,rH _⟩,fun g hg=>⟨fun hc=>?_,fun hc=>?_⟩⟩
 ·obtain⟨n,bl,cp⟩:=g;have hc:(n:Int)<(r.n:Int):=of_decide_eq_true hc;have hg:n<=r.n:=hg;dsimp only;rw[tn];exact⟨⟨by omega,by omega,by omega⟩,by omega,fun b1 c1 hb=>⟨by omega,jK,(n+1,CQ n bl (fun _=>b1),CQ n cp (fun _=>c1)),by dsimp only;omega,rz,rz,rfl,⟨rfl,fun i hi=>⟨rfl,rfl,by unfold CQ;split<;>rfl,fun j hj=>by unfold Io;split<;>rfl⟩⟩,by dsimp only;omega,by dsimp only;omega⟩⟩
 obtain⟨n0,bl0,cp0⟩:=g;have hc:¬ (n0:Int)<(r.n:Int):=of_decide_eq_false hc;have hg:n0<=r.n:=hg;obtain rfl:n0=r.n:=by omega
 refine⟨⟨(1,bl0,cp0),rfl,⟨rfl,fun i hi=>⟨rfl,rfl,rfl,fun j hj=>by rw[AcU]⟩⟩,by dsimp only;omega,by dsimp only;omega⟩,fun g hg=>⟨fun hc=>?_,fun hc=>?_⟩⟩;rotate_left
 ·obtain⟨d,bl,cp⟩:=g;have hc:¬ (d:Int)<(r.n:Int):=of_decide_eq_false hc;have hg:1<=d/\d<=r.n:=hg;obtain rfl:d=r.n:=by omega
  exact rz
 obtain⟨d,bl,cp⟩:=g;have hc:(d:Int)<(r.n:Int):=of_decide_eq_true hc;have hd:1<=d/\d<=r.n:=hg;have hd2:d<r.n:=by omega
 refine⟨⟨((d,0),bl,cp),rfl,⟨rfl,fun i hi=>⟨rfl,rfl,rfl,fun _ _=>rfl⟩⟩,rfl,⟨hd.1,hd2⟩,by dsimp only;omega⟩,fun g hg=>⟨?_,fun hc=>?_,fun hc=>?_⟩⟩
 ·obtain⟨⟨d',i⟩,bl2,cp2⟩:=g;dsimp only at hg ⊢;exact jK
 rotate_left
 ·obtain⟨⟨d',i⟩,bl2,cp2⟩:=g;dsimp only at hg hc ⊢;have hc:=of_decide_eq_false hc;obtain rfl:d=d':=by omega
  exact⟨jK,(d+1,bl2,cp2),by dsimp only;omega,rz,rz,rfl,⟨rfl,fun x hx=>⟨rfl,rfl,rfl,fun y hy=>by rw[AcV (by omega)]⟩⟩,⟨by dsimp only;omega,by dsimp only;omega⟩,by dsimp only;omega⟩
 obtain⟨⟨d',i⟩,bl2,cp2⟩:=g;dsimp only at hg hc ⊢;have hc:=of_decide_eq_true hc;obtain rfl:d=d':=by omega
 have hi:i+d<r.n:=by omega
 have e0:((i:Int)).toNat=i:=tn i;have e1:((i:Int)+(d:Int)).toNat=i+d:=by omega
 rw[e0,e1];have A:0<=(i:Int)/\(i:Int)<(r.n:Int):=by omega
 have C:0<=(i:Int)+(d:Int)/\(i:Int)+(d:Int)<(r.n:Int):=by omega
 have ai:i<r.n:=by omega
 refine⟨jK,A,ai,C,⟨rfl,ai,hi⟩,jK,⟨((d,i,0),bl2,cp2),by dsimp only;omega,⟨rfl,fun x hx=>⟨rfl,rfl,rfl,fun y hy=>AcX⟩⟩,rfl,rfl,by dsimp only;omega,⟨hd.1,hi⟩,rH _⟩,fun g hg=>?_⟩;obtain⟨⟨d',i',m⟩,bl3,cp3⟩:=g;dsimp only at hg ⊢;obtain rfl:d=d':=by omega
 obtain rfl:i=i':=by omega
 refine⟨fun hc=>?_,fun hc=>?_⟩;rotate_left
 ·have hc:=of_decide_eq_false hc;obtain rfl:m=d-1:=by omega
  exact⟨jK,((d,i+1),bl3,cp3),by dsimp only;omega,rfl,rz,rz,rfl,⟨rfl,fun x hx=>⟨rfl,rfl,rfl,fun y hy=>by rw[Adb hd.1 hi]⟩⟩,⟨rfl,⟨hd.1,hd2⟩,by dsimp only;omega⟩,by dsimp only;omega⟩
 have hc:=of_decide_eq_true hc;have hm:i+1+m<i+d:=by omega
 have em:((i+1+m:Nat):Int).toNat=i+1+m:=tn _;rw[em,Adc hm,Ade hm,dS];have B:0<=((i+1+m:Nat):Int)/\((i+1+m:Nat):Int)<(r.n:Int):=by omega
 have bi:i+1+m<r.n:=by omega
 have ra:=hri i ai;have rm:=hri _ bi;have rb:=hri _ hi;refine⟨A,ai,B,⟨rfl,ai,bi⟩,fun _=>B,fun _=>bi,fun _=>C,fun _=>⟨rfl,bi,hi⟩,fun _=>A,fun _=>ra,fun _=>B,fun _=>rm,fun _=>C,fun _=>rb,fun _=>⟨hli _ (by omega),hli _ (by omega),hli _ (by omega),q0,q1⟩,fun h=>?_,fun h=>?_⟩
 ·exact⟨A,ai,C,⟨rfl,ai,hi⟩,jK,((d,i,m+1),bl3,cp3),by dsimp only;omega,rfl,rfl,rfl,rz,rz,rfl,⟨rfl,fun x hx=>⟨rfl,rfl,rfl,fun y hy=>AcY h⟩⟩,⟨rfl,rfl,by dsimp only;omega,⟨hd.1,hi⟩,by dsimp only;omega⟩,by dsimp only;omega⟩
 ·exact⟨jK,((d,i,m+1),bl3,cp3),by dsimp only;omega,rfl,rfl,rfl,rz,rz,rfl,⟨rfl,fun x hx=>⟨rfl,rfl,rfl,fun y hy=>by rw[AcZ h]⟩⟩,⟨rfl,rfl,by dsimp only;omega,⟨hd.1,hi⟩,by dsimp only;omega⟩,by dsimp only;omega⟩)
theorem Adz:Az prog 91 fG:=AN func91 (c:=Ae f91) (by kernel_rfl) mixed (fun _ _ _ hs hp=>by
 unfold fF at hs;split at hs
 ·cases hs;exact⟨_,_,Ady _ _ _ hp.2.2,(.p (.sl hp.1) (.p (.sl hp.2.1) (.same _ .nil))),⟨show Aa prog _ from(Aa.cons R7 R8 Aa.nil),rfl,nz⟩⟩
 ·cases hs)
theorem Ad0:An prog 91:=fun _ _=>by kernel_rfl
theorem Ad1 {l:L.Sq L.Pt} (hv:Am l=true) (f:Nat->Nat):∀n,(∀i,i<n->f i<l.n)->(Ch n fun i=>decide (Cp l (f i)= -1))= !BH n fun i=>decide (0<Cp l (f i)):=fun n h=>by
 rw[Ai6,C8,Bool.not_eq_true',<- Bool.not_eq_true,EO];constructor
 ·rintro h1 ⟨i,hi,h2⟩;have:=h1 i hi;rw[dT hv (h i hi),h2]at this;cases this
 ·intro h1 i hi;rw[dT hv (h i hi)];cases e:decide (0<Cp l (f i))with
  |false=>rfl
  |true=>exact absurd ⟨i,hi,e⟩ h1
theorem R9 {l:L.Sq L.Pt} {r:L.Sq Int} {b:Int} {d x y:Nat} (h:x<y) (hy:y<d):Ce l r b d 0 x y=Bm (Bn l r b x y):=by
 rw[AcW hy];unfold JG;rw[decide_eq_true h];rfl
theorem Ad2 (t:Bt) (x y:List Bt):1+(AU (some x)).n+(AU (some y)).n=(AU (some (t::(x++y)))).n/\∀i,i<1+(AU (some x)).n+(AU (some y)).n->AH (1+(AU (some x)).n) (AH 1 (AD [.int .i64 t.a,.int .i64 t.b,.int .i64 t.c] 3) (fun i=>IJ ((AU (some x)).g i))) (fun i=>IJ ((AU (some y)).g i)) i=IJ ((AU (some (t::(x++y)))).g i):=by
 refine⟨by show 1+x.length+y.length=(t::(x++y)).length;simp;omega,fun i hi=>?_⟩;unfold AH
 by_cases h1:i<1+(AU (some x)).n
 ·rw[if_pos h1]
  by_cases h2:i<1
  ·rw[if_pos h2];obtain rfl:i=0:=by omega
   rfl
  ·rw[if_neg h2];have h1:i<1+x.length:=h1;obtain⟨j,rfl⟩:∃j,i=j+1:=⟨i-1,by omega⟩;show IJ (x.getD j ⟨0,0,0⟩)=IJ ((t::(x++y)).getD (j+1) ⟨0,0,0⟩);rw[AiL,AS,AS,AhP (by omega)]
 ·rw[if_neg h1];have h1:¬ i<1+x.length:=h1;obtain⟨j,rfl⟩:∃j,i=j+1:=⟨i-1,by omega⟩;show IJ (y.getD (j+1-(1+x.length)) ⟨0,0,0⟩)=IJ ((t::(x++y)).getD (j+1) ⟨0,0,0⟩);rw[AiL,show j+1-(1+x.length)=j-x.length by omega,AS,AS,AhT (by omega)]
theorem fH (a:AG):Dv a a=true:=by simp[Dv]
theorem RA {l:L.Sq L.Pt} (hv:Am l=true) (p:AG):(BH (AP l).n fun i=>Dv ((AP l).g i) p)=Hg l p:=by
 unfold Hg Eg;rw[hv,cond_true,Ai6,EO,EO];constructor
 ·rintro⟨i,hi,h⟩;obtain⟨k,hk,e⟩:=cU hv hi;exact⟨k,hk,by rw[e,M9 h,fH]⟩
 ·rintro⟨k,hk,h⟩;have m:(Cz l).g k∈(Ah5 (AP l).n).map (AP l).g:=by
   rw[cS];refine(R1 hv).mem_iff.1 ?_;rw[<- R3];exact Ah2.2 ⟨k,AhB.2 hk,rfl⟩
  obtain⟨i,hi,e⟩:=Ah2.1 m;exact⟨i,AhB.1 hi,by rw[e,M9 h,fH]⟩
abbrev IM:Mk:={ T:=(L.Sq L.Pt)×(L.Sq Int)×(Int)×(Nat)×(Nat),U:=Nat,args:=fun t=>(fun l r bite a b=>[.p ((.sl 2 l.n (fun i=>[.int .i64 (l.g i).x,.int .i64 (l.g i).y]))),.p ((.sl 1 r.n (fun i=>[.int .i64 ((r.g i))]))),.p (.int .i64 (a:Int)),.p (.int .i64 (b:Int)),.p (.sl 1 r.n (fun i=>[.sl 1 r.n (fun k=>[.bool (Ce l r bite r.n 0 i k)])])),.p (.int .i64 bite)]) t.1 t.2.1 t.2.2.1 t.2.2.2.1 t.2.2.2.2,lkeys:=[],keys:=[76],lent:=fun t=>(fun l r bite a b=>[]) t.1 t.2.1 t.2.2.1 t.2.2.2.1 t.2.2.2.2,pre:=fun t=>(fun l r bite a b=>EE l r bite/\(a<b/\b<r.n)/\Bm (Bn l r bite a b)=true) t.1 t.2.1 t.2.2.1 t.2.2.2.1 t.2.2.2.2,post:=fun t u=>(fun l r bite a b=>fun uu=>True) t.1 t.2.1 t.2.2.1 t.2.2.2.1 t.2.2.2.2 u,lent':=fun t u=>(fun l r bite a b=>fun uu=>[]) t.1 t.2.1 t.2.2.1 t.2.2.2.1 t.2.2.2.2 u,own:=fun t u=>(fun l r bite a b=>fun uu=>[(76,.row 37 3 (AU (Bn l r bite a b)).n (fun i=>[.int .i64 ((AU (Bn l r bite a b)).g i).a,.int .i64 ((AU (Bn l r bite a b)).g i).b,.int .i64 ((AU (Bn l r bite a b)).g i).c]))]) t.1 t.2.1 t.2.2.1 t.2.2.2.1 t.2.2.2.2 u,res:=fun t u=>(fun l r bite a b=>fun uu=>.row 76) t.1 t.2.1 t.2.2.1 t.2.2.2.1 t.2.2.2.2 u,nilr:=[(12,76,37,3)] }
abbrev fI:IM.T->Nat:=fun t=>(fun l r bite a b=>b-a) t.1 t.2.1 t.2.2.1 t.2.2.2.1 t.2.2.2.2
theorem Ad3 (rn:Nat) (l:L.Sq L.Pt) (r:L.Sq Int) (bite:Int) (a:Nat) (b:Nat) (hp:IM.pre (l,r,bite,a,b)) (hmu:b-a<rn+1):vc prog ({ muts:=[76],frz:=B9 [],specs:=AE [(47,O5)],loops:=AT [(2,{ T:=Nat,keep:=[0,1,2,3,4,5],keepO:=[],chg:=fun i=>[(13,.p (.int .i64 ((a+1+i:Nat):Int)))],own:=fun _=>[],inv:=fun i=>i<=b-a-1/\∀j,j<i->CF l r bite a b (a+1+j)=none,mu:=fun i=>b-a-i })],iters:=BG [],rfs:=AQ [],nils:=B3 [],mks:=Ev [(93,Mk.lt IM fI rn)],ren:=fun k=>if k=76 then 84 else k,rek:=Lw [(7,[(84,85)])] }) (Ae f93) (DH f93 (IM.args (l,r,bite,a,b)) (IM.lent (l,r,bite,a,b))) (FB prog f93 IM (l,r,bite,a,b)):=
 @Eq.mpr _ (let I:=SV.int .i64;let T:=AhD;let A24:=(↑l.n:Int);let A21:=(1:Int);let A17:=(140737488355328:Nat);let A13:=(0:Nat);let A12:=(0:Int);let A11:=(1:Nat);let A10:=(↑r.n:Int);let A8:=(↑b:Int);let A20:=(l.g (T (r.g (T A8))));let A7:=(↑a:Int);let A22:=(A12<=A7/\A7<A10);let A18:=(l.g (T (r.g (T A7))));let A6:=(AU (Bn l r bite a b));Ab .i64 (A7+A21)/\(∃(g:Nat),A7+A21=(↑(a+A11+g):Int)/\g<=b-a-A11/\∀(j:Nat),j<g->CF l r bite a b (a+A11+j)=AhH)/\∀(g:Nat),let A2:=(↑(a+A11+g):Int);let A23:=(A12<=A2/\A2<A10);let A19:=(l.g (T (r.g (T A2))));let A5:=(bif bif Ce l r bite r.n A13 (T A7) (T A2)then Ce l r bite r.n A13 (T A2) (T A8)else false then DV A18 A19 A20 bite else false);let A1:=(bif Ce l r bite r.n A13 (T A7) (T A2)then Ce l r bite r.n A13 (T A2) (T A8)else false);(g<=b-a-A11/\∀(j:Nat),j<g->CF l r bite a b (a+A11+j)=AhH)->(decide (A2<A8)=true->A22/\A23/\(Ce l r bite r.n A13 (T A7) (T A2)=true->A12<=A2/\A2<A10)/\(Ce l r bite r.n A13 (T A7) (T A2)=true->A12<=A8/\A8<A10)/\(A1=true->A12<=A7/\A7<A10)/\(A1=true->A12<=r.g (T A7)/\r.g (T A7)<A24)/\(A1=true->A12<=A2/\A2<A10)/\(A1=true->A12<=r.g (T A2)/\r.g (T A2)<A24)/\(A1=true->A12<=A8/\A8<A10)/\(A1=true->A12<=r.g (T A8)/\r.g (T A8)<A24)/\(A1=true->Du A18/\Du A19/\Du A20/\A12<=bite/\bite<=(4096:Int))/\(A5=true->A22/\A23/\(A12<=A8/\A8<A10)/\∃(t:L.Sq L.Pt×L.Sq Int×Int×Nat×Nat),let A14:=(Bn t.1 t.2.1 t.snd.2.1 t.snd.snd.2.1 t.snd.snd.2.2);let A3:=(AU A14);(l.n=t.1.n/\∀(i:Nat),i<l.n -> [I (l.g i).x,I (l.g i).y]= [I (t.1.g i).x,I (t.1.g i).y])/\(r.n=t.2.1.n/\∀(i:Nat),i<r.n -> [I (r.g i)]= [I (t.2.1.g i)])/\A7=(↑t.snd.snd.2.1:Int)/\A2=(↑t.snd.snd.2.2:Int)/\(r.n=t.2.1.n/\∀(i:Nat),i<r.n -> [SV.sl A11 r.n fun(k:Nat)=>[SV.bool (Ce l r bite r.n A13 i k)]]= [SV.sl A11 t.2.1.n fun(k:Nat)=>[SV.bool (Ce t.1 t.2.1 t.snd.2.1 t.2.1.n A13 i k)]])/\bite=t.snd.2.1/\((EE t.1 t.2.1 t.snd.2.1/\(t.snd.snd.2.1<t.snd.snd.2.2/\t.snd.snd.2.2<t.2.1.n)/\Bm A14=true)/\t.snd.snd.2.2-t.snd.snd.2.1<rn)/\∀(u:Nat),True->(1+A3.n)*24<=A17/\∃(t_1:L.Sq L.Pt×L.Sq Int×Int×Nat×Nat),let A4:=(Bn t_1.1 t_1.2.1 t_1.snd.2.1 t_1.snd.snd.2.1 t_1.snd.snd.2.2);let A15:=(AU A4);(l.n=t_1.1.n/\∀(i:Nat),i<l.n -> [I (l.g i).x,I (l.g i).y]= [I (t_1.1.g i).x,I (t_1.1.g i).y])/\(r.n=t_1.2.1.n/\∀(i:Nat),i<r.n -> [I (r.g i)]= [I (t_1.2.1.g i)])/\A2=(↑t_1.snd.snd.2.1:Int)/\A8=(↑t_1.snd.snd.2.2:Int)/\(r.n=t_1.2.1.n/\∀(i:Nat),i<r.n -> [SV.sl A11 r.n fun(k:Nat)=>[SV.bool (Ce l r bite r.n A13 i k)]]= [SV.sl A11 t_1.2.1.n fun(k:Nat)=>[SV.bool (Ce t_1.1 t_1.2.1 t_1.snd.2.1 t_1.2.1.n A13 i k)]])/\bite=t_1.snd.2.1/\((EE t_1.1 t_1.2.1 t_1.snd.2.1/\(t_1.snd.snd.2.1<t_1.snd.snd.2.2/\t_1.snd.snd.2.2<t_1.2.1.n)/\Bm A4=true)/\t_1.snd.snd.2.2-t_1.snd.snd.2.1<rn)/\∀(u:Nat),True->(1+A3.n+A15.n)*24<=A17/\∃(u:Nat),(1+A3.n+A15.n=A6.n/\∀(i:Nat),i<1+A3.n+A15.n->AH (1+A3.n) (AH 1 (AD [I (r.g (T A7)),I (r.g (T A2)),I (r.g (T A8))] 3) fun(i:Nat)=>[I (A3.g i).a,I (A3.g i).b,I (A3.g i).c]) (fun(i:Nat)=>[I (A15.g i).a,I (A15.g i).b,I (A15.g i).c]) i = [I (A6.g i).a,I (A6.g i).b,I (A6.g i).c])/\True)/\(A5=false->Ab .i64 (A2+A21)/\∃(g':Nat),A2+A21=(↑(a+A11+g'):Int)/\(l.n=l.n/\∀(i:Nat),let A16:=[I (l.g i).x,I (l.g i).y];i<l.n->A16=A16)/\(r.n=r.n/\∀(i:Nat),i<r.n -> [I (r.g i)]= [I (r.g i)])/\A7=A7/\A8=A8/\(r.n=r.n/\∀(i:Nat),let A9:=[SV.sl A11 r.n fun(k:Nat)=>[SV.bool (Ce l r bite r.n A13 i k)]];i<r.n->A9=A9)/\bite=bite/\(g'<=b-a-A11/\∀(j:Nat),j<g'->CF l r bite a b (a+A11+j)=AhH)/\b-a-g'<b-a-g))/\(decide (A2<A8)=false->∃(u:Nat),(A13=A6.n/\∀(i:Nat),i<A13 -> []= [I (A6.g i).a,I (A6.g i).b,I (A6.g i).c])/\True)) (by kernel_rfl) (by
 conv=>zeta
 have hp:EE l r bite/\(a<b/\b<r.n)/\Bm (Bn l r bite a b)=true:=hp;have hmu:b-a<rn+1:=hmu;obtain⟨hok,⟨hab,hbr⟩,hs⟩:=hp;obtain⟨⟨hln,hrn,q0,q1⟩,hri,hli⟩:=id hok;have tn:∀n:Nat,((n:Int)).toNat=n:=fun n=>Ah7 n;refine⟨jK,⟨(0:Nat),by omega,rH _,fun j hj=>absurd hj (oE _)⟩,fun g hg=>⟨fun hc=>?_,fun hc=>?_⟩⟩;rotate_left
 ·obtain⟨g1,g2⟩:=hg;have hc:=of_decide_eq_false hc;obtain rfl:g=b-a-1:=by omega
  have e:Bn l r bite a b=some []:=by
   by_cases h:b=a+1
   ·exact Rt l r bite h hbr
   ·rw[M7 l r bite hab h hbr,Ov g2]at hs;cases hs
  rw[e];exact⟨(0:Nat),⟨rfl,fun i hi=>absurd hi (oE _)⟩,trivial⟩
 obtain⟨g1,g2⟩:=hg;have hc:=of_decide_eq_true hc;have hm:a+1+g<b:=by omega
 have m1:a<a+1+g:=by omega
 have m2:a+1+g<r.n:=by omega
 rw[tn a,tn b,tn (a+1+g),R9 m1 m2,R9 hm hbr,dS];have ra:=hri a (by omega);have rm:=hri (a+1+g) m2;have rb:=hri b hbr;have A:0<=(a:Int)/\(a:Int)<(r.n:Int):=by omega
 have B:0<=((a+1+g:Nat):Int)/\((a+1+g:Nat):Int)<(r.n:Int):=by omega
 have C:0<=(b:Int)/\(b:Int)<(r.n:Int):=by omega
 refine⟨A,B,fun _=>B,fun _=>C,fun _=>A,fun _=>ra,fun _=>B,fun _=>rm,fun _=>C,fun _=>rb,fun _=>⟨hli _ (by omega),hli _ (by omega),hli _ (by omega),q0,q1⟩,fun h=>?_,fun h=>?_⟩
 ·obtain⟨h1,h2,h3⟩:=AcA.1 h;refine⟨A,B,C,(l,r,bite,a,a+1+g),rz,rz,rfl,rfl,rz,rfl,⟨⟨hok,⟨m1,m2⟩,h2⟩,by dsimp only;omega⟩,fun u _=>⟨?_,(l,r,bite,a+1+g,b),rz,rz,rfl,rfl,rz,rfl,⟨⟨hok,⟨hm,hbr⟩,h3⟩,by dsimp only;omega⟩,fun u2 _=>⟨?_,u2,?_,trivial⟩⟩⟩
  ·have:=M8 (l:=l) (r:=r) (bite:=bite) m1;dsimp only;omega
  ·have:=M8 (l:=l) (r:=r) (bite:=bite) m1;have:=M8 (l:=l) (r:=r) (bite:=bite) hm;dsimp only;omega
  ·obtain⟨x,hx⟩:=AiM.1 h2;obtain⟨y,hy⟩:=AiM.1 h3;have e:Bn l r bite a b=some (⟨r.g a,r.g (a+1+g),r.g b⟩::(x++y)):=by
    rw[M7 l r bite hab (by omega) hbr];refine Rr (k:=g) ?_ g2 (by omega);unfold CF E2;rw[h1,hx,hy];rfl
   dsimp only;rw[e,hx,hy];exact Ad2 ⟨r.g a,r.g (a+1+g),r.g b⟩ x y
 ·have dn : CF l r bite a b (a+1+g)= none :=by
   cases e:CF l r bite a b (a+1+g)with
   |none=>rfl
   |some x=>rw[e]at h;cases h
  refine⟨jK,g+1,by omega,rz,rz,rfl,rfl,rz,rfl,⟨by omega,fun j hj=>?_⟩,by omega⟩;rcases Ah6.1 hj with h'|rfl
  ·exact g2 j h'
  ·exact dn)
theorem fJ:An prog 93:=fun _ _=>by kernel_rfl
theorem Ad4:D9 prog 93 IM:=Mj fI ⟨fun t=>rfl,fun t u=>rfl,fun t u=>rfl,fun t u=>⟨rfl,rfl,rfl⟩,.inl rfl,fun k h=>(by cases h)⟩ (fun rn ih=>FO (n:=6) func93 (c:=Ae f93) (by kernel_rfl) mixed ⟨fun t=>rfl,fun t=>rfl,fun t u=>rfl,fun t u=>rfl,fun t u=>rfl,fun t u=>⟨rfl,rfl⟩,by kernel_rfl,by kernel_rfl⟩ (fun⟨l,r,bite,a,b⟩ hp=>⟨_,Ad3 rn l r bite a b hp.1 hp.2,⟨show Aa prog _ from(Aa.cons R7 R8 Aa.nil),rfl,⟨show Ac prog _ from Ac.nil,⟨AB.no1 (fun _=>rfl),⟨show Bx prog _ from(Bx.cons ih fJ Bx.nil),FamsOk.none (fun _=>rfl)⟩⟩⟩⟩⟩))
def fK (l:L.Sq L.Pt) (p:AG) (b:Int):Prop:=Am l=true/\Df l.n p/\0<=b/\b<=4096
def fL (l:L.Sq L.Pt) (p:AG) (b:Int):SV:=.tup [.sl 3 (AU (BM l p b)).n (fun i=>[.int .i64 ((AU (BM l p b)).g i).a,.int .i64 ((AU (BM l p b)).g i).b,.int .i64 ((AU (BM l p b)).g i).c]),.bool (Bm (BM l p b))]
def fM:List EV->Option (Prop×SV)
 |[.p (.sl 2 l_n l_g),.p (.agg [.int .i64 p_fr,.int .i64 p_to_,.int .i64 p_area]),.p (.int .i64 b)]=>some ((∀i,i<l_n->l_g i = [.int .i64 (Ad (l_g i)).x,.int .i64 (Ad (l_g i)).y])/\fK ⟨l_n,fun i=>Ad (l_g i)⟩ (⟨p_fr,p_to_,p_area⟩:AG) b,fL ⟨l_n,fun i=>Ad (l_g i)⟩ (⟨p_fr,p_to_,p_area⟩:AG) b)
 |_=>none
abbrev O6:SE.Spec:=(AM fM)
def Ad5:Aj:={ cC with specs:=AE [(90,eM),(91,fG),(92,fC)],mks:=Ev [(93,IM)],ren:=fun k=>if k=76 then 39 else k }
theorem Ad6 (l:L.Sq L.Pt) (p:AG) (b:Int) (hp:fK l p b):vc prog (Ad5) (Ae f48) (Ao f48 [.p (.sl 2 l.n (fun i=>[.int .i64 (l.g i).x,.int .i64 (l.g i).y])),.p (.agg [.int .i64 p.fr,.int .i64 p.to_,.int .i64 p.area]),.p (.int .i64 b)]) (AL prog f48 (fL l p b)):=
  @Eq.mpr _ (let I:=SV.int .i64;let T:=AhD;let A19:=(0:Nat);let A18:=(BM l p b);let A15:=(1:Int);let A13:=(0:Int);let A10:=(L.Sq.mk l.n fun(i:Nat)=>l.g i);let A9:=(AU A18);let A7:=(1:Nat);let A6:=(∀(i:Nat),let A17:=[I (l.g i).x,I (l.g i).y];i<l.n->A17=A17);let A5:=(↑l.n:Int);let A16:=(Bb A5 p+A7-(2:Nat));let
 A8:=(∀(i:Nat),i<Bb A5 p+A7 -> [I (Bz A5 p i)]= [I (Bz A5 p i)]);let A2:=(!!Ch A16 fun(i:Nat)=>decide (Cp (L.Sq.mk l.n fun(i:Nat)=>l.g i) (T (Bz A5 p (A7+i)))=(-1:Int)));let A1:=(Bb A5 p+A7);let A12:=(L.Sq.mk A1 fun(i:Nat)=>Bz A5 p i);let A11:=(↑A1:Int);let A3:=(bif !Ch A16 fun(i:Nat)=>decide
 (Cp (L.Sq.mk l.n fun(i:Nat)=>l.g i) (T (Bz A5 p (A7+i)))=(-1:Int))then true else !Ce A10 A12 b A1 A19 (T A13) (T (A11-A15)));(A6/\l.n<=1000/\Df A5 p)/\(A6/\A8/\EE A10 A12 b/\(2:Nat)<=Bb A5 p+A7)/\(A6/\A8/\Am A10=true/\((2:Nat)<=Bb A5 p+A7/\Bb A5 p+A7<=1000)/\∀(i:Nat),i<Bb A5 p
 + A7->A13<=Bz A5 p i/\Bz A5 p i<A5)/\(A2=true->A13<=A13/\A13<A11)/\(A2=true->Ab .i64 (A11-A15))/\(A2=true->A13<=A11-A15/\A11-A15<A11)/\(A3=true->A9.n=A19/\false=Bm A18)/\(A3=false->Ab .i64 (A11-A15)/\∃(t:L.Sq L.Pt×L.Sq Int×Int×Nat×Nat),let A4:=(Bn t.1 t.2.1
 t.snd.2.1 t.snd.snd.2.1 t.snd.snd.2.2);let A14:=(AU A4);(l.n=t.1.n/\∀(i:Nat),i<l.n -> [I (l.g i).x,I (l.g i).y]= [I (t.1.g i).x,I (t.1.g i).y])/\(Bb A5 p+A7=t.2.1.n/\∀(i:Nat),i<Bb A5 p+A7 -> [I (Bz A5 p i)]= [I (t.2.1.g i)])/\A13=(↑t.snd.snd.2.1:Int)/\A11-A15=(↑t.snd.snd.2.2:Int)/\(Bb A5 p+A7=t.2.1.n/\∀(i:Nat),i<Bb A5 p +
 A7 -> [SV.sl A7 A1 fun(k:Nat)=>[SV.bool (Ce (L.Sq.mk l.n fun(i:Nat)=>l.g i) (L.Sq.mk A1 fun(i:Nat)=>Bz A5 p i) b A1 A19 i k)]]= [SV.sl A7 t.2.1.n fun(k:Nat)=>[SV.bool (Ce t.1 t.2.1 t.snd.2.1 t.2.1.n A19 i k)]])/\b=t.snd.2.1/\(EE t.1 t.2.1 t.snd.2.1/\(t.snd.snd.2.1<t.snd.snd.2.2/\t.snd.snd.2.2<t.2.1.n)/\Bm A4=true)/\∀(u
:Nat),True->(A14.n=A9.n/\∀(i:Nat),i<A14.n -> [I (A14.g i).a,I (A14.g i).b,I (A14.g i).c]= [I (A9.g i).a,I (A9.g i).b,I (A9.g i).c])/\true=Bm A18)) (by kernel_rfl) (by
 conv=>zeta
 obtain⟨hv,hk,h0,h1⟩:=(show Am l=true/\Df l.n p/\0<=b/\b<=4096 from hp);obtain⟨ok,h2⟩:=bU hv hk h0 h1;obtain⟨n3,n24,_,_⟩:=CZ hv;obtain⟨d1,d2,f0,f1,fr,fe,fs⟩:=JD hk;have eH:(Ch (Bb l.n p+1-2) fun i=>decide (Cp l (Bz l.n p (1+i)).toNat = -1))=FU l p:=by
  rw[show Bb l.n p+1-2=Bb l.n p-1 by omega,Ad1 hv (fun i=>(Bz l.n p (1+i)).toNat) _ (fun i hi=>by have:=fr (1+i) (by omega);omega)];rfl
 have eC:Ce l ⟨Bb l.n p+1,fun i=>Bz l.n p i⟩ b (Bb l.n p+1) 0 ((0:Int)).toNat (((Bb l.n p+1:Nat):Int)-1).toNat=Bm (FV l (Fx l p) b):=by
  rw[show(((Bb l.n p+1:Nat):Int)-1).toNat=Bb l.n p by omega];exact R9 (show 0<Bb l.n p by omega) (by omega)
 rw[eH,eC];refine⟨⟨zr,by omega,hk⟩,⟨zr,zr,ok,h2⟩,⟨zr,zr,hv,⟨h2,by omega⟩,fun i hi=>fr i (by omega)⟩,fun _=>⟨by omega,by omega⟩,fun _=>jK,fun _=>⟨by omega,by omega⟩,fun h=>?_,fun h=>?_⟩
 ·have e : BM l p b = none :=by
   unfold BM;cases hh:FU l p with
   |false=>rfl
   |true =>
     rw[hh]at h;cases hb:FV l (Fx l p) b with
     |none=>rfl
     |some x=>rw[hb]at h;cases h
  rw[e];exact⟨rfl,rfl⟩
 ·have hh : FU l p = true :=by
   cases hh:FU l p with
   |false=>rw[hh]at h;cases h
   |true=>rfl
  rw[hh]at h;have ho:Bm (FV l (Fx l p) b)=true:=B5 h;have e:BM l p b=FV l (Fx l p) b:=by unfold BM;rw[hh];rfl
  rw[e];exact⟨jK,(l,Fx l p,b,0,(Fx l p).n-1),rz,rz,rfl,by show(((Bb l.n p+1:Nat):Int)-1)=((Bb l.n p+1-1:Nat):Int);omega,rz,rfl,⟨ok,⟨by show 0<Bb l.n p+1-1;omega,by show Bb l.n p+1-1<Bb l.n p+1;omega⟩,ho⟩,fun u _=>⟨rz,ho.symm⟩⟩)
theorem RB:Az prog 48 O6:=AN func48 (c:=Ae f48) (by kernel_rfl) mixed (fun _ _ _ hs hp=>by
 unfold fM at hs;split at hs
 ·cases hs;exact⟨_,_,Ad6 _ _ _ hp.2,(.p (.sl hp.1) (.same _ (.same _ .nil))),⟨show Aa prog _ from(Aa.cons Adn Ado (Aa.cons Adz Ad0 (Aa.cons Adv Adw Aa.nil))),rfl,⟨show Ac prog _ from Ac.nil,⟨AB.no1 (fun _=>rfl),⟨show Bx prog _ from(Bx.cons Ad4 fJ Bx.nil),FamsOk.none (fun _=>rfl)⟩⟩⟩⟩⟩
 ·cases hs)
theorem RC:An prog 48:=fun _ _=>by kernel_rfl
def fN (l:L.Sq L.Pt) (p:AG) (b:Int):Prop:=l.n<=1000000
def fO (l:L.Sq L.Pt) (p:AG) (b:Int):SV:=.tup [.sl 3 (Dg l p b).n (fun i=>[.int .i64 ((Dg l p b).g i).a,.int .i64 ((Dg l p b).g i).b,.int .i64 ((Dg l p b).g i).c]),.int .i64 (Dw l p b)]
def fP:List EV->Option (Prop×SV)
 |[.p (.sl 2 l_n l_g),.p (.agg [.int .i64 p_fr,.int .i64 p_to_,.int .i64 p_area]),.p (.int .i64 b)]=>some ((∀i,i<l_n->l_g i = [.int .i64 (Ad (l_g i)).x,.int .i64 (Ad (l_g i)).y])/\fN ⟨l_n,fun i=>Ad (l_g i)⟩ (⟨p_fr,p_to_,p_area⟩:AG) b,fO ⟨l_n,fun i=>Ad (l_g i)⟩ (⟨p_fr,p_to_,p_area⟩:AG) b)
 |_=>none
abbrev fQ:SE.Spec:=(AM fP)
def Ad7:Aj:={ cC with specs:=AE [(8,On),(46,M6),(48,O6)] }
theorem Ad8 (l:L.Sq L.Pt) (p:AG) (b:Int) (hp:fN l p b):vc prog ({ Ad7 with loops:=AT [(4,{ T:=Nat,keep:=[0,2,4,8,9],keepO:=[],chg:=fun i=>[(10,.p (.bool (BH i fun i=>Dv ((AP l).g i) p))),(11,.p (.int .i64 (i:Int)))],own:=fun _=>[],inv:=fun i=>i<=C1 l,mu:=fun i=>C1 l-i })]}) (Ae f14) (Ao f14 [.p (.sl 2 l.n (fun i=>[.int .i64 (l.g i).x,.int .i64 (l.g i).y])),.p (.agg [.int .i64 p.fr,.int .i64 p.to_,.int .i64 p.area]),.p (.int .i64 b)]) (AL prog f14 (fO l p b)):=
 @Eq.mpr _ (let I:=SV.int .i64;let A16:=[I p.fr,I p.to_,I p.area];let A15:=(1:Int);let A11:=(AP l);let A9:=(0:Int);let A8:=(Dg l p b);let A6:=(∀(i:Nat),let A17:=[I (l.g i).x,I (l.g i).y];i<l.n->A17=A17);let A1:=(L.Sq.mk l.n fun(i:Nat)=>l.g i);let A19:=(BM A1 p b);let A12:=(↑(C1 A1):Int);let A5:=(bif Am A1 then A9 else A15);(A6/\l.n<=1000000)/\(∃(g:Nat),(false=BH g fun(i:Nat)=>Dv (A11.g i) p)/\A9=(↑g:Int)/\g<=C1 l)/\∀(g:Nat),let A10:=(↑g:Int);let A7:=((AP A1).g (AhD A10));let A3:=(bif bif !decide (A5=A9)then true else !BH g fun(i:Nat)=>Dv (A11.g i) p then true else !AI b A9 (4096:Int));g<=C1 l->(decide (A10<A12)=true->((!BH g fun(i:Nat)=>Dv (A11.g i) p)=true->A9<=A10/\A10<A12)/\Ab .i64 (A10+A15)/\∃(g':Nat),((bif BH g fun(i:Nat)=>Dv (A11.g i) p then true else decide (A7.fr=p.fr)&&(decide (A7.to_=p.to_)&&decide (A7.area=p.area)))=BH g' fun(i:Nat)=>Dv (A11.g i) p)/\A10+A15=(↑g':Int)/\(A5=bif Am A1 then A9 else A15)/\(C1 A1=C1 A1/\∀(i:Nat),let A13:=(L.Sq.mk l.n fun(i:Nat)=>l.g i);let A2:=((AP A13).g i);let A14:=[I A2.fr,I A2.to_,I A2.area];i<C1 A13->A14=A14)/\SV.ref A16 0=SV.ref A16 0/\(l.n=l.n/\∀(i:Nat),let A18:=[I (l.g i).x,I (l.g i).y];i<l.n->A18=A18)/\b=b/\g'<=C1 l/\C1 l-g'<C1 l-g)/\(decide (A10<A12)=false->((!bif !decide (A5=A9)then true else !BH g fun(i:Nat)=>Dv (A11.g i) p)=true->True)/\(A3=true->A8.n=0/\A15=Dw l p b)/\(A3=false->(A6/\Am A1=true/\Df (↑l.n:Int) p/\A9<=b/\b<=(4096:Int))/\((!Bm A19)=true->A8.n=0/\(51:Int)=Dw l p b)/\((!Bm A19)=false->((AU A19).n=A8.n/\∀(i:Nat),let A4:=(AU (BM (L.Sq.mk l.n fun(i:Nat)=>l.g i) p b));i<A4.n -> [I (A4.g i).a,I (A4.g i).b,I (A4.g i).c]= [I (A8.g i).a,I (A8.g i).b,I (A8.g i).c])/\A9=Dw l p b)))) (by kernel_rfl) (by
 conv=>zeta
 have hn:l.n<=1000000:=hp;have nl:C1 l<=24:=by
  cases hv:Am l with
  |true=>have:=MC hv;unfold C1;rw[hv];exact this
  |false=>unfold C1;rw[hv];exact rH _
 refine⟨⟨zr,hn⟩,⟨(0:Nat),rfl,rfl,rH _⟩,fun g hg=>⟨fun hc=>?_,fun hc=>?_⟩⟩
 ·have hc:(g:Int)<(C1 l:Int):=of_decide_eq_true hc;rw[Ah7 g];refine⟨fun _=>⟨by omega,hc⟩,jK,g+1,?_,by omega,rfl,rz,rfl,rz,rfl,by omega,by omega⟩;rw[De];rfl
 have hc:¬ (g:Int)<(C1 l:Int):=of_decide_eq_false hc;obtain rfl:g=C1 l:=by omega
 have no:∀{q:Prop},Dw l p b=1->(q->(Dg l p b).n=0/\1=Dw l p b):=fun e _=>by
  have e2:Dg l p b=AU none:=by unfold Dg;rw[e];rfl
  rw[e,e2];exact⟨rfl,rfl⟩
 cases hv:Am l with
 |false=>exact⟨fun _=>trivial,no (by unfold Dw;rw[hv];rfl),fun h=>AiW (show true=false from h)⟩
 |true =>
   have eN:C1 l=(AP l).n:=by unfold C1;rw[hv];rfl
   rw[eN,RA hv p];cases hh:Hg l p with
   |false=>exact⟨fun _=>trivial,no (by unfold Dw;rw[hv,hh];cases AI b 0 4096<;>rfl),fun h=>AiW (show true=false from h)⟩
   |true =>
     cases hw:AI b 0 4096 with
     |false=>exact⟨fun _=>trivial,no (by unfold Dw;rw[hv,hw];rfl),fun h=>AiW (show true=false from h)⟩
     |true =>
       have hb:0<=b/\b<=4096:=by
        unfold AI at hw;rw[pR,decide_eq_true_eq,decide_eq_true_eq]at hw;exact hw
       have hk:Df l.n p:=by
        have h:=hh;rw[<- RA hv p,EO]at h;obtain⟨i,hi,h⟩:=h;rw[<- M9 h];exact KP hv hi
       have e0:Dw l p b=bif !Bm (BM l p b)then 51 else 0:=by unfold Dw;rw[hv,hh,hw];rfl
       refine⟨fun _=>trivial,fun h=>AiW (show false=true from h),fun _=>⟨⟨zr,rfl,hk,hb⟩,fun h2=>?_,fun h2=>?_⟩⟩
       ·have h2:(!Bm (BM l p b))=true:=h2;rw[h2]at e0;have e2:Dg l p b=AU none:=by unfold Dg;rw[e0];rfl
        rw[e0,e2];exact⟨rfl,rfl⟩
       ·have h2:(!Bm (BM l p b))=false:=h2;rw[h2]at e0;have e2:Dg l p b=AU (BM l p b):=by unfold Dg;rw[e0];rfl
        rw[e0,e2];exact⟨rz,rfl⟩)
theorem Ad9:Az prog 14 fQ:=AN func14 (c:=Ae f14) (by kernel_rfl) mixed (fun _ _ _ hs hp=>by
 unfold fP at hs;split at hs
 ·cases hs;exact⟨_,_,Ad8 _ _ _ hp.2,(.p (.sl hp.1) (.same _ (.same _ .nil))),⟨show Aa prog _ from(Aa.cons Rf Rg (Aa.cons Oq Ot (Aa.cons RB RC Aa.nil))),rfl,nz⟩⟩
 ·cases hs)
theorem AdA:An prog 14:=fun _ _=>by kernel_rfl
def fR (l:L.Sq L.Pt) (b:Int):Prop:=Am l=true/\0<=b/\b<=4096
def fS (l:L.Sq L.Pt) (b:Int):SV:=.bool (Cm l b)
def fT:List EV->Option (Prop×SV)
 |[.p (.sl 2 l_n l_g),.p (.int .i64 b)]=>some ((∀i,i<l_n->l_g i = [.int .i64 (Ad (l_g i)).x,.int .i64 (Ad (l_g i)).y])/\fR ⟨l_n,fun i=>Ad (l_g i)⟩ b,fS ⟨l_n,fun i=>Ad (l_g i)⟩ b)
 |_=>none
abbrev RD:SE.Spec:=(AM fT)
def AdB:Aj:={ cC with specs:=AE [(8,On),(48,O6)] }
theorem AdC (l:L.Sq L.Pt) (b:Int) (hp:fR l b):vc prog ({ AdB with loops:=AT [(3,{ T:=Nat,keep:=[0,1,5],keepO:=[],chg:=fun i=>[(7,.p (.int .i64 (i:Int)))],own:=fun _=>[],inv:=fun i=>i<=(AP l).n/\FX l b i=true,mu:=fun i=>(AP l).n-i })]}) (Ae f49) (Ao f49 [.p (.sl 2 l.n (fun i=>[.int .i64 (l.g i).x,.int .i64 (l.g i).y])),.p (.int .i64 b)]) (AL prog f49 (fS l b)):=
 @Eq.mpr _ (let I:=SV.int .i64;let A8:=(AP l);let A3:=(∀(i:Nat),let A10:=[I (l.g i).x,I (l.g i).y];i<l.n->A10=A10);let A1:=(L.Sq.mk l.n fun(i:Nat)=>l.g i);let A6:=(↑(C1 A1):Int);(A3/\l.n<=1000000)/\(∃(g:Nat),0=(↑g:Int)/\g<=A8.n/\FX l b g=true)/\∀(g:Nat),let A5:=(↑g:Int);let A4:=((AP A1).g (AhD A5));let A12:=(!Bm (BM A1 A4 b));g<=A8.n/\FX l b g=true->(decide (A5<A6)=true->(0<=A5/\A5<A6)/\(A3/\Am A1=true/\Df (↑l.n:Int) A4/\(0:Int)<=b/\b<=(4096:Int))/\(A12=true->false=Cm l b)/\(A12=false->Ab .i64 (A5+(1:Int))/\∃(g':Nat),A5+1=(↑g':Int)/\(C1 A1=C1 A1/\∀(i:Nat),let A7:=(L.Sq.mk l.n fun(i:Nat)=>l.g i);let A2:=((AP A7).g i);let A9:=[I A2.fr,I A2.to_,I A2.area];i<C1 A7->A9=A9)/\(l.n=l.n/\∀(i:Nat),let A11:=[I (l.g i).x,I (l.g i).y];i<l.n->A11=A11)/\b=b/\(g'<=A8.n/\FX l b g'=true)/\A8.n-g'<A8.n-g))/\(decide (A5<A6)=false->true=Cm l b)) (by kernel_rfl) (by
 conv=>zeta
 obtain⟨hv,h0,h1⟩:=(show Am l=true/\0<=b/\b<=4096 from hp);obtain⟨n3,n24,_,_⟩:=CZ hv;have rl:=MC hv;have eN:C1 l=(AP l).n:=by unfold C1;rw[hv];rfl
 rw[eN];refine⟨⟨zr,by omega⟩,⟨(0:Nat),rfl,rH _,rfl⟩,fun g hg=>⟨fun hc=>?_,fun hc=>?_⟩⟩
 ·have hc:=of_decide_eq_true hc;obtain⟨g1,g2⟩:=hg;have hlt:g<(AP l).n:=by omega
  rw[Ah7 g];refine⟨⟨by omega,hc⟩,⟨zr,hv,KP hv hlt,h0,h1⟩,fun h=>?_,fun h=>⟨jK,g+1,by omega,rz,rz,rfl,⟨by omega,?_⟩,by omega⟩⟩
  ·cases hcn:Cm l b with
   |false=>rfl
   |true =>
     have:=C8.1 hcn g hlt;rw[this]at h;cases h
  ·refine C8.2 fun i hi=>?_;rcases Ah6.1 hi with h'|rfl
   ·exact C8.1 g2 i h'
   ·exact B5 h
 ·have hc:=of_decide_eq_false hc;obtain⟨g1,g2⟩:=hg;obtain rfl:g=(AP l).n:=by omega
  exact g2.symm)
theorem fU:Az prog 49 RD:=AN func49 (c:=Ae f49) (by kernel_rfl) mixed (fun _ _ _ hs hp=>by
 unfold fT at hs;split at hs
 ·cases hs;exact⟨_,_,AdC _ _ hp.2,(.p (.sl hp.1) (.same _ .nil)),⟨show Aa prog _ from(Aa.cons Rf Rg (Aa.cons RB RC Aa.nil)),rfl,nz⟩⟩
 ·cases hs)
theorem fV:An prog 49:=fun _ _=>by kernel_rfl
def fW (l:L.Sq L.Pt) (b:Int):Prop:=l.n<=1000000
def fX (l:L.Sq L.Pt) (b:Int):SV:=.tup [.bool (bif CO l b then false else Cm l b),.int .i64 (bif CO l b then 1 else 0)]
def fY:List EV->Option (Prop×SV)
 |[.p (.sl 2 l_n l_g),.p (.int .i64 b)]=>some ((∀i,i<l_n->l_g i = [.int .i64 (Ad (l_g i)).x,.int .i64 (Ad (l_g i)).y])/\fW ⟨l_n,fun i=>Ad (l_g i)⟩ b,fX ⟨l_n,fun i=>Ad (l_g i)⟩ b)
 |_=>none
abbrev fZ:SE.Spec:=(AM fY)
def AdD:Aj:={ cC with specs:=AE [(7,M4),(46,M6),(49,RD)] }
theorem AdE (l:L.Sq L.Pt) (b:Int) (hp:fW l b):vc prog (AdD) (Ae f16) (Ao f16 [.p (.sl 2 l.n (fun i=>[.int .i64 (l.g i).x,.int .i64 (l.g i).y])),.p (.int .i64 b)]) (AL prog f16 (fX l b)):=
 @Eq.mpr _ (let I:=SV.int .i64;let A4:=(0:Int);let A2:=(∀(i:Nat),let A5:=[I (l.g i).x,I (l.g i).y];i<l.n->A5=A5);let A1:=(L.Sq.mk l.n fun(i:Nat)=>l.g i);let A3:=(bif !Am A1 then true else !AI b A4 (4096:Int));(A2/\True)/\((!!Am A1)=true->True)/\(A3=true->(false=bif CO l b then false else Cm l b)/\(1:Int)=bif CO l b then(1:Int)else A4)/\(A3=false->(A2/\Am A1=true/\A4<=b/\b<=(4096:Int))/\(Cm A1 b=bif CO l b then false else Cm l b)/\A4=bif CO l b then(1:Int)else A4)) (by kernel_rfl) (by
 conv=>zeta
 have hn:l.n<=1000000:=hp;refine⟨⟨zr,trivial⟩,fun _=>trivial,fun h=>?_,fun h=>?_⟩
 ·have h:CO l b=true:=h;rw[h];exact⟨rfl,rfl⟩
 ·have h:CO l b=false:=h;rw[h];unfold CO at h;rw[De,AhJ]at h;have hv:=B5 h.1;have hw:=B5 h.2;unfold AI at hw;rw[pR,decide_eq_true_eq,decide_eq_true_eq]at hw;exact⟨⟨zr,hv,hw.1,hw.2⟩,rfl,rfl⟩)
theorem AdF:Az prog 16 fZ:=AN func16 (c:=Ae f16) (by kernel_rfl) mixed (fun _ _ _ hs hp=>by
 unfold fY at hs;split at hs
 ·cases hs;exact⟨_,_,AdE _ _ hp.2,(.p (.sl hp.1) (.same _ .nil)),⟨show Aa prog _ from(Aa.cons Ob Oc (Aa.cons Oq Ot (Aa.cons fU fV Aa.nil))),rfl,nz⟩⟩
 ·cases hs)
theorem AdG:An prog 16:=fun _ _=>by kernel_rfl
end Go.Proofs.YtdkpcdlnfobnnaaGreat
