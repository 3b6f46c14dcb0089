/- A symbolic walk over the model, and what it shows of functions of the program: parts of the proof that the text of the row joins. -/
import Derived.Test.YtijidjjfkahojaaGreatW2
import Derived.Test.YtijidjjfkahojaaGreatE5
import Derived.KernelRfl
import Derived.Test.YtijidjjfkahojaaGreatW4
import Derived.Test.YtijidjjfkahojaaGreatW3
open List renaming getD_eq_getElem?_getD->AS,all_eq_true->Afj,mem_range->Afl,range->Afm,getElem?_append_left->Af2,getElem?_append_right->Af6,map->Ago
open Nat renaming not_lt_zero->Rc,zero_le->Afg,lt_succ_iff_lt_or_eq->Aft
open Bool renaming and_eq_true->nT
open Int renaming toNat_natCast->Afy,toNat->Af1,le_refl->Af4,natCast_nonneg->Af7,emod_eq_of_lt->AfV,add_emod_right->Agi
open Option renaming none->Af5
namespace Go.Proofs.YtijidjjfkahojaaGreat
open Go.SE Go.RowKit
set_option maxRecDepth 100000
set_option maxHeartbeats 4000000
set_option linter.unusedVariables false
attribute [local irreducible] vc
structure CO where
 a:Int
 b:Int
 c:Int
def NQ:List SV->CO
 |[.int _ a,.int _ b,.int _ c]=>⟨a,b,c⟩
 |_=>⟨0,0,0⟩
def CC:List SV->L.Sq CO
 |[.sl _ n g]=>⟨n,fun i=>NQ (g i)⟩
 |_=>⟨0,fun _=>⟨0,0,0⟩⟩
def HN:List SV->Prop
 |[.sl 3 n g]=>∀i,i<n->g i = [.int .i64 (NQ (g i)).a,.int .i64 (NQ (g i)).b,.int .i64 (NQ (g i)).c]
 |_=>False
theorem QZ {l:List SV} (h:HN l):l.length=1/\AX (SV.at l 0) (.sl 3 (CC l).n (fun k=>[.int .i64 ((CC l).g k).a,.int .i64 ((CC l).g k).b,.int .i64 ((CC l).g k).c])):=by
 unfold HN at h;split at h
 ·rename_i n g;exact⟨rfl,.sl h⟩
 ·exact h.elim
def Dm (a b c:L.Sq CO) (i:Nat):L.Sq CO:=bif decide (i=0)then a else bif decide (i=1)then b else c
theorem AdE {g:Nat->List SV} (h:HN (g 0)/\HN (g 1)/\HN (g 2)):AX (.sl 1 3 g) (.sl 1 3 (fun i=>[.sl 3 (Dm (CC (g 0)) (CC (g 1)) (CC (g 2)) i).n (fun k=>[.int .i64 ((Dm (CC (g 0)) (CC (g 1)) (CC (g 2)) i).g k).a,.int .i64 ((Dm (CC (g 0)) (CC (g 1)) (CC (g 2)) i).g k).b,.int .i64 ((Dm (CC (g 0)) (CC (g 1)) (CC (g 2)) i).g k).c])])):=by
 have key:∀i,i<3->HN (g i)/\Dm (CC (g 0)) (CC (g 1)) (CC (g 2)) i=CC (g i):=fun i hi=>by
  match i,hi with
  |0,_=>exact⟨h.1,rfl⟩
  |1,_=>exact⟨h.2.1,rfl⟩
  |2,_=>exact⟨h.2.2,rfl⟩
 refine .sl2 (fun i hi=>(QZ (key i hi).1).1.symm) (fun i hi j hj=>?_);rw[(QZ (key i hi).1).1]at hj;obtain rfl:j=0:=by omega
 rw[(key i hi).2];exact(QZ (key i hi).1).2
def BE (c:Nat->L.Sq CO):Nat->L.Sq CO
 |0=>⟨0,fun _=>⟨0,0,0⟩⟩
 |i+1=>⟨(BE c i).n+(c i).n,fun k=>bif decide (k<(BE c i).n)then(BE c i).g k else(c i).g (k-(BE c i).n)⟩
def Hc (p:L.Pt):Prop:=0<=p.x/\p.x<=4096/\0<=p.y/\p.y<=4096
def LP (u m v:L.Pt):Int:=(v.x-u.x)*(m.y-u.y)-(v.y-u.y)*(m.x-u.x)
def AdF (u m v:L.Pt):Int:=(m.x-u.x)*(v.x-m.x)+(m.y-u.y)*(v.y-m.y)
def AdG (u v:L.Pt):Int:=(v.x-u.x)*(v.x-u.x)+(v.y-u.y)*(v.y-u.y)
def LQ (u m v:L.Pt) (bite:Int):Bool:=bif bif !decide (LP u m v=0)then decide (max (LP u m v) (0-LP u m v)<=AdF u m v)else false then decide (LP u m v*LP u m v<=bite*bite*AdG u v)else false
def C0 (n:Int) (p:AR):Nat:=((p.to_-p.fr) % n).toNat
def C4 (n:Int) (p:AR) (i:Nat):Int:=(p.fr+(i:Int)) % n
def Fl (n:Int) (p:AR):Prop:=(0<=p.fr/\p.fr<n)/\(0<=p.to_/\p.to_<n)/\p.fr≠p.to_
theorem Ra {n:Int} {p:AR} (h:Fl n p) {i:Nat} (hi:(i:Int)<n):C4 n p i=if p.fr+(i:Int)<n then p.fr+(i:Int)else p.fr+(i:Int)-n:=by
 obtain⟨⟨h1,h2⟩,_⟩:=h;unfold C4;split
 ·exact AfV (by omega) (by omega)
 ·rw[show p.fr+(i:Int)=p.fr+(i:Int)-n+n by omega,Agi,AfV (by omega) (by omega)];omega
theorem AdH {n:Int} {p:AR} (h:Fl n p):(C0 n p:Int)=if p.fr<p.to_ then p.to_-p.fr else p.to_-p.fr+n:=by
 obtain⟨⟨h1,h2⟩,⟨h3,h4⟩,h5⟩:=h;unfold C0;rw[Int.toNat_of_nonneg (Int.emod_nonneg _ (by omega))];split
 ·exact AfV (by omega) (by omega)
 ·have e:(p.to_-p.fr) % n=(p.to_-p.fr+n) % n:=(Agi _ _).symm;rw[e,AfV (by omega) (by omega)]
theorem Rb {n:Int} {p:AR} (h:Fl n p):1<=C0 n p/\(C0 n p:Int)<n/\C4 n p 0=p.fr/\C4 n p (C0 n p)=p.to_/\(∀i,i<=C0 n p->0<=C4 n p i/\C4 n p i<n)/\(∀i,i<=C0 n p->C4 n p i=p.to_->i=C0 n p)/\∀i,i<C0 n p->Int.tmod (C4 n p i+1) n=C4 n p (i+1):=by
 have hD:=AdH h;obtain⟨⟨h1,h2⟩,⟨h3,h4⟩,h5⟩:=h;have hlt:(C0 n p:Int)<n:=by split at hD<;>omega
 have h1':1<=C0 n p:=by split at hD<;>omega
 have hr:∀i,i<=C0 n p->0<=C4 n p i/\C4 n p i<n:=fun i hi=>⟨Int.emod_nonneg _ (by omega),Int.emod_lt_of_pos _ (by omega)⟩;refine⟨h1',hlt,?_,?_,hr,fun i hi e=>?_,fun i hi=>?_⟩
 ·rw[Ra ⟨⟨h1,h2⟩,⟨h3,h4⟩,h5⟩ (by omega)];split<;>omega
 ·rw[Ra ⟨⟨h1,h2⟩,⟨h3,h4⟩,h5⟩ hlt];split<;>split at hD<;>omega
 ·rw[Ra ⟨⟨h1,h2⟩,⟨h3,h4⟩,h5⟩ (by omega)]at e;split at e<;>split at hD<;>omega
 ·have:=hr i (by omega);rw[Int.tmod_eq_emod_of_nonneg (by omega)];unfold C4;rw[Int.emod_add_emod];congr 1
  push_cast;omega
def I1 (l:L.Sq L.Pt) (p:AR):Bool:=!Cl (C0 l.n p-1) fun i=>decide (0<Gb l (C4 l.n p (1+i)).toNat)
def FP {α:Type} (f:Nat->Option α):Nat->Option α
 |0=>none
 |n+1=>match FP f n with
   |some x=>some x
   |none=>f n
theorem Re {α:Type} {f:Nat->Option α}:∀{n},(∀k,k<n->f k=none)->FP f n=none
 |0,_=>rfl
 |n+1,h=>by rw[FP,Re (fun k hk=>h k (by omega))];exact h n (by omega)
theorem fP {α:Type} {f:Nat->Option α} {k:Nat} {x:α} (hf:f k=some x) (h:∀j,j<k->f j=none):∀{n},k<n->FP f n=some x
 |0,hk=>by omega
 |n+1,hk=>by
   rw[FP]
   by_cases e:k=n
   ·subst e;rw[Re h];exact hf
   ·rw[fP hf h (n:=n) (by omega)]
theorem Rf {α:Type} {f g:Nat->Option α}:∀{n},(∀k,k<n->f k=g k)->FP f n=FP g n
 |0,_=>rfl
 |n+1,h=>by rw[FP,FP,Rf (fun k hk=>h k (by omega)),h n (by omega)]
def G5 (f:Nat->Nat->Option (List CO)) (lw:Nat->Nat->Nat->Bool) (r:Nat->Int) (a b m:Nat):Option (List CO):=bif lw a m b then(match f a m with|none=>none|some x=>match f m b with|none=>none|some y=>some (⟨r a,r m,r b⟩::(x++y)))else none
def F5 (lw:Nat->Nat->Nat->Bool) (r:Nat->Int):Nat->Nat->Nat->Option (List CO)
 |0,_,_=>none
 |n+1,a,b=>if b=a+1 then some []else FP (fun k=>G5 (F5 lw r n) lw r a b (a+1+k)) (b-a-1)
theorem NR (lw:Nat->Nat->Nat->Bool) (r:Nat->Int):∀(n m a b:Nat),a<b->b-a<=n->b-a<=m->F5 lw r n a b=F5 lw r m a b
 |0,_,a,b,h,h1,_=>by omega
 |n+1,0,a,b,h,_,h1=>by omega
 |n+1,m+1,a,b,h,h1,h2=>by
   rw[F5,F5]
   by_cases e:b=a+1
   ·rw[if_pos e,if_pos e]
   ·rw[if_neg e,if_neg e];refine Rf fun k hk=>?_;unfold G5;rw[NR lw r n m a (a+1+k) (by omega) (by omega) (by omega),NR lw r n m (a+1+k) b (by omega) (by omega) (by omega)]
def NS (l:L.Sq L.Pt) (r:L.Sq Int) (bite:Int) (a m b:Nat):Bool:=LQ (l.g (r.g a).toNat) (l.g (r.g m).toNat) (l.g (r.g b).toNat) bite
def BP (l:L.Sq L.Pt) (r:L.Sq Int) (bite:Int) (a b:Nat):Option (List CO):=F5 (NS l r bite) r.g r.n a b
def DP (l:L.Sq L.Pt) (r:L.Sq Int) (bite:Int) (a b m:Nat):Option (List CO):=G5 (BP l r bite) (NS l r bite) r.g a b m
theorem AdI (l:L.Sq L.Pt) (r:L.Sq Int) (bite:Int) {a b:Nat} (h:b=a+1) (hb:b<r.n):BP l r bite a b=some []:=by
 unfold BP;obtain⟨n,e⟩:∃n,r.n=n+1:=⟨r.n-1,by omega⟩;rw[e,F5,if_pos h]
theorem fQ (l:L.Sq L.Pt) (r:L.Sq Int) (bite:Int) {a b:Nat} (hab:a<b) (h:b≠a+1) (hb:b<r.n):BP l r bite a b=FP (fun k=>DP l r bite a b (a+1+k)) (b-a-1):=by
 unfold BP;obtain⟨n,e⟩:∃n,r.n=n+1:=⟨r.n-1,by omega⟩;rw[e,F5,if_neg h];refine Rf fun k hk=>?_;unfold DP G5 BP;rw[e,NR _ _ n (n+1) a (a+1+k) (by omega) (by omega) (by omega),NR _ _ n (n+1) (a+1+k) b (by omega) (by omega) (by omega)]
def CJ (l:L.Sq L.Pt) (r:L.Sq Int) (bite:Int) (a b:Int):Prop:=BP l r bite a.toNat b.toNat=none
theorem Rg (lw:Nat->Nat->Nat->Bool) (r:Nat->Int):∀(n a b:Nat),a<b->∀x,F5 lw r n a b=some x->x.length+1=b-a
 |0,a,b,_,x,e=>by cases e
 |n+1,a,b,hab,x,e=>by
   rw[F5]at e
   by_cases e1:b=a+1
   ·rw[if_pos e1]at e;cases e;simp;omega
   ·rw[if_neg e1]at e;have key:∀m,a<m->m<b->∀x,G5 (F5 lw r n) lw r a b m=some x->x.length+1=b-a:=fun m h1 h2 x e=>by
     unfold G5 at e;cases h3:lw a m b
     ·rw[h3]at e;cases e
     ·rw[h3,cond_true]at e;cases h4:F5 lw r n a m with
      |none=>rw[h4]at e;cases e
      |some y =>
        cases h5:F5 lw r n m b with
        |none=>rw[h4,h5]at e;cases e
        |some z =>
          rw[h4,h5]at e;cases e;have:=Rg lw r n a m h1 y h4;have:=Rg lw r n m b h2 z h5;simp only[List.length_cons,List.length_append];omega
    have:∀m,m<=b-a-1->∀x,FP (fun k=>G5 (F5 lw r n) lw r a b (a+1+k)) m=some x->x.length+1=b-a:=fun m=>by
     induction m with
     |zero=>intro _ x e;cases e
     |succ m ih =>
       intro hm x e;rw[FP]at e;cases e2:FP (fun k=>G5 (F5 lw r n) lw r a b (a+1+k)) m with
       |some y=>rw[e2]at e;cases e;exact ih (by omega) _ e2
       |none=>rw[e2]at e;exact key _ (by omega) (by omega) x e
    exact this _ (Nat.le_refl _) x e
def C1 (x:Option (List CO)):Bool:=x.isSome
def BA (x:Option (List CO)):L.Sq CO:=⟨(x.getD []).length,fun i=>(x.getD []).getD i ⟨0,0,0⟩⟩
theorem fR {l:L.Sq L.Pt} {r:L.Sq Int} {bite:Int} {a b:Nat} (h:a<b):(BA (BP l r bite a b)).n<=b-a:=by
 unfold BA;cases e:BP l r bite a b with
 |none=>simp
 |some x=>have:=Rg _ _ _ _ _ h x e;simp;omega
theorem AdJ (t:CO) (x y:List CO):(BE (Dm ⟨1,fun _=>t⟩ (BA (some x)) (BA (some y))) 3).n=(BA (some (t::(x++y)))).n/\∀i,i<(BE (Dm ⟨1,fun _=>t⟩ (BA (some x)) (BA (some y))) 3).n->(BE (Dm ⟨1,fun _=>t⟩ (BA (some x)) (BA (some y))) 3).g i=(BA (some (t::(x++y)))).g i:=by
 have e1:(BE (Dm ⟨1,fun _=>t⟩ (BA (some x)) (BA (some y))) 3).n=0+1+x.length+y.length:=rfl;refine⟨by rw[e1];show _=(t::(x++y)).length;simp;omega,fun i hi=>?_⟩;rw[e1]at hi;show(bif decide (i<0+1+x.length)then(bif decide (i<0+1)then(bif decide (i<0)then(⟨0,0,0⟩:CO)else t)else x.getD (i-(0+1)) ⟨0,0,0⟩)else y.getD (i-(0+1+x.length)) ⟨0,0,0⟩)=(t::(x++y)).getD i ⟨0,0,0⟩
 by_cases h1:i<0+1+x.length
 ·rw[decide_eq_true h1,cond_true]
  by_cases h2:i<0+1
  ·rw[decide_eq_true h2,cond_true];obtain rfl:i=0:=by omega
   rfl
  ·rw[decide_eq_false h2,cond_false];obtain⟨j,rfl⟩:∃j,i=j+1:=⟨i-1,by omega⟩;rw[List.getD_cons_succ,show j+1-(0+1)=j by omega,AS,AS,Af2 (by omega)]
 ·rw[decide_eq_false h1,cond_false];obtain⟨j,rfl⟩:∃j,i=j+1:=⟨i-1,by omega⟩;rw[List.getD_cons_succ,show j+1-(0+1+x.length)=j-x.length by omega,AS,AS,Af6 (by omega)]
def Hz (l:L.Sq L.Pt) (r:L.Sq Int) (bite:Int):Option (List CO):=BP l r bite 0 (r.n-1)
def LR (l:L.Sq L.Pt) (p:AR):L.Sq Int:=⟨C0 l.n p+1,C4 l.n p⟩
def EE (l:L.Sq L.Pt) (p:AR) (bite:Int):Option (List CO):=bif !I1 l p then none else Hz l (LR l p) bite
def AdK (x:CO):List SV:=[.int .i64 x.a,.int .i64 x.b,.int .i64 x.c]
def Hd (l:L.Sq L.Pt) (r:L.Sq Int) (bite:Int):Prop:=(l.n<=1000/\r.n<=1000/\0<=bite/\bite<=4096)/\(∀i,i<r.n->0<=r.g i/\r.g i<(l.n:Int))/\∀i,i<l.n->Hc (l.g i)
def fS (u:L.Pt) (m:L.Pt) (v:L.Pt) (b:Int):Prop:=Hc u/\Hc m/\Hc v/\0<=b/\b<=4096
def fT (u:L.Pt) (m:L.Pt) (v:L.Pt) (b:Int):SV:=.bool (LQ u m v b)
def fU:List EV->Option (Prop×SV)
 |[.p (.agg [.int .i64 u_x,.int .i64 u_y]),.p (.agg [.int .i64 m_x,.int .i64 m_y]),.p (.agg [.int .i64 v_x,.int .i64 v_y]),.p (.int .i64 b)]=>some (fS (⟨u_x,u_y⟩:L.Pt) (⟨m_x,m_y⟩:L.Pt) (⟨v_x,v_y⟩:L.Pt) b,fT (⟨u_x,u_y⟩:L.Pt) (⟨m_x,m_y⟩:L.Pt) (⟨v_x,v_y⟩:L.Pt) b)
 |_=>none
abbrev fV:SE.Spec:=(AK fU)
def AdL:Ak:={ muts:=[],frz:=B2 [],specs:=AB [],loops:=AV [],iters:=Bw [],rfs:=AT [],nils:=B3 [] }
theorem AdM (u:L.Pt) (m:L.Pt) (v:L.Pt) (b:Int) (hp:fS u m v b):vc Tryz.prog (AdL) (Ah Tryz.f70) (Ap Tryz.f70 [.p (.agg [.int .i64 u.x,.int .i64 u.y]),.p (.agg [.int .i64 m.x,.int .i64 m.y]),.p (.agg [.int .i64 v.x,.int .i64 v.y]),.p (.int .i64 b)]) (AJ Tryz.prog Tryz.f70 (fT u m v b)):=
 @Eq.mpr _ (let A10:=(0:Int);let A8:=(v.y-m.y);let A7:=(v.x-m.x);let A6:=(m.x-u.x);let A5:=(m.y-u.y);let A4:=(v.y-u.y);let A3:=(v.x-u.x);let A9:=(A3*A3+A4*A4);let A1:=(A3*A5-A4*A6);let A2:=(bif !decide (A3*A5-A4*A6=A10)then decide (Max.max A1 (A10-A1)<=A6*A7+A5*A8)else false);Ad .i64 A3/\Ad .i64 A5/\Ad .i64 (A3*A5)/\Ad .i64 A4/\Ad .i64 A6/\Ad .i64 (A4*A6)/\Ad .i64 A1/\Ad .i64 A6/\Ad .i64 A7/\Ad .i64 (A6*A7)/\Ad .i64 A5/\Ad .i64 A8/\Ad .i64 (A5*A8)/\Ad .i64 (A6*A7+A5*A8)/\Ad .i64 A3/\Ad .i64 A3/\Ad .i64 (A3*A3)/\Ad .i64 A4/\Ad .i64 A4/\Ad .i64 (A4*A4)/\Ad .i64 A9/\((!decide (A3*A5-A4*A6=A10))=true->Ad .i64 (A10-A1))/\(A2=true->Ad .i64 (A1*A1))/\(A2=true->Ad .i64 (b*b))/\(A2=true->Ad .i64 (b*b*A9))/\(bif bif !decide (A3*A5-A4*A6=A10)then decide (Max.max A1 (A10-A1)<=A6*A7+A5*A8)else false then decide (A1*A1<=b*b*A9)else false)=LQ u m v b) (by kernel_rfl) (by
 conv=>zeta
 obtain⟨h1,h2,h3,b0,b1⟩:=hp;unfold Hc at h1 h2 h3;have m1:=Ez (a:=v.x-u.x) (b:=m.y-u.y) (m:=4096) (n:=4096) (by omega) (by omega) (by omega) (by omega);have m2:=Ez (a:=v.y-u.y) (b:=m.x-u.x) (m:=4096) (n:=4096) (by omega) (by omega) (by omega) (by omega);have m3:=Ez (a:=m.x-u.x) (b:=v.x-m.x) (m:=4096) (n:=4096) (by omega) (by omega) (by omega) (by omega);have m4:=Ez (a:=m.y-u.y) (b:=v.y-m.y) (m:=4096) (n:=4096) (by omega) (by omega) (by omega) (by omega);have m5:=Ez (a:=v.x-u.x) (b:=v.x-u.x) (m:=4096) (n:=4096) (by omega) (by omega) (by omega) (by omega);have m6:=Ez (a:=v.y-u.y) (b:=v.y-u.y) (m:=4096) (n:=4096) (by omega) (by omega) (by omega) (by omega);have m7:=Ez (a:=(v.x-u.x)*(m.y-u.y)-(v.y-u.y)*(m.x-u.x)) (b:=(v.x-u.x)*(m.y-u.y)-(v.y-u.y)*(m.x-u.x)) (m:=33554432) (n:=33554432) (by omega) (by omega) (by omega) (by omega);have m8:=Ez (a:=b) (b:=b) (m:=4096) (n:=4096) (by omega) (by omega) (by omega) (by omega);have m9:=Ez (a:=b*b) (b:=(v.x-u.x)*(v.x-u.x)+(v.y-u.y)*(v.y-u.y)) (m:=16777216) (n:=33554432) (by omega) (by omega) (by omega) (by omega)
 repeat' with_reducible apply And.intro
 all_goals first|exact rfl|exact jK|exact fun _=>jK)
theorem AdN:Av Tryz.prog 70 fV:=AM Tryz.func70 (c:=Ah Tryz.f70) (by kernel_rfl) mixed (fun args p r hs hp=>by
 unfold fU at hs;split at hs
 ·cases hs;exact⟨_,_,AdM _ _ _ _ hp,(.same _ (.same _ (.same _ (.same _ .nil)))),⟨show Aa Tryz.prog _ from Aa.nil,rfl,⟨show Ag Tryz.prog _ from Ag.nil,(Aw.none (fun _=>rfl))⟩⟩⟩
 ·cases hs)
theorem AdO:Ao Tryz.prog 70:=fun args w=>by kernel_rfl
def fW (n:Int) (p:AR):Prop:=n<=1000/\Fl n p
def fX (n:Int) (p:AR):SV:=.sl 1 (C0 n p+1) (fun i=>[.int .i64 (C4 n p i)])
def fY:List EV->Option (Prop×SV)
 |[.p (.int .i64 n),.p (.agg [.int .i64 p_fr,.int .i64 p_to_,.int .i64 p_area])]=>some (fW n (⟨p_fr,p_to_,p_area⟩:AR),fX n (⟨p_fr,p_to_,p_area⟩:AR))
 |_=>none
abbrev Rh:SE.Spec:=(AK fY)
def AdP:Ak:={ cC with muts:=[9],frz:=B2 [(6,[9])] }
theorem AdQ (n:Int) (p:AR) (hp:fW n p):vc Tryz.prog ({ AdP with loops:=AV [(3,{ T:=Nat,keep:=[0,3,5],keepO:=[],chg:=fun i=>[(6,.p (.int .i64 (C4 n p i)))],own:=fun i=>[(9,.row 3 1 (i+1) (fun j=>[.int .i64 (C4 n p j)]))],inv:=fun i=>i<=C0 n p,mu:=fun i=>C0 n p-i })],rfs:=AT [] }) (Ah Tryz.f115) (Ap Tryz.f115 [.p (.int .i64 n),.p (.agg [.int .i64 p.fr,.int .i64 p.to_,.int .i64 p.area])]) (AJ Tryz.prog Tryz.f115 (fX n p)):=
 @Eq.mpr _ (let I:=SV.int .i64;let A4:=[I p.fr,I p.to_,I p.area];let A1:=(1:Nat);(∃(g:Nat),p.fr=C4 n p g/\(nat_lit 1=g+A1/\∀(i:Nat),i<nat_lit 1->BX [I p.fr] (nat_lit 1) i = [I (C4 n p i)])/\g<=C0 n p)/\∀(g:Nat),let A3:=(!decide (C4 n p g=p.to_));let A2:=(C4 n p g+(1:Int));g<=C0 n p->(A3=true->Ad .i64 A2/\n≠(0:Int)/\(g+A1+nat_lit 1)*nat_lit 8<=(140737488355328:Nat)/\∃(g':Nat),Int.tmod A2 n=C4 n p g'/\SV.ref A4 (nat_lit 0)=SV.ref A4 (nat_lit 0)/\n=n/\(g+A1+nat_lit 1=g'+A1/\∀(i:Nat),i<g+A1+nat_lit 1->AU (g+A1) (fun(j:Nat)=>[I (C4 n p j)]) (fun(x:Nat)=>[I (Int.tmod A2 n)]) i = [I (C4 n p i)])/\g'<=C0 n p/\C0 n p-g'<C0 n p-g)/\(A3=false->g+A1=C0 n p+A1/\∀(i:Nat),i<g+A1 -> [I (C4 n p i)]= [I (C4 n p i)])) (by kernel_rfl) (by
 conv=>zeta
 obtain⟨hn,hk⟩:=(show n<=1000/\Fl n p from hp);obtain⟨d1,d2,f0,f1,fr,fe,fs⟩:=Rb hk;refine⟨⟨(0:Nat),f0.symm,⟨rfl,fun i hi=>?_⟩,Afg _⟩,fun g hg=>⟨fun hc=>?_,fun hc=>?_⟩⟩
 ·have hi:i<1:=hi;obtain rfl:i=0:=by omega
  rw[f0];rfl
 ·have hc:¬ C4 n p g=p.to_:=of_decide_eq_false (Cx hc);have hlt:g<C0 n p:=by
   rcases Nat.lt_or_ge g (C0 n p)with h|h
   ·exact h
   ·obtain rfl:g=C0 n p:=by omega
    exact absurd f1 hc
  have hr:=fr g hg;refine⟨jK,by omega,by show(g+1+1)*8<=140737488355328;omega,g+1,fs g hlt,rfl,rfl,⟨rfl,fun i hi=>?_⟩,hlt,by omega⟩;have hi:i<g+1+1:=hi;unfold AU
  by_cases e:i<g+1
  ·rw[if_pos e]
  ·rw[if_neg e];obtain rfl:i=g+1:=by omega
   rw[fs g hlt]
 ·have hc:C4 n p g=p.to_:=of_decide_eq_true (Ca hc);obtain rfl:=fe g hg hc;exact⟨rfl,fun _ _=>rfl⟩)
theorem fZ:Av Tryz.prog 115 Rh:=AM Tryz.func115 (c:=Ah Tryz.f115) (by kernel_rfl) mixed (fun args p r hs hp=>by
 unfold fY at hs;split at hs
 ·cases hs;exact⟨_,_,AdQ _ _ hp,(.same _ (.same _ .nil)),⟨show Aa Tryz.prog _ from Aa.nil,rfl,⟨show Ag Tryz.prog _ from Ag.nil,(Aw.none (fun _=>rfl))⟩⟩⟩
 ·cases hs)
theorem gB:Ao Tryz.prog 115:=fun args w=>by kernel_rfl
def gC (i:Int) (b:(L.Sq Int)):Prop:=0<=i/\i<(b.n:Int)
def gD (i:Int) (b:(L.Sq Int)):SV:=.bool (decide (0<b.g i.toNat))
def I2:List EV->Option (Prop×SV)
 |[.p (.int .i64 i),.p (.ref [.sl 1 b_n b_g] 0)]=>some ((∀i,i<b_n->b_g i = [.int .i64 ((DK (b_g i)))])/\gC i (⟨b_n,fun i=>DK (b_g i)⟩:(L.Sq Int)),gD i (⟨b_n,fun i=>DK (b_g i)⟩:(L.Sq Int)))
 |_=>none
abbrev gE:SE.Spec:=(AK I2)
def AdR:Ak:={ muts:=[],frz:=B2 [],specs:=AB [],loops:=AV [],iters:=Bw [],rfs:=AT [],nils:=B3 [] }
theorem AdS (i:Int) (b:(L.Sq Int)) (hp:gC i b):vc Tryz.prog (AdR) (Ah Tryz.f146) (Ap Tryz.f146 [.p (.int .i64 i),.p (.ref [.sl 1 b.n (fun i=>[.int .i64 ((b.g i))])] 0)]) (AJ Tryz.prog Tryz.f146 (gD i b)):=
 @Eq.mpr _ (((0:Int)<=i/\i<(↑b.n:Int))/\decide ((0:Int)<b.g (Af1 i))=decide ((0:Int)<b.g (Af1 i))) (by kernel_rfl) (by
 exact⟨hp,rfl⟩)
theorem AdT:Av Tryz.prog 146 gE:=AM Tryz.func146 (c:=Ah Tryz.f146) (by kernel_rfl) mixed (fun args p r hs hp=>by
 unfold I2 at hs;split at hs
 ·cases hs; exact⟨_, _, AdS _ _ hp.2, (.same _ (.p (AX.ref rfl (fun i hi =>by
  rcases i with _|i
  ·show AX (SV.sl _ _ _) (SV.sl _ _ _);exact(AX.sl hp.1)
  exact absurd hi (by simp;try omega))) .nil)),⟨show Aa Tryz.prog _ from Aa.nil,rfl,⟨show Ag Tryz.prog _ from Ag.nil,(Aw.none (fun _=>rfl))⟩⟩⟩
 ·cases hs)
theorem AdU:Ao Tryz.prog 146:=fun args w=>by kernel_rfl
theorem AdV:∀args p r,I2 args=some (p,r)->∃b,r=.bool b:=by
 intro args p r h;unfold I2 at h;split at h
 ·cases h;exact⟨_,rfl⟩
 ·cases h
def gF (l:(L.Sq L.Pt)) (p:AR):Prop:=AP l=true/\Fl l.n p
def gG (l:(L.Sq L.Pt)) (p:AR):SV:=.bool (I1 l p)
def gH:List EV->Option (Prop×SV)
 |[.p (.sl 2 l_n l_g),.p (.agg [.int .i64 p_fr,.int .i64 p_to_,.int .i64 p_area])]=>some ((∀i,i<l_n->l_g i = [.int .i64 ((An (l_g i)).x),.int .i64 ((An (l_g i)).y)])/\gF (⟨l_n,fun i=>An (l_g i)⟩:(L.Sq L.Pt)) (⟨p_fr,p_to_,p_area⟩:AR),gG (⟨l_n,fun i=>An (l_g i)⟩:(L.Sq L.Pt)) (⟨p_fr,p_to_,p_area⟩:AR))
 |_=>none
abbrev gI:SE.Spec:=(AK gH)
def AdW:Ak:={ cC with muts:=[5],frz:=B2 [(3,[5])],specs:=AB [(144,UV),(115,Rh),(145,Uh),(146,gE)] }
theorem AdX (l:(L.Sq L.Pt)) (p:AR) (hp:gF l p):vc Tryz.prog (AdW) (Ah Tryz.f113) (Ap Tryz.f113 [.p (.sl 2 l.n (fun i=>[.int .i64 ((l.g i).x),.int .i64 ((l.g i).y)])),.p (.agg [.int .i64 p.fr,.int .i64 p.to_,.int .i64 p.area])]) (AJ Tryz.prog Tryz.f113 (gG l p)):=
 @Eq.mpr _ (let I:=SV.int .i64;let T:=Af1;let A12:=(0:Nat);let A8:=(↑l.n:Int);let A6:=(1:Int);let A3:=(↑(C0 A8 p+(1:Nat)):Int);let A9:=(A3-A6-A6);let A1:=(L.Sq.mk l.n fun(i:Nat)=>An ((fun(i:Nat)=>[I (l.g i).x,I (l.g i).y]) i));let A4:=[SV.ref [SV.sl (nat_lit 1) (bif AP A1 then A1.n else A12) fun(k:Nat)=>[I (Gb A1 k)]] (nat_lit 0)];((∀(i:Nat),let A11:=[I (l.g i).x,I (l.g i).y];i<l.n->A11=A11)/\l.n<=(1000000:Nat))/\(A8<=(1000:Int)/\Fl A8 p)/\Ad .i64 (A3-A6)/\((0:Int)<=A6/\A6<=A3-A6/\A3-A6<=A3)/\((∀(i:Nat),let A10:=[I (C4 A8 p (T A6+i))];i<T A9->A10=A10)/\FD (BV.mk (fun(«as»:List SV)=>Fw I2 (Ago EV.p «as» ++ Ago EV.p A4)) fun(«as»:List SV)=>GI I2 (Ago EV.p «as» ++ Ago EV.p A4))/\T A9<=(1000000:Nat)/\∀(i:Nat),i<T A9->(∀(i:Nat),let A7:=(L.Sq.mk l.n fun(i:Nat)=>l.g i);(i<bif AP A7 then l.n else A12) -> [I (Gb A7 i)]= [I (Gb A7 i)])/\(0:Int)<=C4 A8 p (T A6+i)/\C4 A8 p (T A6+i)<(↑(bif AP (L.Sq.mk l.n fun(i:Nat)=>l.g i)then l.n else A12):Int))/\(!Cl (T A9) fun(i:Nat)=>let A2:=(L.Sq.mk l.n fun(i:Nat)=>An ((fun(i:Nat)=>[I (l.g i).x,I (l.g i).y]) i));let A5:=[SV.ref [SV.sl (nat_lit 1) (bif AP A2 then A2.n else A12) fun(k:Nat)=>[I (Gb A2 k)]] (nat_lit 0)];Bt (BV.mk (fun(«as»:List SV)=>Fw I2 (Ago EV.p «as» ++ Ago EV.p A5)) fun(«as»:List SV)=>GI I2 (Ago EV.p «as» ++ Ago EV.p A5)) [I (C4 A8 p (T A6+i))])=I1 l p) (by kernel_rfl) (by
 conv=>zeta
 obtain⟨hv,hk⟩:=(show AP l=true/\Fl l.n p from hp);obtain⟨n3,n24,_,_⟩:=Gy hv;obtain⟨d1,d2,f0,f1,fr,fe,fs⟩:=Rb hk;have eN:(((C0 l.n p+1:Nat):Int)-1-1).toNat=C0 l.n p-1:=by omega
 have eB:(bif AP l then l.n else 0)=l.n:=by rw[hv];rfl
 refine⟨⟨fun _ _=>rfl,by omega⟩,⟨by omega,hk⟩,jK,⟨by omega,by omega,by omega⟩,⟨fun _ _=>rfl,Pl AdV _,by omega,fun i hi=>⟨fun _ _=>rfl,?_⟩⟩,?_⟩
 ·rw[eB];rw[eN]at hi;exact fr (1+i) (by omega)
 ·rw[eN];unfold I1;rfl)
theorem AdY:Av Tryz.prog 113 gI:=AM Tryz.func113 (c:=Ah Tryz.f113) (by kernel_rfl) mixed (fun args p r hs hp=>by
 unfold gH at hs;split at hs
 ·cases hs;exact⟨_,_,AdX _ _ hp.2,(.p (.sl hp.1) (.same _ .nil)),⟨show Aa Tryz.prog _ from(Aa.cons sI sJ (Aa.cons fZ gB (Aa.cons qG qH (Aa.cons AdT AdU Aa.nil)))),rfl,⟨show Ag Tryz.prog _ from Ag.nil,(Aw.none (fun _=>rfl))⟩⟩⟩
 ·cases hs)
theorem AdZ:Ao Tryz.prog 113:=fun args w=>by kernel_rfl
def gJ (s:Nat) (n:Int):Prop:=1<=n/\n<=2000000
def gK (s:Nat) (n:Int):Nat->Prop:=fun _=>True
def gL (s:Nat) (n:Int):Nat->Nat:=fun _=>0
def gM (s:Nat) (n:Int):Nat->Nat->List SV:=fun _ _=>[]
def gN:List EV->Option (Prop×(Nat->Prop)×(Nat->Nat)×(Nat->Nat->List SV))
 |[.p (.raw (.slice none 0 0)),.p (.int .i64 n)]=>some (gJ (0:Nat) n,gK (0:Nat) n,gL (0:Nat) n,gM (0:Nat) n)
 |_=>none
abbrev gO:SE.Spec:=(Gw Nat 0 64 3 gN)
def Aea:Ak:={ cC with muts:=[22],cuts:=[25] }
theorem Aeb (s:Nat) (n:Int) (hp:gJ s n):vc Tryz.prog (Aea) (Ah Tryz.f173) (Ap Tryz.f173 [.p (.raw (.slice none 0 0)),.p (.int .i64 n)]) (Fv Tryz.prog Tryz.f173 (Nat) (gK s n) 64 3 (gL s n) (gM s n)):=
 @Eq.mpr _ (let A4:=(0:Nat);let A2:=(0:Int);let A1:=(↑A4:Int);let A3:=(A1-A1);(decide (n<A2)=true->False)/\(decide (n<A2)=false->Ad .i64 A3/\Ad .i64 (n-A3)/\(decide (A2<n-A3)=true->(A2<=A2/\A2<=A1/\A1<=A2)/\(A2<n-A3/\(n-A3)*(↑(nat_lit 24):Int)<=(140737488355328:Int))/\(A2<=A1/\A1<=(↑(Af1 (n-A3)):Int))/\∃(t:Nat),(nat_lit 0=A4/\∀(i:Nat),i<nat_lit 0 -> [SV.int .i64 A2,SV.int .i64 A2,SV.int .i64 A2]= [])/\True)/\(decide (A2<n-A3)=false->∃(t:Nat),A4=A4/\True))) (by kernel_rfl) (by
 conv=>zeta
 obtain⟨h1,h2⟩:=hp;refine⟨fun h=>?_,fun _=>⟨jK,jK,fun h=>⟨⟨by omega,by omega,by omega⟩,⟨by omega,show(n-(((0:Nat):Int)-((0:Nat):Int)))*24<=140737488355328 by omega⟩,⟨by omega,by omega⟩,(0:Nat),⟨rfl,fun i hi=>absurd hi (Rc _)⟩,trivial⟩,fun h=>⟨(0:Nat),rfl,trivial⟩⟩⟩;have:=of_decide_eq_true h;omega)
theorem Aec:Av Tryz.prog 173 gO:=GK Tryz.func173 (c:=Ah Tryz.f173) (by kernel_rfl) mixed (fun args p q n g hs hp=>by
 unfold gN at hs;split at hs
 ·cases hs;exact⟨_,_,Aeb _ _ hp,(.same _ (.same _ .nil)),⟨show Aa Tryz.prog _ from Aa.nil,rfl,⟨show Ag Tryz.prog _ from Ag.nil,(Aw.none (fun _=>rfl))⟩⟩⟩
 ·cases hs)
theorem Aed:Ao Tryz.prog 173:=fun args w=>by kernel_rfl
def gP (c:(Nat->L.Sq CO)):Prop:=(1<=(c 0).n/\(c 0).n<=10000)/\(c 1).n<=10000/\(c 2).n<=10000
def gQ (c:(Nat->L.Sq CO)):Nat->Prop:=fun _=>True
def gR (c:(Nat->L.Sq CO)):Nat->Nat:=fun _=>(BE c 3).n
def gS (c:(Nat->L.Sq CO)):Nat->Nat->List SV:=fun _ k=>[.int .i64 (((BE c 3).g k).a),.int .i64 (((BE c 3).g k).b),.int .i64 (((BE c 3).g k).c)]
def gT:List EV->Option (Prop×(Nat->Prop)×(Nat->Nat)×(Nat->Nat->List SV))
 |[.p (.sl 1 3 c_g)]=>some ((HN (c_g 0)/\HN (c_g 1)/\HN (c_g 2))/\gP (Dm (CC (c_g 0)) (CC (c_g 1)) (CC (c_g 2))),gQ (Dm (CC (c_g 0)) (CC (c_g 1)) (CC (c_g 2))),gR (Dm (CC (c_g 0)) (CC (c_g 1)) (CC (c_g 2))),gS (Dm (CC (c_g 0)) (CC (c_g 1)) (CC (c_g 2))))
 |_=>none
abbrev gU:SE.Spec:=(Gw Nat 0 64 3 gT)
def Aee:Ak:={ cC with muts:=[24],specs:=AB [(173,gO)],raws:=[173] }
theorem Aef (c:(Nat->L.Sq CO)) (hp:gP c):vc Tryz.prog ({ Aee with loops:=AV [(3,{ T:=Nat,keep:=[0,9,10],keepO:=[],chg:=fun i=>[(3,.p (.int .i64 ((BE c i).n:Int))),(11,.p (.int .i64 (i:Int)))],own:=fun _=>[],inv:=fun i=>i<=3,mu:=fun i=>3-i }),(11,{ T:=Nat,keep:=[0,6,25,26],keepO:=[],chg:=fun i=>[(27,.p (.int .i64 (i:Int)))],own:=fun i=>[(24,.row 64 3 (BE c i).n (fun k=>[.int .i64 (((BE c i).g k).a),.int .i64 (((BE c i).g k).b),.int .i64 (((BE c i).g k).c)]))],inv:=fun i=>i<=3,mu:=fun i=>3-i })],rfs:=AT [] }) (Ah Tryz.f148) (Ap Tryz.f148 [.p (.sl 1 3 (fun i=>[.sl 3 (c i).n (fun k=>[.int .i64 ((c i).g k).a,.int .i64 ((c i).g k).b,.int .i64 ((c i).g k).c])]))]) (Fv Tryz.prog Tryz.f148 (Nat) (gQ c) 64 3 (gR c) (gS c)):=
  @Eq.mpr _ (let I:=SV.int .i64;let T:=Af1;let A14:=(1:Int);let A13:=(0:Int);let A6:=(3:Nat);let A2:=(↑(nat_lit 3):Int);(∃(g:Nat),A13=(↑(BE c g).n:Int)/\A13=(↑g:Int)/\g<=A6)/\∀(g:Nat),let A8:=(↑g:Int);let A15:=(↑(c (T A8)).n:Int);let A7:=(↑(BE c g).n:Int);let A1:=(nat_lit 3=nat_lit 3/\∀(i:Nat),let A5 :=
 [SV.sl A6 (c i).n fun(k:Nat)=>[I ((c i).g k).a,I ((c i).g k).b,I ((c i).g k).c]];i<nat_lit 3->A5=A5);g<=A6->(decide (A8<A2)=true->(A13<=A8/\A8<A2)/\Ad .i64 (A7+A15)/\(false=true->False)/\(false=false->Ad .i64 (A8+A14)/\∃(g':Nat),A7+A15=(↑(BE c g').n:Int)/\A8+A14=(↑g'
:Int)/\A2=A2/\A1/\A1/\g'<=A6/\A6-g'<A6-g))/\(decide (A8<A2)=false->(A14<=A7/\A7<=(2000000:Int))/\∀(t:Nat),True->(∃(g:Nat),A13=(↑g:Int)/\((0:Nat)=(BE c g).n/\∀(i:Nat),let A12:=((BE c g).g i);i<(0:Nat) -> []= [I A12.a,I A12.b,I A12.c])/\g<=A6)/\∀(g_1:Nat),let A4:=(↑g_1:Int);let A9:=(c (T A4));let A3 :=
 (BE c g_1);g_1<=A6->(decide (A4<A2)=true->(A13<=A4/\A4<A2)/\(A3.n+A9.n)*nat_lit 24<=(140737488355328:Nat)/\Ad .i64 (A4+A14)/\∃(g':Nat),A4+A14=(↑g':Int)/\A2=A2/\A1/\A1/\(A3.n+A9.n=(BE c g').n/\∀(i:Nat),let A10:=((BE c g').g i);i<A3.n+A9.n->AU A3.n (fun(k:Nat)=>[I (A3.g k).a,I (A3.g
 k).b,I (A3.g k).c]) (fun(k:Nat)=>[I (A9.g k).a,I (A9.g k).b,I (A9.g k).c]) i = [I A10.a,I A10.b,I A10.c])/\g'<=A6/\A6-g'<A6-g_1)/\(decide (A4<A2)=false->∃(t:Nat),(A3.n=(BE c A6).n/\∀(i:Nat),let A11:=((BE c A6).g i);i<A3.n -> [I (A3.g i).a,I (A3.g i).b,I (A3.g i).c]= [I A11.a,I A11.b,I A11.c])/\True))) (by kernel_rfl) (by
  conv=>zeta
  obtain⟨⟨h0,h1⟩,h2,h3⟩:=hp;have hc:∀i,i<3->(c i).n<=10000:=fun i hi=>by
   match i,hi with
   |0,_=>exact h1
   |1,_=>exact h2
   |2,_=>exact h3
  have e1:(BE c 1).n=0+(c 0).n:=rfl;have e2:(BE c 2).n=0+(c 0).n+(c 1).n:=rfl;have e3:(BE c 3).n=0+(c 0).n+(c 1).n+(c 2).n:=rfl;have ht:∀i,i<=3->(BE c i).n<=30000:=fun i hi=>by
   match i,hi with
   |0,_=>exact Afg _
   |1,_=>omega
   |2,_=>omega
   |3,_=>omega
  refine⟨⟨(0:Nat),rfl,rfl,Afg _⟩,fun g hg=>⟨fun hlt=>?_,fun hge=>?_⟩⟩
  ·have hb:(g:Int)<3:=of_decide_eq_true hlt;have e0:((g:Int)).toNat=g:=by omega
   have hcg:=hc g (by omega);have htg:=ht g hg;rw[e0];exact⟨⟨by omega,hb⟩,jK,fun h=>Bool.false_ne_true h,fun _=>⟨jK,g+1,by show((BE c g).n:Int)+((c g).n:Int)=(((BE c g).n+(c g).n:Nat):Int);omega,by omega,rfl,⟨rfl,fun _ _=>rfl⟩,⟨rfl,fun _ _=>rfl⟩,by omega,by omega⟩⟩
  ·have hb:¬ (g:Int)<3:=of_decide_eq_false hge;obtain rfl:g=3:=by omega
   refine⟨⟨by omega,by omega⟩,fun _ _=>⟨⟨(0:Nat),rfl,⟨rfl,fun i hi=>absurd hi (Rc _)⟩,Afg _⟩,fun k hk=>⟨fun hlt=>?_,fun hge=>?_⟩⟩⟩
   ·have hb:(k:Int)<3:=of_decide_eq_true hlt;have e0:((k:Int)).toNat=k:=by omega
    have hck:=hc k (by omega);have htk:=ht k hk;rw[e0];refine⟨⟨by omega,hb⟩,show((BE c k).n+(c k).n)*24<=140737488355328 by omega,jK,k+1,by omega,rfl,⟨rfl,fun _ _=>rfl⟩,⟨rfl,fun _ _=>rfl⟩,⟨rfl,fun i hi=>?_⟩,by omega,by omega⟩;unfold AU
    by_cases h:i<(BE c k).n
    ·have w : (BE c (k+1)).g i = (BE c k).g i :=by
      show(bif decide (i<(BE c k).n)then _ else _)=_;rw[decide_eq_true h];rfl
     rw[if_pos h,w]
    ·have w : (BE c (k+1)).g i = (c k).g (i-(BE c k).n):=by
      show(bif decide (i<(BE c k).n)then _ else _)=_;rw[decide_eq_false h];rfl
     rw[if_neg h,w]
   ·have hb:¬ (k:Int)<3:=of_decide_eq_false hge;obtain rfl:k=3:=by omega
    exact⟨(0:Nat),⟨rfl,fun _ _=>rfl⟩,trivial⟩)
theorem Aeg:Av Tryz.prog 148 gU:=GK Tryz.func148 (c:=Ah Tryz.f148) (by kernel_rfl) mixed (fun args p q n g hs hp=>by
 unfold gT at hs;split at hs
 ·cases hs;exact⟨_,_,Aef _ hp.2,(.p (AdE hp.1) .nil),⟨show Aa Tryz.prog _ from(Aa.cons Aec Aed Aa.nil),rfl,⟨show Ag Tryz.prog _ from Ag.nil,(Aw.none (fun _=>rfl))⟩⟩⟩
 ·cases hs)
theorem Aeh:Ao Tryz.prog 148:=fun args w=>by kernel_rfl
abbrev I3:Mk:={ T:=(L.Sq L.Pt)×(L.Sq Int)×(Int)×(Nat)×(Nat),U:=Nat,args:=fun t=>(fun l r bite a b=>[.p (.int .i64 (a:Int)),.p (.int .i64 (b:Int))] ++ [.loc 1000 0,.p (.ref [(.sl 2 l.n (fun i=>[.int .i64 ((l.g i).x),.int .i64 ((l.g i).y)]))] 0),.p (.ref [(.sl 1 r.n (fun i=>[.int .i64 ((r.g i))]))] 0),.p (.ref [.int .i64 bite] 0),.loc 1001 0]) t.1 t.2.1 t.2.2.1 t.2.2.2.1 t.2.2.2.2,lkeys:=[1000,1001,1002],keys:=[],lent:=fun t=>(fun l r bite a b=>[(1000,.blk 203 [.mapv 1002]),(1001,.blk 204 [.cl 147 [.loc 1000 0,.p (.ref [(.sl 2 l.n (fun i=>[.int .i64 ((l.g i).x),.int .i64 ((l.g i).y)]))] 0),.p (.ref [(.sl 1 r.n (fun i=>[.int .i64 ((r.g i))]))] 0),.p (.ref [.int .i64 bite] 0),.loc 1001 0]]),(1002,.ms 205 4 (CJ l r bite))]) t.1 t.2.1 t.2.2.1 t.2.2.2.1 t.2.2.2.2,pre:=fun t=>(fun l r bite a b=>Hd l r bite/\a<b/\b<r.n) t.1 t.2.1 t.2.2.1 t.2.2.2.1 t.2.2.2.2,post:=fun t u=>(fun l r bite a b=>fun uu=>True) t.1 t.2.1 t.2.2.1 t.2.2.2.1 t.2.2.2.2 u,lent':=fun t u=>(fun l r bite a b=>fun uu=>[(1000,.blk 203 [.mapv 1002]),(1001,.blk 204 [.cl 147 [.loc 1000 0,.p (.ref [(.sl 2 l.n (fun i=>[.int .i64 ((l.g i).x),.int .i64 ((l.g i).y)]))] 0),.p (.ref [(.sl 1 r.n (fun i=>[.int .i64 ((r.g i))]))] 0),.p (.ref [.int .i64 bite] 0),.loc 1001 0]]),(1002,.ms 205 4 (CJ l r bite))]) t.1 t.2.1 t.2.2.1 t.2.2.2.1 t.2.2.2.2 u,own:=fun t u=>(fun l r bite a b=>fun uu=>[]) t.1 t.2.1 t.2.2.1 t.2.2.2.1 t.2.2.2.2 u,res:=fun t u=>(fun l r bite a b=>fun uu=>.p (.tup [.sl 3 (BA (BP l r bite a b)).n (fun i=>[.int .i64 (((BA (BP l r bite a b)).g i).a),.int .i64 (((BA (BP l r bite a b)).g i).b),.int .i64 (((BA (BP l r bite a b)).g i).c)]),.bool (C1 (BP l r bite a b))])) t.1 t.2.1 t.2.2.1 t.2.2.2.1 t.2.2.2.2 u }
abbrev gV:I3.T->Nat:=fun t=>(fun l r bite a b=>b-a) t.1 t.2.1 t.2.2.1 t.2.2.2.1 t.2.2.2.2
theorem Aei (rn:Nat) (l:L.Sq L.Pt) (r:L.Sq Int) (bite:Int) (a:Nat) (b:Nat) (hp:I3.pre (l,r,bite,a,b)) (hmu:b-a<rn+1):vc Tryz.prog ({ muts:=[],frz:=B2 [],specs:=AB [(70,fV),(148,gU)],loops:=AV [(6,{ T:=Nat,keep:=[0,1,2,3,4,5,6],keepO:=[1000,1001,1002],chg:=fun i=>[(11,.p (.int .i64 ((a+1+i:Nat):Int)))],own:=fun _=>[],inv:=fun i=>i<=b-a-1/\∀j,j<i->DP l r bite a b (a+1+j)=none,mu:=fun i=>b-a-i })],iters:=Bw [],rfs:=AT [],nils:=B3 [],mks:=El [(147,Mk.lt I3 gV rn)],ren:=fun k=>k }) (Ah Tryz.f147) (D7 Tryz.f147 (I3.args (l,r,bite,a,b)) (I3.lent (l,r,bite,a,b))) (Fx Tryz.prog Tryz.f147 I3 (l,r,bite,a,b)):=
 @Eq.mpr _ (let I:=SV.int .i64;let T:=Af1;let A87:=(3:Nat);let A78:=(1001:Nat);let A77:=(1000:Nat);let A73:=(2:Nat);let A69:=(nat_lit 2);let A62:=(nat_lit 1001);let A61:=(nat_lit 1000);let A60:=(↑l.n:Int);let A57:=(10000:Nat);let A52:=(nat_lit 1);let A49:=(147:Nat);let A44:=(↑r.n:Int);let A43:=(1:Int);let A39:=(0:Int);let A25:=(0:Nat);let A24:=(nat_lit 147);let A23:=(1:Nat);let A18:=(∀(a b:Int),CJ l r bite a b->CJ l r bite a b);let A15:=(BP l r bite a b);let A40:=(BA A15);let A14:=(↑b:Int);let A68:=(A39<=r.g (T A14)/\r.g (T A14)<A60);let A56:=(A39<=A14/\A14<A44);let A34:=(r.g (T A14));let A71:=(l.g (T A34));let A13:=(↑a:Int);let A67:=(A39<=r.g (T A13)/\r.g (T A13)<A60);let A55:=(A39<=A13/\A13<A44);let A33:=(r.g (T A13));let A70:=(l.g (T A33));let A28:=(∃(g:Nat),A13+A43=(↑(a+A23+g):Int)/\g<=b-a-A23/\∀(j:Nat),j<g->DP l r bite a b (a+A23+j)=Af5);let A8:=[SV.sl A52 r.n fun(i:Nat)=>[I (r.g i)]];let A7:=(nat_lit 0);let A6:=[SV.sl A69 l.n fun(i:Nat)=>[I (l.g i).x,I (l.g i).y]];let A1:=[EV.loc A61 A7,EV.p (SV.ref A6 A7),EV.p (SV.ref A8 A7),EV.p (SV.ref [I bite] A7),EV.loc A62 A7];Ad .i64 (A13+A43)/\(decide (A14=A13+A43)=true->∃(u:Nat),A40.n=A25/\true=C1 A15/\EV.cl A24 A1=EV.cl A49 A1/\A18/\True)/\(decide (A14=A13+A43)=false->(CJ l r bite A13 A14->(true=true->∃(u:Nat),A40.n=A25/\false=C1 A15/\EV.cl A24 A1=EV.cl A49 A1/\A18/\True)/\(true=false->Ad .i64 (A13+A43)/\A28/\∀(g:Nat),let A9:=(↑(a+A23+g):Int);let A82:=(A39<=A9/\A9<A44);let A59:=(r.g (T A9));let A86:=[I A33,I A59,I A34];let A54:=(!LQ A70 (l.g (T A59)) A71 bite);let A17:=(L.Sq.mk A52 fun(i:Nat)=>CO.mk A33 A59 A34);(g<=b-a-A23/\∀(j:Nat),j<g->DP l r bite a b (a+A23+j)=Af5)->(decide (A9<A14)=true->A55/\A67/\A82/\(A39<=r.g (T A9)/\r.g (T A9)<A60)/\A56/\A68/\(Hc A70/\Hc (l.g (T A59))/\Hc A71/\A39<=bite/\bite<=(4096:Int))/\(A54=true->Ad .i64 (A9+A43)/\∃(g':Nat),A9+A43=(↑(a+A23+g'):Int)/\A13=A13/\A14=A14/\nat_lit 0=nat_lit 0/\SV.ref A6 A7=SV.ref A6 A7/\SV.ref A8 A7=SV.ref A8 A7/\SV.ref [I bite] A7=SV.ref [I bite] A7/\nat_lit 0=nat_lit 0/\EV.cl A24 A1=EV.cl A24 A1/\A18/\(g'<=b-a-A23/\∀(j:Nat),j<g'->DP l r bite a b (a+A23+j)=Af5)/\b-a-g'<b-a-g)/\(A54=false->∃(t:L.Sq L.Pt×L.Sq Int×Int×Nat×Nat),let A72:=[I t.snd.2.1];let A85:=(SV.ref A72 A7);let A41:=(BP t.1 t.2.1 t.snd.2.1 t.snd.snd.2.1 t.snd.snd.2.2);let A37:=[SV.sl A52 t.2.1.n fun(i:Nat)=>[I (t.2.1.g i)]];let A84:=(SV.ref A37 A7);let A26:=[SV.sl A69 t.1.n fun(i:Nat)=>[I (t.1.g i).x,I (t.1.g i).y]];let A83:=(SV.ref A26 A7);let A21:=[EV.loc A77 A7,EV.p A83,EV.p A84,EV.p A85,EV.loc A78 A7];let A4:=(BA A41);let A29:=(L.Sq.mk A4.n fun(i:Nat)=>A4.g i);A13=(↑t.snd.snd.2.1:Int)/\A9=(↑t.snd.snd.2.2:Int)/\nat_lit 0=A25/\SV.ref A6 A7=SV.ref [SV.sl A73 t.1.n fun(i:Nat)=>[I (t.1.g i).x,I (t.1.g i).y]] A25/\SV.ref A8 A7=SV.ref [SV.sl A23 t.2.1.n fun(i:Nat)=>[I (t.2.1.g i)]] A25/\SV.ref [I bite] A7=SV.ref A72 A25/\nat_lit 0=A25/\EV.cl A24 A1=EV.cl A49 [EV.loc A61 A7,EV.p A83,EV.p A84,EV.p A85,EV.loc A62 A7]/\(∀(a b:Int),CJ l r bite a b->CJ t.1 t.2.1 t.snd.2.1 a b)/\((Hd t.1 t.2.1 t.snd.2.1/\t.snd.snd.2.1<t.snd.snd.2.2/\t.snd.snd.2.2<t.2.1.n)/\t.snd.snd.2.2-t.snd.snd.2.1<rn)/\∀(u:Nat),True->((!C1 A41)=true->Ad .i64 (A9+A43)/\∃(g':Nat),A9+A43=(↑(a+A23+g'):Int)/\A13=A13/\A14=A14/\nat_lit 0=nat_lit 0/\SV.ref A6 A7=SV.ref A6 A7/\SV.ref A8 A7=SV.ref A8 A7/\SV.ref [I bite] A7=SV.ref [I bite] A7/\nat_lit 0=nat_lit 0/\EV.cl A24 A21=EV.cl A24 A1/\(∀(a b:Int),CJ t.1 t.2.1 t.snd.2.1 a b->CJ l r bite a b)/\(g'<=b-a-A23/\∀(j:Nat),j<g'->DP l r bite a b (a+A23+j)=Af5)/\b-a-g'<b-a-g)/\((!C1 A41)=false->∃(t_1:L.Sq L.Pt×L.Sq Int×Int×Nat×Nat),let A74:=(SV.ref [I t_1.snd.2.1] A7);let A50:=(∀(a b:Int),CJ t_1.1 t_1.2.1 t_1.snd.2.1 a b->CJ l r bite a b);let A47:=(SV.ref [SV.sl A52 t_1.2.1.n fun(i:Nat)=>[I (t_1.2.1.g i)]] A7);let A45:=(SV.ref [SV.sl A69 t_1.1.n fun(i:Nat)=>[I (t_1.1.g i).x,I (t_1.1.g i).y]] A7);let A35:=(BP t_1.1 t_1.2.1 t_1.snd.2.1 t_1.snd.snd.2.1 t_1.snd.snd.2.2);let A19:=[EV.loc A77 A7,EV.p A45,EV.p A47,EV.p A74,EV.loc A78 A7];let A2:=(BA A35);let A30:=(L.Sq.mk A2.n fun(i:Nat)=>A2.g i);let A79:=(Dm A17 A29 A30 A25);A9=(↑t_1.snd.snd.2.1:Int)/\A14=(↑t_1.snd.snd.2.2:Int)/\nat_lit 0=A25/\SV.ref A26 A7=SV.ref [SV.sl A73 t_1.1.n fun(i:Nat)=>[I (t_1.1.g i).x,I (t_1.1.g i).y]] A25/\SV.ref A37 A7=SV.ref [SV.sl A23 t_1.2.1.n fun(i:Nat)=>[I (t_1.2.1.g i)]] A25/\SV.ref A72 A7=SV.ref [I t_1.snd.2.1] A25/\nat_lit 0=A25/\EV.cl A24 A21=EV.cl A49 [EV.loc A61 A7,EV.p A45,EV.p A47,EV.p A74,EV.loc A62 A7]/\(∀(a b:Int),CJ t.1 t.2.1 t.snd.2.1 a b->CJ t_1.1 t_1.2.1 t_1.snd.2.1 a b)/\((Hd t_1.1 t_1.2.1 t_1.snd.2.1/\t_1.snd.snd.2.1<t_1.snd.snd.2.2/\t_1.snd.snd.2.2<t_1.2.1.n)/\t_1.snd.snd.2.2-t_1.snd.snd.2.1<rn)/\∀(u:Nat),True->(C1 A35=true->A55/\A82/\A56/\(((∀(i:Nat),i<nat_lit 1->A86=A86)/\(∀(i:Nat),let A63:=[I (A4.g i).a,I (A4.g i).b,I (A4.g i).c];i<A4.n->A63=A63)/\∀(i:Nat),let A64:=[I (A2.g i).a,I (A2.g i).b,I (A2.g i).c];i<A2.n->A64=A64)/\(A23<=A79.n/\A79.n<=A57)/\(Dm A17 A29 A30 A23).n<=A57/\(Dm A17 A29 A30 A73).n<=A57)/\∀(t_2:Nat),True->∃(u:Nat),((BE (Dm A17 A29 A30) A87).n=A40.n/\∀(i:Nat),let A12:=(BE (Dm (L.Sq.mk A52 fun(i:Nat)=>CO.mk A33 A59 A34) (L.Sq.mk A4.n fun(i:Nat)=>A4.g i) (L.Sq.mk A2.n fun(i:Nat)=>A2.g i)) A87);i<A12.n -> [I (A12.g i).a,I (A12.g i).b,I (A12.g i).c]= [I (A40.g i).a,I (A40.g i).b,I (A40.g i).c])/\true=C1 A15/\EV.cl A24 A19=EV.cl A49 A1/\A50/\True)/\(C1 A35=false->Ad .i64 (A9+A43)/\∃(g':Nat),A9+A43=(↑(a+A23+g'):Int)/\A13=A13/\A14=A14/\nat_lit 0=nat_lit 0/\SV.ref A6 A7=SV.ref A6 A7/\SV.ref A8 A7=SV.ref A8 A7/\SV.ref [I bite] A7=SV.ref [I bite] A7/\nat_lit 0=nat_lit 0/\EV.cl A24 A19=EV.cl A24 A1/\A50/\(g'<=b-a-A23/\∀(j:Nat),j<g'->DP l r bite a b (a+A23+j)=Af5)/\b-a-g'<b-a-g))))/\(decide (A9<A14)=false->true=true/\CJ l r bite A13 A14/\∃(u:Nat),A40.n=A25/\false=C1 A15/\EV.cl A24 A1=EV.cl A49 A1/\A18/\True)))/\(false=true->∃(u:Nat),A40.n=A25/\false=C1 A15/\EV.cl A24 A1=EV.cl A49 A1/\A18/\True)/\(false=false->Ad .i64 (A13+A43)/\A28/\∀(g:Nat),let A10:=(↑(a+A23+g):Int);let A80:=(A39<=A10/\A10<A44);let A58:=(r.g (T A10));let A91:=[I A33,I A58,I A34];let A53:=(!LQ A70 (l.g (T A58)) A71 bite);let A16:=(L.Sq.mk A52 fun(i:Nat)=>CO.mk A33 A58 A34);(g<=b-a-A23/\∀(j:Nat),j<g->DP l r bite a b (a+A23+j)=Af5)->(decide (A10<A14)=true->A55/\A67/\A80/\(A39<=r.g (T A10)/\r.g (T A10)<A60)/\A56/\A68/\(Hc A70/\Hc (l.g (T A58))/\Hc A71/\A39<=bite/\bite<=(4096:Int))/\(A53=true->Ad .i64 (A10+A43)/\∃(g':Nat),A10+A43=(↑(a+A23+g'):Int)/\A13=A13/\A14=A14/\nat_lit 0=nat_lit 0/\SV.ref A6 A7=SV.ref A6 A7/\SV.ref A8 A7=SV.ref A8 A7/\SV.ref [I bite] A7=SV.ref [I bite] A7/\nat_lit 0=nat_lit 0/\EV.cl A24 A1=EV.cl A24 A1/\A18/\(g'<=b-a-A23/\∀(j:Nat),j<g'->DP l r bite a b (a+A23+j)=Af5)/\b-a-g'<b-a-g)/\(A53=false->∃(t:L.Sq L.Pt×L.Sq Int×Int×Nat×Nat),let A75:=[I t.snd.2.1];let A90:=(SV.ref A75 A7);let A42:=(BP t.1 t.2.1 t.snd.2.1 t.snd.snd.2.1 t.snd.snd.2.2);let A38:=[SV.sl A52 t.2.1.n fun(i:Nat)=>[I (t.2.1.g i)]];let A89:=(SV.ref A38 A7);let A27:=[SV.sl A69 t.1.n fun(i:Nat)=>[I (t.1.g i).x,I (t.1.g i).y]];let A88:=(SV.ref A27 A7);let A22:=[EV.loc A77 A7,EV.p A88,EV.p A89,EV.p A90,EV.loc A78 A7];let A5:=(BA A42);let A31:=(L.Sq.mk A5.n fun(i:Nat)=>A5.g i);A13=(↑t.snd.snd.2.1:Int)/\A10=(↑t.snd.snd.2.2:Int)/\nat_lit 0=A25/\SV.ref A6 A7=SV.ref [SV.sl A73 t.1.n fun(i:Nat)=>[I (t.1.g i).x,I (t.1.g i).y]] A25/\SV.ref A8 A7=SV.ref [SV.sl A23 t.2.1.n fun(i:Nat)=>[I (t.2.1.g i)]] A25/\SV.ref [I bite] A7=SV.ref A75 A25/\nat_lit 0=A25/\EV.cl A24 A1=EV.cl A49 [EV.loc A61 A7,EV.p A88,EV.p A89,EV.p A90,EV.loc A62 A7]/\(∀(a b:Int),CJ l r bite a b->CJ t.1 t.2.1 t.snd.2.1 a b)/\((Hd t.1 t.2.1 t.snd.2.1/\t.snd.snd.2.1<t.snd.snd.2.2/\t.snd.snd.2.2<t.2.1.n)/\t.snd.snd.2.2-t.snd.snd.2.1<rn)/\∀(u:Nat),True->((!C1 A42)=true->Ad .i64 (A10+A43)/\∃(g':Nat),A10+A43=(↑(a+A23+g'):Int)/\A13=A13/\A14=A14/\nat_lit 0=nat_lit 0/\SV.ref A6 A7=SV.ref A6 A7/\SV.ref A8 A7=SV.ref A8 A7/\SV.ref [I bite] A7=SV.ref [I bite] A7/\nat_lit 0=nat_lit 0/\EV.cl A24 A22=EV.cl A24 A1/\(∀(a b:Int),CJ t.1 t.2.1 t.snd.2.1 a b->CJ l r bite a b)/\(g'<=b-a-A23/\∀(j:Nat),j<g'->DP l r bite a b (a+A23+j)=Af5)/\b-a-g'<b-a-g)/\((!C1 A42)=false->∃(t_1:L.Sq L.Pt×L.Sq Int×Int×Nat×Nat),let A76:=(SV.ref [I t_1.snd.2.1] A7);let A51:=(∀(a b:Int),CJ t_1.1 t_1.2.1 t_1.snd.2.1 a b->CJ l r bite a b);let A48:=(SV.ref [SV.sl A52 t_1.2.1.n fun(i:Nat)=>[I (t_1.2.1.g i)]] A7);let A46:=(SV.ref [SV.sl A69 t_1.1.n fun(i:Nat)=>[I (t_1.1.g i).x,I (t_1.1.g i).y]] A7);let A36:=(BP t_1.1 t_1.2.1 t_1.snd.2.1 t_1.snd.snd.2.1 t_1.snd.snd.2.2);let A20:=[EV.loc A77 A7,EV.p A46,EV.p A48,EV.p A76,EV.loc A78 A7];let A3:=(BA A36);let A32:=(L.Sq.mk A3.n fun(i:Nat)=>A3.g i);let A81:=(Dm A16 A31 A32 A25);A10=(↑t_1.snd.snd.2.1:Int)/\A14=(↑t_1.snd.snd.2.2:Int)/\nat_lit 0=A25/\SV.ref A27 A7=SV.ref [SV.sl A73 t_1.1.n fun(i:Nat)=>[I (t_1.1.g i).x,I (t_1.1.g i).y]] A25/\SV.ref A38 A7=SV.ref [SV.sl A23 t_1.2.1.n fun(i:Nat)=>[I (t_1.2.1.g i)]] A25/\SV.ref A75 A7=SV.ref [I t_1.snd.2.1] A25/\nat_lit 0=A25/\EV.cl A24 A22=EV.cl A49 [EV.loc A61 A7,EV.p A46,EV.p A48,EV.p A76,EV.loc A62 A7]/\(∀(a b:Int),CJ t.1 t.2.1 t.snd.2.1 a b->CJ t_1.1 t_1.2.1 t_1.snd.2.1 a b)/\((Hd t_1.1 t_1.2.1 t_1.snd.2.1/\t_1.snd.snd.2.1<t_1.snd.snd.2.2/\t_1.snd.snd.2.2<t_1.2.1.n)/\t_1.snd.snd.2.2-t_1.snd.snd.2.1<rn)/\∀(u:Nat),True->(C1 A36=true->A55/\A80/\A56/\(((∀(i:Nat),i<nat_lit 1->A91=A91)/\(∀(i:Nat),let A65:=[I (A5.g i).a,I (A5.g i).b,I (A5.g i).c];i<A5.n->A65=A65)/\∀(i:Nat),let A66:=[I (A3.g i).a,I (A3.g i).b,I (A3.g i).c];i<A3.n->A66=A66)/\(A23<=A81.n/\A81.n<=A57)/\(Dm A16 A31 A32 A23).n<=A57/\(Dm A16 A31 A32 A73).n<=A57)/\∀(t_2:Nat),True->∃(u:Nat),((BE (Dm A16 A31 A32) A87).n=A40.n/\∀(i:Nat),let A11:=(BE (Dm (L.Sq.mk A52 fun(i:Nat)=>CO.mk A33 A58 A34) (L.Sq.mk A5.n fun(i:Nat)=>A5.g i) (L.Sq.mk A3.n fun(i:Nat)=>A3.g i)) A87);i<A11.n -> [I (A11.g i).a,I (A11.g i).b,I (A11.g i).c]= [I (A40.g i).a,I (A40.g i).b,I (A40.g i).c])/\true=C1 A15/\EV.cl A24 A20=EV.cl A49 A1/\A51/\True)/\(C1 A36=false->Ad .i64 (A10+A43)/\∃(g':Nat),A10+A43=(↑(a+A23+g'):Int)/\A13=A13/\A14=A14/\nat_lit 0=nat_lit 0/\SV.ref A6 A7=SV.ref A6 A7/\SV.ref A8 A7=SV.ref A8 A7/\SV.ref [I bite] A7=SV.ref [I bite] A7/\nat_lit 0=nat_lit 0/\EV.cl A24 A20=EV.cl A24 A1/\A51/\(g'<=b-a-A23/\∀(j:Nat),j<g'->DP l r bite a b (a+A23+j)=Af5)/\b-a-g'<b-a-g))))/\(decide (A10<A14)=false->true=true/\CJ l r bite A13 A14/\∃(u:Nat),A40.n=A25/\false=C1 A15/\EV.cl A24 A1=EV.cl A49 A1/\A18/\True)))) (by kernel_rfl) (by
 conv=>zeta
 have hp:Hd l r bite/\a<b/\b<r.n:=hp;have hmu:b-a<rn+1:=hmu;obtain⟨hok,hab,hbr⟩:=hp;obtain⟨⟨hln,hrn,q0,q1⟩,hri,hli⟩:=id hok;have ea:((a:Int)).toNat=a:=Afy a;have eb:((b:Int)).toNat=b:=Afy b;have no:∀x y,CJ l r bite x y->CJ l r bite x y:=fun _ _ h=>h;refine⟨jK,fun h1=>?_,fun h1=>⟨fun hn=>⟨fun _=>?_,fun h=>(by cases h)⟩,(fun h=>by cases h),fun _=>⟨jK,⟨(0:Nat),by omega,Afg _,fun j hj=>absurd hj (Rc _)⟩,fun g hg=>⟨fun hc=>?_,fun hc=>?_⟩⟩⟩⟩
 ·have h1:(b:Int)=(a:Int)+1:=of_decide_eq_true h1;rw[AdI l r bite (show b=a+1 by omega) hbr];exact⟨(0:Nat),rfl,rfl,rfl,no,trivial⟩
 ·have e : BP l r bite a b = none :=by
   have:=hn;unfold CJ at this;rwa[ea,eb]at this
  rw[e];exact⟨(0:Nat),rfl,rfl,rfl,no,trivial⟩
 ·have h1:¬ (b:Int)=(a:Int)+1:=of_decide_eq_false h1;have hc:((a+1+g:Nat):Int)<(b:Int):=of_decide_eq_true hc;have hm:a+1+g<b:=by omega
  obtain⟨hg1,hg2⟩:=hg;have em:(((a+1+g:Nat):Int)).toNat=a+1+g:=Afy _;rw[ea,eb,em];have ra:=hri a (by omega);have rm:=hri (a+1+g) (by omega);have rb:=hri b hbr;have cst:((a+1+g:Nat):Int)+1=((a+1+(g+1):Nat):Int):=by omega
  have w1:Ad .i64 (((a+1+g:Nat):Int)+1):=jK;have w2:g+1<=b-a-1:=by omega
  have w3:b-a-(g+1)<b-a-g:=by omega
  have nx:DP l r bite a b (a+1+g)=none->∀j,j<g+1->DP l r bite a b (a+1+j)=none:=fun h j hj=>by
   rcases Aft.1 hj with h'|rfl
   ·exact hg2 j h'
   ·exact h
  have i1:0<=(a:Int)/\(a:Int)<(r.n:Int):=by omega
  have i2:0<=((a+1+g:Nat):Int)/\((a+1+g:Nat):Int)<(r.n:Int):=by omega
  have i3:0<=(b:Int)/\(b:Int)<(r.n:Int):=by omega
  refine⟨i1,ra,i2,rm,i3,rb,⟨hli _ (by omega),hli _ (by omega),hli _ (by omega),q0,q1⟩,fun hl=>?_,fun hl=>?_⟩
  ·have hl:NS l r bite a (a+1+g) b=false:=Cx hl;have dn:DP l r bite a b (a+1+g)=none:=by unfold DP G5;rw[hl];rfl
   exact⟨w1,g+1,cst,rfl,rfl,rfl,rfl,rfl,rfl,rfl,rfl,no,⟨w2,nx dn⟩,w3⟩
  have hl:NS l r bite a (a+1+g) b=true:=Ca hl;have m1:a<a+1+g:=by omega
  have m2:a+1+g<r.n:=by omega
  have m3:a+1+g-a<rn:=by omega
  have m4:b-(a+1+g)<rn:=by omega
  refine⟨(l,r,bite,a,a+1+g),rfl,rfl,rfl,rfl,rfl,rfl,rfl,rfl,no,⟨⟨hok,m1,m2⟩,m3⟩,fun u _=>⟨fun h2=>?_,fun h2=>?_⟩⟩
  ·have h2:C1 (BP l r bite a (a+1+g))=false:=Cx h2;have dn:DP l r bite a b (a+1+g)=none:=by
    unfold DP G5;rw[hl];cases hx:BP l r bite a (a+1+g)with
    |none=>rfl
    |some x=>rw[hx]at h2;cases h2
   exact⟨w1,g+1,cst,rfl,rfl,rfl,rfl,rfl,rfl,rfl,rfl,no,⟨w2,nx dn⟩,w3⟩
  have h2:C1 (BP l r bite a (a+1+g))=true:=Ca h2;refine⟨(l,r,bite,a+1+g,b),rfl,rfl,rfl,rfl,rfl,rfl,rfl,rfl,no,⟨⟨hok,hm,hbr⟩,m4⟩,fun u2 _=>⟨fun h3=>?_,fun h3=>?_⟩⟩
  ·have h3:C1 (BP l r bite (a+1+g) b)=true:=h3;have o1:=fR (l:=l) (r:=r) (bite:=bite) m1;have o2:=fR (l:=l) (r:=r) (bite:=bite) hm;have o3:(BA (BP l r bite a (a+1+g))).n<=10000:=by omega
   have o4:(BA (BP l r bite (a+1+g) b)).n<=10000:=by omega
   have key:((BE (Dm ⟨1,fun _=>⟨r.g a,r.g (a+1+g),r.g b⟩⟩ (BA (BP l r bite a (a+1+g))) (BA (BP l r bite (a+1+g) b))) 3).n=(BA (BP l r bite a b)).n/\∀i,i<(BE (Dm ⟨1,fun _=>⟨r.g a,r.g (a+1+g),r.g b⟩⟩ (BA (BP l r bite a (a+1+g))) (BA (BP l r bite (a+1+g) b))) 3).n->(BE (Dm ⟨1,fun _=>⟨r.g a,r.g (a+1+g),r.g b⟩⟩ (BA (BP l r bite a (a+1+g))) (BA (BP l r bite (a+1+g) b))) 3).g i=(BA (BP l r bite a b)).g i)/\C1 (BP l r bite a b)=true:=by
    cases hx:BP l r bite a (a+1+g)with
    |none=>rw[hx]at h2;cases h2
    |some x =>
      cases hy:BP l r bite (a+1+g) b with
      |none=>rw[hy]at h3;cases h3
      |some y =>
        have e:BP l r bite a b=some (⟨r.g a,r.g (a+1+g),r.g b⟩::(x++y)):=by
         rw[fQ l r bite hab (by omega) hbr];refine fP (k:=g) ?_ hg2 (by omega);unfold DP G5;rw[hl,hx,hy];rfl
        rw[e];exact⟨AdJ _ x y,rfl⟩
   exact⟨i1,i2,i3,⟨⟨fun _ _=>rfl,fun _ _=>rfl,fun _ _=>rfl⟩,⟨⟨by show 1<=1;omega,by show 1<=10000;omega⟩,o3,o4⟩⟩,fun _ _=>⟨(0:Nat),⟨key.1.1,fun i hi=>congrArg AdK (key.1.2 i hi)⟩,key.2.symm,rfl,no,trivial⟩⟩
  ·have h3:C1 (BP l r bite (a+1+g) b)=false:=h3;have dn:DP l r bite a b (a+1+g)=none:=by
    unfold DP G5;rw[hl];cases hx:BP l r bite a (a+1+g)with
    |none=>rfl
    |some x =>
      cases hy:BP l r bite (a+1+g) b with
      |none=>rfl
      |some y=>rw[hy]at h3;cases h3
   exact⟨w1,g+1,cst,rfl,rfl,rfl,rfl,rfl,rfl,rfl,rfl,no,⟨w2,nx dn⟩,w3⟩
 ·have h1:¬ (b:Int)=(a:Int)+1:=of_decide_eq_false h1;have hc:¬ ((a+1+g:Nat):Int)<(b:Int):=of_decide_eq_false hc;obtain⟨hg1,hg2⟩:=hg;obtain rfl:g=b-a-1:=by omega
  have e:BP l r bite a b=none:=by
   rw[fQ l r bite hab (by omega) hbr];exact Re hg2
  have e2:CJ l r bite a b:=by unfold CJ;rw[ea,eb];exact e
  rw[e];exact⟨rfl,e2,(0:Nat),rfl,rfl,rfl,no,trivial⟩)
theorem gW:Ao Tryz.prog 147:=fun args w=>by kernel_rfl
theorem Aej:Dq Tryz.prog 147 I3:=Lu gV ⟨fun t=>rfl,fun t u=>rfl,fun t u=>rfl,fun t u=>⟨rfl,rfl,rfl⟩,.inl rfl,fun k h=>(by cases h)⟩ (fun rn ih=>FE (n:=7) Tryz.func147 (c:=Ah Tryz.f147) (by kernel_rfl) mixed ⟨fun t=>rfl,fun t=>rfl,fun t u=>rfl,fun t u=>rfl,fun t u=>rfl,fun t u=>⟨rfl,rfl⟩,by kernel_rfl,by kernel_rfl⟩ (fun⟨l,r,bite,a,b⟩ hp=>⟨_,Aei rn l r bite a b hp.1 hp.2,⟨show Aa Tryz.prog _ from(Aa.cons AdN AdO (Aa.cons Aeg Aeh Aa.nil)),rfl,⟨show Ag Tryz.prog _ from Ag.nil,⟨Aw.no1 (fun _=>rfl),⟨show Bm Tryz.prog _ from(Bm.cons ih gW Bm.nil),FamsOk.none (fun _=>rfl)⟩⟩⟩⟩⟩))
abbrev K1:Mk:={ T:=(L.Sq L.Pt)×(L.Sq Int)×(Int),U:=Nat,args:=fun t=>(fun l r bite=>[.p ((.sl 2 l.n (fun i=>[.int .i64 ((l.g i).x),.int .i64 ((l.g i).y)]))),.p ((.sl 1 r.n (fun i=>[.int .i64 ((r.g i))]))),.p (.int .i64 bite)]) t.1 t.2.1 t.2.2,lkeys:=[],keys:=[],lent:=fun t=>(fun l r bite=>[]) t.1 t.2.1 t.2.2,pre:=fun t=>(fun l r bite=>Hd l r bite/\2<=r.n) t.1 t.2.1 t.2.2,post:=fun t u=>(fun l r bite=>fun uu=>True) t.1 t.2.1 t.2.2 u,lent':=fun t u=>(fun l r bite=>fun uu=>[]) t.1 t.2.1 t.2.2 u,own:=fun t u=>(fun l r bite=>fun uu=>[]) t.1 t.2.1 t.2.2 u,res:=fun t u=>(fun l r bite=>fun uu=>.p (.tup [.sl 3 (BA (Hz l r bite)).n (fun i=>[.int .i64 (((BA (Hz l r bite)).g i).a),.int .i64 (((BA (Hz l r bite)).g i).b),.int .i64 (((BA (Hz l r bite)).g i).c)]),.bool (C1 (Hz l r bite))])) t.1 t.2.1 t.2.2 u }
theorem Aek (l:L.Sq L.Pt) (r:L.Sq Int) (bite:Int) (hp:K1.pre (l,r,bite)):vc Tryz.prog ({ cC with muts:=[8,9],mks:=El [(147,I3)],ren:=fun k=>if k=1000 then 8 else if k=1001 then 9 else if k=1002 then 10 else k,mss:=R4 [(10,CJ l r bite)] }) (Ah Tryz.f114) (D7 Tryz.f114 (K1.args (l,r,bite)) (K1.lent (l,r,bite))) (Fx Tryz.prog Tryz.f114 K1 (l,r,bite)):=
 @Eq.mpr _ (let I:=SV.int .i64;let A7:=(0:Nat);let A5:=[SV.sl (nat_lit 1) r.n fun(i:Nat)=>[I (r.g i)]];let A4:=(BA (Hz l r bite));let A3:=[SV.sl (nat_lit 2) l.n fun(i:Nat)=>[I (l.g i).x,I (l.g i).y]];let A2:=(nat_lit 0);Ad .i64 ((↑r.n:Int)-(1:Int))/\∃(t:L.Sq L.Pt×L.Sq Int×Int×Nat×Nat),let A1:=(BP t.1 t.2.1 t.snd.2.1 t.snd.snd.2.1 t.snd.snd.2.2);let A6:=(BA A1);(0:Int)=(↑t.snd.snd.2.1:Int)/\(↑r.n:Int)-(1:Int)=(↑t.snd.snd.2.2:Int)/\nat_lit 0=A7/\SV.ref A3 A2=SV.ref [SV.sl (2:Nat) t.1.n fun(i:Nat)=>[I (t.1.g i).x,I (t.1.g i).y]] A7/\SV.ref A5 A2=SV.ref [SV.sl (1:Nat) t.2.1.n fun(i:Nat)=>[I (t.2.1.g i)]] A7/\SV.ref [I bite] A2=SV.ref [I t.snd.2.1] A7/\nat_lit 0=A7/\EV.cl (nat_lit 147) [EV.loc (nat_lit 8) A2,EV.p (SV.ref A3 A2),EV.p (SV.ref A5 A2),EV.p (SV.ref [I bite] A2),EV.loc (nat_lit 9) A2]=EV.cl (147:Nat) [EV.loc (8:Nat) A2,EV.p (SV.ref [SV.sl (nat_lit 2) t.1.n fun(i:Nat)=>[I (t.1.g i).x,I (t.1.g i).y]] A2),EV.p (SV.ref [SV.sl (nat_lit 1) t.2.1.n fun(i:Nat)=>[I (t.2.1.g i)]] A2),EV.p (SV.ref [I t.snd.2.1] A2),EV.loc (9:Nat) A2]/\(∀(a b:Int),CJ l r bite a b->CJ t.1 t.2.1 t.snd.2.1 a b)/\(Hd t.1 t.2.1 t.snd.2.1/\t.snd.snd.2.1<t.snd.snd.2.2/\t.snd.snd.2.2<t.2.1.n)/\∀(u:Nat),True->∃(u:Nat),(A6.n=A4.n/\∀(i:Nat),i<A6.n -> [I (A6.g i).a,I (A6.g i).b,I (A6.g i).c]= [I (A4.g i).a,I (A4.g i).b,I (A4.g i).c])/\C1 A1=C1 (Hz l r bite)/\True) (by kernel_rfl) (by
 conv=>zeta
 have hp:Hd l r bite/\2<=r.n:=hp;obtain⟨hok,h2⟩:=hp;obtain⟨⟨hln,hrn,q0,q1⟩,hri,hli⟩:=id hok;exact⟨jK,(l,r,bite,0,r.n-1),rfl,by show(r.n:Int)-1=((r.n-1:Nat):Int);omega,rfl,rfl,rfl,rfl,rfl,rfl,fun _ _ h=>h,⟨hok,by show 0<r.n-1;omega,by show r.n-1<r.n;omega⟩,fun _ _=>⟨(0:Nat),⟨rfl,fun _ _=>rfl⟩,rfl,trivial⟩⟩)
theorem Ael:Ao Tryz.prog 114:=fun args w=>by kernel_rfl
theorem Aem:Dq Tryz.prog 114 K1:=FE (n:=3) Tryz.func114 (c:=Ah Tryz.f114) (by kernel_rfl) mixed ⟨fun t=>rfl,fun t=>rfl,fun t u=>rfl,fun t u=>rfl,fun t u=>rfl,fun t u=>⟨rfl,rfl⟩,by kernel_rfl,by kernel_rfl⟩ (fun⟨l,r,bite⟩ hp=>⟨_,Aek l r bite hp,⟨show Aa Tryz.prog _ from Aa.nil,rfl,⟨show Ag Tryz.prog _ from Ag.nil,⟨Aw.no1 (fun _=>rfl),⟨show Bm Tryz.prog _ from(Bm.cons Aej gW Bm.nil),FamsOk.none (fun _=>rfl)⟩⟩⟩⟩⟩)
def EY (a b:AR):Bool:=decide (a.fr=b.fr)&&(decide (a.to_=b.to_)&&decide (a.area=b.area))
def NT (l:L.Sq AR) (v:AR):Int:=Cw l.n (fun i=>EY v (l.g i))
def K2 (l:L.Sq L.Pt) (p:AR):Bool:=Cl (F0 l) fun i=>EY p ((Fe l).g i)
def HO (l:L.Sq L.Pt) (p:AR) (bite:Int):Int:=bif (bif (bif !decide ((bif AP l then(0:Int)else 1)=0)then true else !Ay bite 0 4096)then true else !K2 l p)then 1 else bif !C1 (EE l p bite)then 51 else 0
def He (l:L.Sq L.Pt) (p:AR) (bite:Int):L.Sq CO:=BA (bif decide (HO l p bite=0)then EE l p bite else none)
def NU (l:L.Sq L.Pt):Prop:=∀i,i<(Fe l).n->Fl l.n ((Fe l).g i)
theorem Aen {a b:AR} (h:EY a b=true):a=b:=by
 unfold EY at h;simp only[nT,decide_eq_true_eq]at h;cases a;cases b;simp only[AR.mk.injEq];exact h
theorem Aeo {α:Type} {n:Nat} {f u:Nat->α} {q:α->Bool} (h:((Afm n).map u).Perm ((Afm n).map f)):Cl n (fun i=>q (u i))=Cl n (fun i=>q (f i)):=by
 rw[Bool.eq_iff_iff,Fc,Fc];have k:∀g:Nat->α,(∃i,i<n/\q (g i)=true)↔∃x,x∈(Afm n).map g/\q x=true:=fun g=>by
  constructor
  ·rintro⟨i,hi,h⟩;exact⟨g i,List.mem_map.2 ⟨i,Afl.2 hi,rfl⟩,h⟩
  ·rintro⟨x,hx,h⟩;obtain⟨i,hi,rfl⟩:=List.mem_map.1 hx;exact⟨i,Afl.1 hi,h⟩
 rw[k,k];exact⟨fun⟨x,hx,h1⟩=>⟨x,h.mem_iff.1 hx,h1⟩,fun⟨x,hx,h1⟩=>⟨x,h.mem_iff.2 hx,h1⟩⟩
theorem Aep {l:L.Sq L.Pt} {p:AR} {bite:Int} (hv:AP l=true) (hk:Fl l.n p) (h0:0<=bite) (h1:bite<=4096):Hd l (LR l p) bite/\2<=(LR l p).n:=by
 obtain⟨n3,n24,_,_⟩:=Gy hv;obtain⟨d1,d2,f0,f1,fr,fe,fs⟩:=Rb hk;refine⟨⟨⟨by omega,by show C0 l.n p+1<=1000;omega,h0,h1⟩,fun i hi=>fr i (by have hi:i<C0 l.n p+1:=hi;omega),fun i hi=>HJ.1 (PP hv i hi)⟩,by show 2<=C0 l.n p+1;omega⟩
theorem Aeq {l:L.Sq L.Pt} (hv:AP l=true):(Fe l).n<=1000:=by
 obtain⟨n3,n24,_,_⟩:=Gy hv;have cl:∀m:L.Sq L.Pt,(B1 m).n<=m.n:=fun m=>by
  have:=L6 m m.n;show(BW m m.n).length-1<=m.n;omega
 have c1:(B1 (B0 l)).n<=l.n:=cl (B0 l);have c2:(B1 (Fz (B0 l))).n<=l.n:=cl (Fz (B0 l));have h1:(Ba l).n<=1000:=by
  show 0+(B1 (B0 l)).n+(B1 (Fz (B0 l))).n<=1000;omega
 have h2:(Fe l).n<=(Ba l).n:=P1;omega
def gX (l:(L.Sq AR)) (v:AR):Prop:=l.n<=1000000
def gY (l:(L.Sq AR)) (v:AR):SV:=.int .i64 (NT l v)
def gZ:List EV->Option (Prop×SV)
 |[.p (.sl 3 l_n l_g),.p (.agg [.int .i64 v_fr,.int .i64 v_to_,.int .i64 v_area])]=>some ((∀i,i<l_n->l_g i = [.int .i64 ((Hu (l_g i)).fr),.int .i64 ((Hu (l_g i)).to_),.int .i64 ((Hu (l_g i)).area)])/\gX (⟨l_n,fun i=>Hu (l_g i)⟩:(L.Sq AR)) (⟨v_fr,v_to_,v_area⟩:AR),gY (⟨l_n,fun i=>Hu (l_g i)⟩:(L.Sq AR)) (⟨v_fr,v_to_,v_area⟩:AR))
 |_=>none
abbrev hJ:SE.Spec:=(AK gZ)
def Aer:Ak:={ muts:=[],frz:=B2 [],specs:=AB [],loops:=fun _=>none,iters:=Bw [],rfs:=AT [],nils:=B3 [] }
theorem Aes (l:(L.Sq AR)) (v:AR) (hp:gX l v):vc Tryz.prog ({ Aer with loops:=AV [(2,{ T:=Nat,keep:=[0,3,6,7],keepO:=[],chg:=fun i=>[(8,.p (.int .i64 i))],own:=fun _=>[],inv:=fun i=>i<=l.n/\(∀j,j<i->EY v (l.g j)=false),mu:=fun i=>l.n-i })],rfs:=AT [] }) (Ah Tryz.f112) (Ap Tryz.f112 [.p (.sl 3 l.n (fun i=>[.int .i64 ((l.g i).fr),.int .i64 ((l.g i).to_),.int .i64 ((l.g i).area)])),.p (.agg [.int .i64 v.fr,.int .i64 v.to_,.int .i64 v.area])]) (AJ Tryz.prog Tryz.f112 (gY l v)):=
 @Eq.mpr _ (let I:=SV.int .i64;let T:=Af1;let A6:=[I v.fr,I v.to_,I v.area];let A5:=(↑l.n:Int);let A2:=(l.n=l.n/\∀(i:Nat),let A4:=[I (l.g i).fr,I (l.g i).to_,I (l.g i).area];i<l.n->A4=A4);(∃(g:Nat),(0:Int)=(↑g:Int)/\g<=l.n/\∀(j:Nat),j<g->EY v (l.g j)=false)/\∀(g:Nat),let A3:=(↑g:Int);let A7:=(l.g (T A3));let A1:=(decide (v.fr=A7.fr)&&(decide (v.to_=A7.to_)&&decide (v.area=A7.area)));(g<=l.n/\∀(j:Nat),j<g->EY v (l.g j)=false)->(decide (A3<A5)=true->((0:Int)<=A3/\A3<A5)/\(A1=true->A3=NT l v)/\(A1=false->Ad .i64 (A3+(1:Int))/\∃(g':Nat),A3+(1:Int)=(↑g':Int)/\A5=A5/\A2/\SV.ref A6 (nat_lit 0)=SV.ref A6 (nat_lit 0)/\A2/\(g'<=l.n/\∀(j:Nat),j<g'->EY v (l.g j)=false)/\l.n-g'<l.n-g))/\(decide (A3<A5)=false->(-1:Int)=NT l v)) (by kernel_rfl) (by
 conv=>zeta
 have hn:l.n<=1000000:=hp;refine⟨⟨(0:Nat),rfl,Afg _,fun j hj=>absurd hj (Rc _)⟩,fun g hg=>⟨fun hlt=>?_,fun hge=>?_⟩⟩
 ·have hb:(g:Int)<(l.n:Int):=of_decide_eq_true hlt;have e0:((g:Int)).toNat=g:=by omega
  rw[e0];refine⟨⟨by omega,hb⟩,fun h=>?_,fun h=>?_⟩
  ·have h:EY v (l.g g)=true:=h;exact(Kb (f:=fun i=>EY v (l.g i)) hg.2 h (by omega)).symm
  ·have h:EY v (l.g g)=false:=h;exact⟨jK,g+1,by omega,rfl,⟨rfl,fun _ _=>rfl⟩,rfl,⟨rfl,fun _ _=>rfl⟩,⟨by omega,fun j hj=>by
    rcases Aft.1 hj with h'|rfl
    ·exact hg.2 j h'
    ·exact h⟩,by omega⟩
 ·have hb:¬ (g:Int)<(l.n:Int):=of_decide_eq_false hge;exact(Jf (f:=fun i=>EY v (l.g i)) (fun j hj=>hg.2 j (by omega))).symm)
theorem Aet:Av Tryz.prog 112 hJ:=AM Tryz.func112 (c:=Ah Tryz.f112) (by kernel_rfl) mixed (fun args p r hs hp=>by
 unfold gZ at hs;split at hs
 ·cases hs;exact⟨_,_,Aes _ _ hp.2,(.p (.sl hp.1) (.same _ .nil)),⟨show Aa Tryz.prog _ from Aa.nil,rfl,⟨show Ag Tryz.prog _ from Ag.nil,(Aw.none (fun _=>rfl))⟩⟩⟩
 ·cases hs)
theorem Aeu:Ao Tryz.prog 112:=fun args w=>by kernel_rfl
def hU (l:(L.Sq AR)) (v:AR):Prop:=l.n<=1000000
def iA (l:(L.Sq AR)) (v:AR):SV:=.bool (Cl l.n fun i=>EY v (l.g i))
def iB:List EV->Option (Prop×SV)
 |[.p (.sl 3 l_n l_g),.p (.agg [.int .i64 v_fr,.int .i64 v_to_,.int .i64 v_area])]=>some ((∀i,i<l_n->l_g i = [.int .i64 ((Hu (l_g i)).fr),.int .i64 ((Hu (l_g i)).to_),.int .i64 ((Hu (l_g i)).area)])/\hU (⟨l_n,fun i=>Hu (l_g i)⟩:(L.Sq AR)) (⟨v_fr,v_to_,v_area⟩:AR),iA (⟨l_n,fun i=>Hu (l_g i)⟩:(L.Sq AR)) (⟨v_fr,v_to_,v_area⟩:AR))
 |_=>none
abbrev iC:SE.Spec:=(AK iB)
def Aev:Ak:={ cC with specs:=AB [(112,hJ)] }
theorem Aew (l:(L.Sq AR)) (v:AR) (hp:hU l v):vc Tryz.prog (Aev) (Ah Tryz.f67) (Ap Tryz.f67 [.p (.sl 3 l.n (fun i=>[.int .i64 ((l.g i).fr),.int .i64 ((l.g i).to_),.int .i64 ((l.g i).area)])),.p (.agg [.int .i64 v.fr,.int .i64 v.to_,.int .i64 v.area])]) (AJ Tryz.prog Tryz.f67 (iA l v)):=
 @Eq.mpr _ (let I:=SV.int .i64;((∀(i:Nat),let A1:=[I (l.g i).fr,I (l.g i).to_,I (l.g i).area];i<l.n->A1=A1)/\l.n<=(1000000:Nat))/\decide ((0:Int)<=NT (L.Sq.mk l.n fun(i:Nat)=>l.g i) v)=Cl l.n fun(i:Nat)=>EY v (l.g i)) (by kernel_rfl) (by
 conv=>zeta
 refine⟨⟨fun _ _=>rfl,hp⟩,L0⟩)
theorem Aex:Av Tryz.prog 67 iC:=AM Tryz.func67 (c:=Ah Tryz.f67) (by kernel_rfl) mixed (fun args p r hs hp=>by
 unfold iB at hs;split at hs
 ·cases hs;exact⟨_,_,Aew _ _ hp.2,(.p (.sl hp.1) (.same _ .nil)),⟨show Aa Tryz.prog _ from(Aa.cons Aet Aeu Aa.nil),rfl,⟨show Ag Tryz.prog _ from Ag.nil,(Aw.none (fun _=>rfl))⟩⟩⟩
 ·cases hs)
theorem Aey:Ao Tryz.prog 67:=fun args w=>by kernel_rfl
def iD (l:(L.Sq L.Pt)) (p:AR) (b:Int):Prop:=AP l=true/\Fl l.n p/\0<=b/\b<=4096
def iE (l:(L.Sq L.Pt)) (p:AR) (b:Int):SV:=.tup [.sl 3 (BA (EE l p b)).n (fun i=>[.int .i64 (((BA (EE l p b)).g i).a),.int .i64 (((BA (EE l p b)).g i).b),.int .i64 (((BA (EE l p b)).g i).c)]),.bool (C1 (EE l p b))]
def iF:List EV->Option (Prop×SV)
 |[.p (.sl 2 l_n l_g),.p (.agg [.int .i64 p_fr,.int .i64 p_to_,.int .i64 p_area]),.p (.int .i64 b)]=>some ((∀i,i<l_n->l_g i = [.int .i64 ((An (l_g i)).x),.int .i64 ((An (l_g i)).y)])/\iD (⟨l_n,fun i=>An (l_g i)⟩:(L.Sq L.Pt)) (⟨p_fr,p_to_,p_area⟩:AR) b,iE (⟨l_n,fun i=>An (l_g i)⟩:(L.Sq L.Pt)) (⟨p_fr,p_to_,p_area⟩:AR) b)
 |_=>none
abbrev iG:SE.Spec:=(AK iF)
def Aez:Ak:={ cC with specs:=AB [(113,gI),(115,Rh)],mks:=El [(114,K1)],ren:=fun k=>k-1000 }
theorem Ae0 (l:(L.Sq L.Pt)) (p:AR) (b:Int) (hp:iD l p b):vc Tryz.prog (Aez) (Ah Tryz.f68) (Ap Tryz.f68 [.p (.sl 2 l.n (fun i=>[.int .i64 ((l.g i).x),.int .i64 ((l.g i).y)])),.p (.agg [.int .i64 p.fr,.int .i64 p.to_,.int .i64 p.area]),.p (.int .i64 b)]) (AJ Tryz.prog Tryz.f68 (iE l p b)):=
  @Eq.mpr _ (let I:=SV.int .i64;let A6:=(EE l p b);let A4:=(↑l.n:Int);let A3:=(L.Sq.mk l.n fun(i:Nat)=>l.g i);let A2:=(BA A6);((∀(i:Nat),let A5:=[I (l.g i).x,I (l.g i).y];i<l.n->A5=A5)/\AP A3=true/\Fl A4 p)/\((!I1 A3 p)=true->A2.n=(0:Nat)/\false=C1 A6)/\((!I1 A3 p)=false->(A4<=(1000:Int)
 /\ Fl A4 p)/\∃(t:L.Sq L.Pt×L.Sq Int×Int),let A7:=(Hz t.1 t.2.1 t.2.2);let A1:=(BA A7);(l.n=t.1.n/\∀(i:Nat),i<l.n -> [I (l.g i).x,I (l.g i).y]= [I (t.1.g i).x,I (t.1.g i).y])/\(C0 A4 p+(1:Nat)=t.2.1.n/\∀(i:Nat),i<C0 A4 p+(1:Nat) -> [I (C4 A4 p i)]= [I (t.2.1.g i)])/\b=t.2.2/\(Hd t.1 t.2.1 t.2.2/\(2:Nat)<=t.2.1.n)/\∀(u
:Nat),True->(A1.n=A2.n/\∀(i:Nat),i<A1.n -> [I (A1.g i).a,I (A1.g i).b,I (A1.g i).c]= [I (A2.g i).a,I (A2.g i).b,I (A2.g i).c])/\C1 A7=C1 A6)) (by kernel_rfl) (by
 conv=>zeta
 obtain⟨hv,hk,h0,h1⟩:=(show AP l=true/\Fl l.n p/\0<=b/\b<=4096 from hp);obtain⟨ok,h2⟩:=Aep hv hk h0 h1;obtain⟨n3,n24,_,_⟩:=Gy hv;refine⟨⟨fun _ _=>rfl,hv,hk⟩,fun h=>?_,fun h=>⟨⟨by omega,hk⟩,(l,LR l p,b),⟨rfl,fun _ _=>rfl⟩,⟨rfl,fun _ _=>rfl⟩,rfl,⟨ok,h2⟩,fun _ _=>?_⟩⟩
 ·have h:(!I1 l p)=true:=h;have e:EE l p b=none:=by unfold EE;rw[h];rfl
  rw[e];exact⟨rfl,rfl⟩
 ·have h:(!I1 l p)=false:=h;have e:EE l p b=Hz l (LR l p) b:=by unfold EE;rw[h];rfl
  rw[e];exact⟨⟨rfl,fun _ _=>rfl⟩,rfl⟩)
theorem Ae1:Av Tryz.prog 68 iG:=AM Tryz.func68 (c:=Ah Tryz.f68) (by kernel_rfl) mixed (fun args p r hs hp=>by
 unfold iF at hs;split at hs
 ·cases hs;exact⟨_,_,Ae0 _ _ _ hp.2,(.p (.sl hp.1) (.same _ (.same _ .nil))),⟨show Aa Tryz.prog _ from(Aa.cons AdY AdZ (Aa.cons fZ gB Aa.nil)),rfl,⟨show Ag Tryz.prog _ from Ag.nil,⟨Aw.no1 (fun _=>rfl),⟨show Bm Tryz.prog _ from(Bm.cons Aem Ael Bm.nil),FamsOk.none (fun _=>rfl)⟩⟩⟩⟩⟩
 ·cases hs)
theorem Ae2:Ao Tryz.prog 68:=fun args w=>by kernel_rfl
def iH (l:(L.Sq L.Pt)) (p:AR) (b:Int):Prop:=l.n<=1000000/\(AP l=true->NU l)
def iI (l:(L.Sq L.Pt)) (p:AR) (b:Int):SV:=.tup [.sl 3 (He l p b).n (fun i=>[.int .i64 (((He l p b).g i).a),.int .i64 (((He l p b).g i).b),.int .i64 (((He l p b).g i).c)]),.int .i64 (HO l p b)]
def iJ:List EV->Option (Prop×SV)
 |[.p (.sl 2 l_n l_g),.p (.agg [.int .i64 p_fr,.int .i64 p_to_,.int .i64 p_area]),.p (.int .i64 b)]=>some ((∀i,i<l_n->l_g i = [.int .i64 ((An (l_g i)).x),.int .i64 ((An (l_g i)).y)])/\iH (⟨l_n,fun i=>An (l_g i)⟩:(L.Sq L.Pt)) (⟨p_fr,p_to_,p_area⟩:AR) b,iI (⟨l_n,fun i=>An (l_g i)⟩:(L.Sq L.Pt)) (⟨p_fr,p_to_,p_area⟩:AR) b)
 |_=>none
abbrev iL:SE.Spec:=(AK iJ)
def Ae3:Ak:={ cC with specs:=AB [(66,Wn),(33,L9),(67,iC),(68,iG)] }
theorem Ae4 (l:(L.Sq L.Pt)) (p:AR) (b:Int) (hp:iH l p b):vc Tryz.prog (Ae3) (Ah Tryz.f27) (Ap Tryz.f27 [.p (.sl 2 l.n (fun i=>[.int .i64 ((l.g i).x),.int .i64 ((l.g i).y)])),.p (.agg [.int .i64 p.fr,.int .i64 p.to_,.int .i64 p.area]),.p (.int .i64 b)]) (AJ Tryz.prog Tryz.f27 (iI l p b)):=
 @Eq.mpr _ (let I:=SV.int .i64;let A11:=(4096:Int);let A7:=(0:Int);let A6:=(He l p b);let A5:=(∀(i:Nat),let A9:=[I (l.g i).x,I (l.g i).y];i<l.n->A9=A9);let A1:=(L.Sq.mk l.n fun(i:Nat)=>l.g i);let A10:=(EE A1 p b);let A4:=(bif AP A1 then A7 else(1:Int));(A5/\l.n<=(1000000:Nat))/\∀(t:Nat->AR),let A2:=(bif bif !decide (A4=A7)then true else !Ay b A7 A11 then true else !Cl (F0 A1) fun(i:Nat)=>EY p (t i));(AP A1=true->Dw Gz (Fe A1).n (Fe A1).g t)->((!!decide (A4=A7))=true->True)/\((!bif !decide (A4=A7)then true else !Ay b A7 A11)=true->(∀(i:Nat),let A8:=[I (t i).fr,I (t i).to_,I (t i).area];i<F0 (L.Sq.mk l.n fun(i:Nat)=>l.g i)->A8=A8)/\F0 A1<=(1000000:Nat))/\(A2=true->A6.n=(0:Nat)/\(1:Int)=HO l p b)/\(A2=false->(A5/\AP A1=true/\Fl (↑l.n:Int) p/\A7<=b/\b<=A11)/\((!C1 A10)=true->A6.n=(0:Nat)/\(51:Int)=HO l p b)/\((!C1 A10)=false->((BA A10).n=A6.n/\∀(i:Nat),let A3:=(BA (EE (L.Sq.mk l.n fun(i:Nat)=>l.g i) p b));i<A3.n -> [I (A3.g i).a,I (A3.g i).b,I (A3.g i).c]= [I (A6.g i).a,I (A6.g i).b,I (A6.g i).c])/\A7=HO l p b))) (by kernel_rfl) (by
 conv=>zeta
 obtain⟨hn,hok⟩:=(show l.n<=1000000/\(AP l=true->NU l)from hp);refine⟨⟨fun _ _=>rfl,hn⟩,fun t ht=>?_⟩;have eN:∀hv:AP l=true,F0 l=(Fe l).n:=fun hv=>by unfold F0;rw[hv];rfl
 have eZ:AP l=false->F0 l=0:=fun hv=>by unfold F0;rw[hv];rfl
 have eH:(Cl (F0 l) fun i=>EY p (t i))=K2 l p:=by
  unfold K2;cases hv:AP l with
  |true=>rw[eN hv];exact Aeo (q:=fun x=>EY p x) (ht hv).perm
  |false=>rw[eZ hv];rfl
 have hl:F0 l<=1000000:=by
  cases hv:AP l with
  |true=>rw[eN hv];have:=Aeq hv;omega
  |false=>rw[eZ hv];exact Afg _
 rw[eH];refine⟨fun _=>trivial,fun h=>⟨fun _ _=>rfl,hl⟩,fun h=>?_,fun h=>?_⟩
 ·have e:HO l p b=1:=by unfold HO;rw[h];rfl
  have e2:He l p b=BA none:=by unfold He;rw[e];rfl
  rw[e,e2];exact⟨rfl,rfl⟩
 ·have hv : AP l = true :=by
   cases hv:AP l with
   |true=>rfl
   |false=>rw[hv]at h;cases h
  have hw:Ay b 0 4096=true:=by
   cases hw:Ay b 0 4096 with
   |true=>rfl
   |false=>rw[hv,hw]at h;cases h
  have hh:K2 l p=true:=by
   cases hh:K2 l p with
   |true=>rfl
   |false=>rw[hv,hw,hh]at h;cases h
  have hb:0<=b/\b<=4096:=by
   unfold Ay at hw;rw[nT,decide_eq_true_eq,decide_eq_true_eq]at hw;exact⟨by omega,by omega⟩
  have hk:Fl l.n p:=by
   have hh:=hh;unfold K2 at hh;rw[Fc,eN hv]at hh;obtain⟨i,hi,h⟩:=hh;rw[Aen h];exact hok hv i hi
  have e0:HO l p b=bif !C1 (EE l p b)then 51 else 0:=by unfold HO;rw[h];rfl
  refine⟨⟨fun _ _=>rfl,hv,hk,hb⟩,fun h2=>?_,fun h2=>?_⟩
  ·have h2:(!C1 (EE l p b))=true:=h2;rw[h2]at e0;have e2:He l p b=BA none:=by unfold He;rw[e0];rfl
   rw[e0,e2];exact⟨rfl,rfl⟩
  ·have h2:(!C1 (EE l p b))=false:=h2;rw[h2]at e0;have e2:He l p b=BA (EE l p b):=by unfold He;rw[e0];rfl
   rw[e0,e2];exact⟨⟨rfl,fun _ _=>rfl⟩,rfl⟩)
theorem Ae5:Av Tryz.prog 27 iL:=AM Tryz.func27 (c:=Ah Tryz.f27) (by kernel_rfl) mixed (fun args p r hs hp=>by
 unfold iJ at hs;split at hs
 ·cases hs;exact⟨_,_,Ae4 _ _ _ hp.2,(.p (.sl hp.1) (.same _ (.same _ .nil))),⟨show Aa Tryz.prog _ from(Aa.cons vC vD (Aa.cons Nv Nw (Aa.cons Aex Aey (Aa.cons Ae1 Ae2 Aa.nil)))),rfl,⟨show Ag Tryz.prog _ from Ag.nil,(Aw.none (fun _=>rfl))⟩⟩⟩
 ·cases hs)
theorem Ae6:Ao Tryz.prog 27:=fun args w=>by kernel_rfl
def Js (l:List Int):Nat:=l.length
def Af (a b:Nat):Bool:=decide (a<b)
def BB (l:List Int):L.Sq Int:=⟨l.length,fun i=>l.getD i 0⟩
structure BU where
 fd:Bool
 ls:Int
 bt:List Int
def Jt (g:Int) (i:Nat):Int:=Gl g (BJ 1 i)
def H0 (w:L.Sq Ab) (s:L.Sq Aj) (G:Nat->Int) (i k:Nat):Bool:=bif !decide ((s.g k).colour=(w.g i).colour)then true else !Cd w (s.g k).grain (Jt (G k) i) ⟨(s.g k).w,(s.g k).h⟩
def D4 (s:L.Sq Aj) (G:Nat->Int) (k:Nat):Int:=bif decide (G k=0)then(s.g k).w*(s.g k).h else 0
def EF (G:Nat->Int) (k i:Nat):Nat->Int:=fun j=>if j=k then Jt (G k) i else G j
def Eh (l:List Int) (k:Int):List Int:=l ++ [k]
def Fm (w:L.Sq Ab) (s:L.Sq Aj):Nat->Nat->List Int->Int->(Nat->Int)->BU->BU
 |0,_,_,_,_,st=>st
 |f+1,i,A,sum,G,st=>if (st.fd&&decide (st.ls<=sum))=true then st else if i=w.n then⟨true,sum,A⟩else
   (Afm s.n).foldl (fun st k=>bif H0 w s G i k then st else Fm w s f (i+1) (Eh A k) (sum+D4 s G k) (EF G k i) st) st
def DB (w:L.Sq Ab) (s:L.Sq Aj) (i:Nat) (A:List Int) (sum:Int) (G:Nat->Int) (st:BU):BU:=Fm w s (w.n+1-i) i A sum G st
def D5 (w:L.Sq Ab) (s:L.Sq Aj) (i:Nat) (A:List Int) (sum:Int) (G:Nat->Int) (st:BU) (k:Nat):BU:=(Afm k).foldl (fun st k=>bif H0 w s G i k then st else DB w s (i+1) (Eh A k) (sum+D4 s G k) (EF G k i) st) st
theorem iM (w:L.Sq Ab) (s:L.Sq Aj) (i:Nat) (A:List Int) (sum:Int) (G:Nat->Int) (st:BU) (k:Nat):D5 w s i A sum G st (k+1)=bif H0 w s G i k then D5 w s i A sum G st k else DB w s (i+1) (Eh A k) (sum+D4 s G k) (EF G k i) (D5 w s i A sum G st k):=by
 unfold D5;rw[List.range_succ,List.foldl_append];rfl
theorem Ae7 (w:L.Sq Ab) (s:L.Sq Aj) {i:Nat} (A:List Int) {sum:Int} (G:Nat->Int) {st:BU} (hi:i<=w.n) (h:(st.fd&&decide (st.ls<=sum))=true):DB w s i A sum G st=st:=by
 unfold DB;obtain⟨f,e⟩:∃f,w.n+1-i=f+1:=⟨w.n-i,by omega⟩;rw[e,Fm,if_pos h]
theorem Ae8 (w:L.Sq Ab) (s:L.Sq Aj) (A:List Int) {sum:Int} (G:Nat->Int) {st:BU} (h:(st.fd&&decide (st.ls<=sum))=false):DB w s w.n A sum G st=⟨true,sum,A⟩:=by
 unfold DB;rw[show w.n+1-w.n=0+1 by omega,Fm,if_neg (by rw[h];decide),if_pos rfl]
theorem Ae9 (w:L.Sq Ab) (s:L.Sq Aj) {i:Nat} (A:List Int) {sum:Int} (G:Nat->Int) {st:BU} (hi:i<w.n) (h:(st.fd&&decide (st.ls<=sum))=false):DB w s i A sum G st=D5 w s i A sum G st s.n:=by
 unfold DB D5;rw[show w.n+1-i=(w.n-i)+1 by omega,Fm,if_neg (by rw[h];decide),if_neg (by omega)];unfold DB;rw[show w.n+1-(i+1)=w.n-i by omega]
def iN (i g:Nat):Bool:=decide (Jt g i=g+2 ^ i)&&(decide (Dv (g+2 ^ i) (BJ 1 i)=g)&&decide (0<=BJ 1 i)&&decide (BJ 1 i<=16))
theorem AeA:((Afm 4).all fun i=>(Afm (2 ^ i)).all (iN i))=true:=by kernel_rfl
theorem Ri {i:Nat} (hi:i<4) {g:Int} (h0:0<=g) (h1:g<2 ^ i):Jt g i=g+2 ^ i/\Dv (g+2 ^ i) (BJ 1 i)=g/\0<=BJ 1 i/\BJ 1 i<=16:=by
 obtain⟨n,rfl⟩:=Int.eq_ofNat_of_zero_le h0;have hn:n<2 ^ i:=by exact_mod_cast h1
 have:=Afj.1 (Afj.1 AeA i (Afl.2 hi)) n (Afl.2 hn);unfold iN at this;simp only[nT,decide_eq_true_eq]at this;exact⟨this.1,this.2.1.1,this.2.1.2,this.2.2⟩
theorem AeB {s:Aj} (h:BH s=true):1<=s.w/\s.w<=4096/\1<=s.h/\s.h<=4096:=by
 unfold BH at h;cases h1:Ay s.id 1 65535
 ·rw[h1]at h;cases h
 cases h2:Ay s.colour 1 16
 ·rw[h1,h2]at h;cases h
 cases h3:Ay s.w 1 4096
 ·rw[h1,h2,h3]at h;cases h
 cases h4:Ay s.h 1 4096
 ·rw[h1,h2,h3,h4]at h;cases h
 unfold Ay at h3 h4;rw[nT,decide_eq_true_eq,decide_eq_true_eq]at h3 h4;omega
def HP (n i:Nat) (G:Nat->Int):Prop:=∀k,k<n->0<=G k/\G k<2 ^ i
theorem AeC {n i:Nat} (hn:n<=4) (hi:i<n) {g:Int} (h0:0<=g) (h1:g<2 ^ i):0<=Jt g i/\Jt g i<=Az n:=by
 obtain⟨e,_⟩:=Ri (show i<4 by omega) h0 h1;rw[e,Y1 hn];have hp:(2:Int) ^ i+2 ^ i<=2 ^ n:=by
  have:(2:Int) ^ (i+1)<=2 ^ n:=by exact_mod_cast Nat.pow_le_pow_right (show 0<2 by decide) hi
  rw[Int.pow_succ]at this;omega
 have h2:(0:Int)<2 ^ i:=Int.pow_pos (by decide);omega
theorem K3 (w:L.Sq Ab) (s:L.Sq Aj) (i:Nat) (A:List Int) (sum:Int) (G:Nat->Int) (st:BU):D5 w s i A sum G st 0=st:=rfl
theorem AeD {n i k:Nat} {G:Nat->Int} (hi:i<4) (h:HP n i G) (hk:k<n):HP n (i+1) (EF G k i):=fun j hj=>by
 have h2:(0:Int)<2 ^ i:=Int.pow_pos (by decide);have hp:(2:Int) ^ (i+1)=2 ^ i+2 ^ i:=by rw[Int.pow_succ];omega
 unfold EF
 by_cases e:j=k
 ·rw[if_pos e,(Ri hi (h k hk).1 (h k hk).2).1];have:=h k hk;omega
 ·rw[if_neg e];have:=h j hj;omega
def BQ (A:List Int) (X:Nat->Int) (j:Nat):Int:=if j<A.length then A.getD j 0 else X j
section
attribute [local irreducible] D5 DB Fm Cd Ae AW Az Al Dv Gl BJ
def iO (l:(L.Sq Int)):Prop:=l.n<=1000000
def iP (l:(L.Sq Int)):Nat->Prop:=fun _=>True
def iQ (l:(L.Sq Int)):Nat->Nat:=fun _=>l.n
def iR (l:(L.Sq Int)):Nat->Nat->List SV:=fun _ i=>[.int .i64 (l.g i)]
def iS:List EV->Option (Prop×(Nat->Prop)×(Nat->Nat)×(Nat->Nat->List SV))
 |[.p (.sl 1 l_n l_g)]=>some ((∀i,i<l_n->l_g i = [.int .i64 ((DK (l_g i)))])/\iO (⟨l_n,fun i=>DK (l_g i)⟩:(L.Sq Int)),iP (⟨l_n,fun i=>DK (l_g i)⟩:(L.Sq Int)),iQ (⟨l_n,fun i=>DK (l_g i)⟩:(L.Sq Int)),iR (⟨l_n,fun i=>DK (l_g i)⟩:(L.Sq Int)))
 |_=>none
abbrev iT:SE.Spec:=(Gw Nat 0 3 1 iS)
def AeE:Ak:={ cC with muts:=[5] }
theorem AeF (l:(L.Sq Int)) (hp:iO l):vc Tryz.prog (AeE) (Ah Tryz.f92) (Ap Tryz.f92 [.p (.sl 1 l.n (fun i=>[.int .i64 ((l.g i))]))]) (Fv Tryz.prog Tryz.f92 (Nat) (iP l) 3 1 (iQ l) (iR l)):=
 @Eq.mpr _ (∀(b:Bool),(b = !false->l.n=(0:Nat))->(b=true->∃(t:Nat),l.n=(0:Nat)/\True)/\(b=false->(nat_lit 0+l.n)*nat_lit 8<=(140737488355328:Nat)/\∃(t:Nat),(nat_lit 0+l.n=l.n/\∀(i:Nat),i<nat_lit 0+l.n->AU (nat_lit 0) (BX [] (nat_lit 1)) (fun(i:Nat)=>[SV.int .i64 (l.g i)]) i = [SV.int .i64 (l.g i)])/\True)) (by kernel_rfl) (by
 have hn:l.n<=1000000:=hp;refine fun b hb=>⟨fun h=>⟨(0:Nat),hb h,trivial⟩,fun h=>⟨show(0+l.n)*8<=140737488355328 by omega,(0:Nat),⟨Nat.zero_add _,fun i hi=>?_⟩,trivial⟩⟩;unfold AU;rw[if_neg (Rc _)];rfl)
theorem AeG:Av Tryz.prog 92 iT:=GK Tryz.func92 (c:=Ah Tryz.f92) (by kernel_rfl) mixed (fun args p q n g hs hp=>by
 unfold iS at hs;split at hs
 ·cases hs;exact⟨_,_,AeF _ hp.2,(.p (.sl hp.1) .nil),⟨show Aa Tryz.prog _ from Aa.nil,rfl,⟨show Ag Tryz.prog _ from Ag.nil,(Aw.none (fun _=>rfl))⟩⟩⟩
 ·cases hs)
theorem AeH:Ao Tryz.prog 92:=fun args w=>by kernel_rfl
abbrev iU:F9:={ T:=L.Sq Ab×Int×Int×Ac,args:=fun t=>[.int .i64 t.2.2.1,.agg [.int .i64 t.2.2.2.w,.int .i64 t.2.2.2.h]],t:=130,kt:=3,vt:=27,head:=fun t=>(fun w gr=>[(.sl 4 w.n (fun i=>[.int .i64 ((w.g i).id),.int .i64 ((w.g i).colour),.int .i64 ((w.g i).grain),.sl 2 (w.g i).ol.n (fun i1=>[.int .i64 (((w.g i).ol.g i1).x),.int .i64 (((w.g i).ol.g i1).y)])])),.int .i64 gr]) t.1 t.2.1,val:=fun t=>Ai (Ae t.1 t.2.1),pre:=fun t=>B7 t.1/\0<=t.2.2.1/\t.2.2.1<=Az t.1.n,res:=fun t=>.bool (Cd t.1 t.2.1 t.2.2.1 t.2.2.2) }
theorem AeI:IQ Tryz.prog 41 iU:=pD 1000 1001 (by decide) Qs (fun t d=>(t.1,t.2.1,d,t.2.2.1,t.2.2.2)) (fun _ _ u=>u) rfl rfl rfl (fun _ _=>rfl) (fun _ _=>rfl) (fun _ _ _=>rfl) (fun _ _ h=>h) (fun _ _ _=>rfl)
theorem AeJ:Ao Tryz.prog 41:=Qr
abbrev I4:Mk:={ T:=(L.Sq Ab)×(L.Sq Aj)×(Nat)×(List Int)×(Nat->Int)×(Int)×(Nat->Int)×(BU),U:=Nat->Int,args:=fun t=>(fun w s i A X sum G st=>[.p (.int .i64 (i:Int)),.rpre 1012 i,.p (.int .i64 sum)] ++ [.loc 1000 0,.loc 1001 0,.p (.ref [(.sl 4 w.n (fun i=>[.int .i64 ((w.g i).id),.int .i64 ((w.g i).colour),.int .i64 ((w.g i).grain),.sl 2 (w.g i).ol.n (fun i1=>[.int .i64 (((w.g i).ol.g i1).x),.int .i64 (((w.g i).ol.g i1).y)])]))] 0),.loc 1002 0,.p (.ref [(.sl 5 s.n (fun i=>[.int .i64 ((s.g i).id),.int .i64 ((s.g i).colour),.int .i64 ((s.g i).w),.int .i64 ((s.g i).h),.int .i64 ((s.g i).grain)]))] 0),.loc 1003 0,.loc 1004 0,.loc 1005 0]) t.1 t.2.1 t.2.2.1 t.2.2.2.1 t.2.2.2.2.1 t.2.2.2.2.2.1 t.2.2.2.2.2.2.1 t.2.2.2.2.2.2.2,lkeys:=[1000,1001,1002,1003,1004,1005,1010,1020,1021,1022,1023,1024,1025,1026,1027,1011,1012],keys:=[],lent:=fun t=>(fun w s i A X sum G st=>[(1000,.blk 4 [.p (.bool (st).fd)]),(1001,.blk 3 [.p (.int .i64 (st).ls)]),(1002,.blk 42 [.p (.sl 1 (BB (st).bt).n (fun j=>[.int .i64 ((BB (st).bt).g j)]))]),(1003,.blk 153 [.row 1010]),(1004,.blk 42 [.row 1011]),(1005,.blk 154 [.cl 91 [.loc 1000 0,.loc 1001 0,.p (.ref [(.sl 4 w.n (fun i=>[.int .i64 ((w.g i).id),.int .i64 ((w.g i).colour),.int .i64 ((w.g i).grain),.sl 2 (w.g i).ol.n (fun i1=>[.int .i64 (((w.g i).ol.g i1).x),.int .i64 (((w.g i).ol.g i1).y)])]))] 0),.loc 1002 0,.p (.ref [(.sl 5 s.n (fun i=>[.int .i64 ((s.g i).id),.int .i64 ((s.g i).colour),.int .i64 ((s.g i).w),.int .i64 ((s.g i).h),.int .i64 ((s.g i).grain)]))] 0),.loc 1003 0,.loc 1004 0,.loc 1005 0]]),(1010,.prow 79 s.n [1020,1021,1022,1023,1024,1025,1026,1027]),(1020,.oblk (Af 0 s.n) 130 [.p ((.sl 4 w.n (fun i=>[.int .i64 ((w.g i).id),.int .i64 ((w.g i).colour),.int .i64 ((w.g i).grain),.sl 2 (w.g i).ol.n (fun i1=>[.int .i64 (((w.g i).ol.g i1).x),.int .i64 (((w.g i).ol.g i1).y)])]))),.p (.int .i64 (s.g 0).grain),.mapv 1021]),(1021,.omq (Af 0 s.n) 3 27 (Ai (Ae w (s.g 0).grain))),(1022,.oblk (Af 1 s.n) 130 [.p ((.sl 4 w.n (fun i=>[.int .i64 ((w.g i).id),.int .i64 ((w.g i).colour),.int .i64 ((w.g i).grain),.sl 2 (w.g i).ol.n (fun i1=>[.int .i64 (((w.g i).ol.g i1).x),.int .i64 (((w.g i).ol.g i1).y)])]))),.p (.int .i64 (s.g 1).grain),.mapv 1023]),(1023,.omq (Af 1 s.n) 3 27 (Ai (Ae w (s.g 1).grain))),(1024,.oblk (Af 2 s.n) 130 [.p ((.sl 4 w.n (fun i=>[.int .i64 ((w.g i).id),.int .i64 ((w.g i).colour),.int .i64 ((w.g i).grain),.sl 2 (w.g i).ol.n (fun i1=>[.int .i64 (((w.g i).ol.g i1).x),.int .i64 (((w.g i).ol.g i1).y)])]))),.p (.int .i64 (s.g 2).grain),.mapv 1025]),(1025,.omq (Af 2 s.n) 3 27 (Ai (Ae w (s.g 2).grain))),(1026,.oblk (Af 3 s.n) 130 [.p ((.sl 4 w.n (fun i=>[.int .i64 ((w.g i).id),.int .i64 ((w.g i).colour),.int .i64 ((w.g i).grain),.sl 2 (w.g i).ol.n (fun i1=>[.int .i64 (((w.g i).ol.g i1).x),.int .i64 (((w.g i).ol.g i1).y)])]))),.p (.int .i64 (s.g 3).grain),.mapv 1027]),(1027,.omq (Af 3 s.n) 3 27 (Ai (Ae w (s.g 3).grain))),(1011,.row 3 1 s.n (fun k=>[.int .i64 (G k)])),(1012,.row 3 1 w.n (fun j=>[.int .i64 (BQ A X j)]))]) t.1 t.2.1 t.2.2.1 t.2.2.2.1 t.2.2.2.2.1 t.2.2.2.2.2.1 t.2.2.2.2.2.2.1 t.2.2.2.2.2.2.2,pre:=fun t=>(fun w s i A X sum G st=>B7 w/\s.n<=4/\(∀k,k<s.n->BH (s.g k)=true)/\i<=w.n/\Js A=i/\HP s.n i G/\0<=(sum:Int)/\(sum:Int)<=(i:Int)*16777216) t.1 t.2.1 t.2.2.1 t.2.2.2.1 t.2.2.2.2.1 t.2.2.2.2.2.1 t.2.2.2.2.2.2.1 t.2.2.2.2.2.2.2,post:=fun t u=>(fun w s i A X sum G st=>fun u=>True) t.1 t.2.1 t.2.2.1 t.2.2.2.1 t.2.2.2.2.1 t.2.2.2.2.2.1 t.2.2.2.2.2.2.1 t.2.2.2.2.2.2.2 u,lent':=fun t u=>(fun w s i A X sum G st=>fun u=>[(1000,.blk 4 [.p (.bool (DB w s i A sum G st).fd)]),(1001,.blk 3 [.p (.int .i64 (DB w s i A sum G st).ls)]),(1002,.blk 42 [.p (.sl 1 (BB (DB w s i A sum G st).bt).n (fun j=>[.int .i64 ((BB (DB w s i A sum G st).bt).g j)]))]),(1003,.blk 153 [.row 1010]),(1004,.blk 42 [.row 1011]),(1005,.blk 154 [.cl 91 [.loc 1000 0,.loc 1001 0,.p (.ref [(.sl 4 w.n (fun i=>[.int .i64 ((w.g i).id),.int .i64 ((w.g i).colour),.int .i64 ((w.g i).grain),.sl 2 (w.g i).ol.n (fun i1=>[.int .i64 (((w.g i).ol.g i1).x),.int .i64 (((w.g i).ol.g i1).y)])]))] 0),.loc 1002 0,.p (.ref [(.sl 5 s.n (fun i=>[.int .i64 ((s.g i).id),.int .i64 ((s.g i).colour),.int .i64 ((s.g i).w),.int .i64 ((s.g i).h),.int .i64 ((s.g i).grain)]))] 0),.loc 1003 0,.loc 1004 0,.loc 1005 0]]),(1010,.prow 79 s.n [1020,1021,1022,1023,1024,1025,1026,1027]),(1020,.oblk (Af 0 s.n) 130 [.p ((.sl 4 w.n (fun i=>[.int .i64 ((w.g i).id),.int .i64 ((w.g i).colour),.int .i64 ((w.g i).grain),.sl 2 (w.g i).ol.n (fun i1=>[.int .i64 (((w.g i).ol.g i1).x),.int .i64 (((w.g i).ol.g i1).y)])]))),.p (.int .i64 (s.g 0).grain),.mapv 1021]),(1021,.omq (Af 0 s.n) 3 27 (Ai (Ae w (s.g 0).grain))),(1022,.oblk (Af 1 s.n) 130 [.p ((.sl 4 w.n (fun i=>[.int .i64 ((w.g i).id),.int .i64 ((w.g i).colour),.int .i64 ((w.g i).grain),.sl 2 (w.g i).ol.n (fun i1=>[.int .i64 (((w.g i).ol.g i1).x),.int .i64 (((w.g i).ol.g i1).y)])]))),.p (.int .i64 (s.g 1).grain),.mapv 1023]),(1023,.omq (Af 1 s.n) 3 27 (Ai (Ae w (s.g 1).grain))),(1024,.oblk (Af 2 s.n) 130 [.p ((.sl 4 w.n (fun i=>[.int .i64 ((w.g i).id),.int .i64 ((w.g i).colour),.int .i64 ((w.g i).grain),.sl 2 (w.g i).ol.n (fun i1=>[.int .i64 (((w.g i).ol.g i1).x),.int .i64 (((w.g i).ol.g i1).y)])]))),.p (.int .i64 (s.g 2).grain),.mapv 1025]),(1025,.omq (Af 2 s.n) 3 27 (Ai (Ae w (s.g 2).grain))),(1026,.oblk (Af 3 s.n) 130 [.p ((.sl 4 w.n (fun i=>[.int .i64 ((w.g i).id),.int .i64 ((w.g i).colour),.int .i64 ((w.g i).grain),.sl 2 (w.g i).ol.n (fun i1=>[.int .i64 (((w.g i).ol.g i1).x),.int .i64 (((w.g i).ol.g i1).y)])]))),.p (.int .i64 (s.g 3).grain),.mapv 1027]),(1027,.omq (Af 3 s.n) 3 27 (Ai (Ae w (s.g 3).grain))),(1011,.row 3 1 s.n (fun k=>[.int .i64 (G k)])),(1012,.row 3 1 w.n (fun j=>[.int .i64 (BQ A u j)]))]) t.1 t.2.1 t.2.2.1 t.2.2.2.1 t.2.2.2.2.1 t.2.2.2.2.2.1 t.2.2.2.2.2.2.1 t.2.2.2.2.2.2.2 u,own:=fun t u=>(fun w s i A X sum G st=>fun u=>[]) t.1 t.2.1 t.2.2.1 t.2.2.2.1 t.2.2.2.2.1 t.2.2.2.2.2.1 t.2.2.2.2.2.2.1 t.2.2.2.2.2.2.2 u,res:=fun t u=>(fun w s i A X sum G st=>fun u=>.p (.tup [])) t.1 t.2.1 t.2.2.1 t.2.2.2.1 t.2.2.2.2.1 t.2.2.2.2.2.1 t.2.2.2.2.2.2.1 t.2.2.2.2.2.2.2 u }
abbrev iV:I4.T->Nat:=fun t=>(fun w s i A X sum G st=>w.n-i) t.1 t.2.1 t.2.2.1 t.2.2.2.1 t.2.2.2.2.1 t.2.2.2.2.2.1 t.2.2.2.2.2.2.1 t.2.2.2.2.2.2.2
theorem AeK (rn:Nat) (w:L.Sq Ab) (s:L.Sq Aj) (i:Nat) (A:List Int) (X:Nat->Int) (sum:Int) (G:Nat->Int) (st:BU) (hp:I4.pre (w,s,i,A,X,sum,G,st)) (hmu:w.n-i<rn+1):vc Tryz.prog ({ muts:=[],frz:=B2 [],specs:=AB [(92,iT)],loops:=AV [(4,{ T:=Nat×(Nat->Int),keep:=[0,1,2,3,4,5,6,7,8,9,10,30],keepO:=[1003,1004,1005,1010,1020,1021,1022,1023,1024,1025,1026,1027,1011],chg:=fun t=>[(31,.p (.int .i64 (t.1:Int)))],own:=fun t=>[(1000,.blk 4 [.p (.bool ((D5 w s i A sum G st t.1)).fd)]),(1001,.blk 3 [.p (.int .i64 ((D5 w s i A sum G st t.1)).ls)]),(1002,.blk 42 [.p (.sl 1 (BB ((D5 w s i A sum G st t.1)).bt).n (fun j=>[.int .i64 ((BB ((D5 w s i A sum G st t.1)).bt).g j)]))]),(1012,.row 3 1 w.n (fun j=>[.int .i64 (BQ A t.2 j)]))],inv:=fun t=>t.1<=s.n,mu:=fun t=>s.n-t.1 })],iters:=Bw [],rfs:=AT [],nils:=B3 [],mks:=El [(91,Mk.lt I4 iV rn)],ren:=fun k=>k,fams:=Lv [(41,iU)],joins:=AV [(10,{ T:=Nat,keep:=[0,1,2,3,4,5,6,7,8,9,10,14,30,31],keepO:=[1003,1004,1005,1010,1020,1021,1022,1023,1024,1025,1026,1027,1000,1001,1002,1011,1012],chg:=fun k=>[(15,.p (.int .i64 (D4 s G k)))],own:=fun _=>[],inv:=fun _=>True,mu:=fun _=>0,tie:=fun k=>[(14,.int .i64 (k:Int))] })],anys:=[1011] }) (Ah Tryz.f91) (D7 Tryz.f91 (I4.args (w,s,i,A,X,sum,G,st)) (I4.lent (w,s,i,A,X,sum,G,st))) (Fx Tryz.prog Tryz.f91 I4 (w,s,i,A,X,sum,G,st)):=
  @Eq.mpr _ (let I:=SV.int .i64;let T:=Af1;let A107:=(↑w.n:Int);let A96:=(nat_lit 1005);let A95:=(nat_lit 1004);let A94:=(nat_lit 1003);let A93:=(nat_lit 1002);let A92:=(nat_lit 1001);let A91:=(nat_lit 1000);let A90:=(4:Nat);let A88:=(91:Nat);let A59:=(nat_lit 4);let A58:=(BB st.bt);let A57:=(1:Int);let A55:=(bif st.fd then
 decide (st.ls<=sum)else false);let A40:=(nat_lit 91);let A34:=(0:Int);let A31:=(↑i:Int);let A30:=(↑s.n:Int);let A26:=(DB w s i A sum G st);let A56:=(BB A26.bt);let A25:=(BJ A57 A31);let A24:=(s.n=s.n/\∀(i:Nat),i<s.n -> [I (G i)]= [I (G i)]);let A17:=(3:Nat);let A36:=(s.g A17);let A43:=(Ae w A36.grain);let A23
:=(∀(x:Int),Ai A43 x=Ai A43 x);let A16:=(nat_lit 0);let A15:=(1:Nat);let A37:=(s.g A15);let A44:=(Ae w A37.grain);let A21:=(∀(x:Int),Ai A44 x=Ai A44 x);let A13:=(0:Nat);let A61:=(A13<nat_lit 1/\i+nat_lit 1<=w.n);let A38:=(s.g A13);let A45:=(Ae w A38.grain);let A20:=(∀(x:Int),Ai A45 x=Ai A45 x);let A12:=(2
:Nat);let A39:=(s.g A12);let A46:=(Ae w A39.grain);let A22:=(∀(x:Int),Ai A46 x=Ai A46 x);let A4:=[SV.sl (nat_lit 5) s.n fun(i:Nat)=>[I (s.g i).id,I (s.g i).colour,I (s.g i).w,I (s.g i).h,I (s.g i).grain]];let A3:=[SV.sl A59 w.n fun(i:Nat)=>[I (w.g i).id,I (w.g i).colour,I (w.g i).grain,SV.sl A12 (w.g i).ol.n fun(i1:Nat)=>[I
 ((w.g i).ol.g i1).x,I ((w.g i).ol.g i1).y]]];let A2:=(w.n=w.n/\∀(i:Nat),let A35:=[I (w.g i).id,I (w.g i).colour,I (w.g i).grain,SV.sl A12 (w.g i).ol.n fun(i1:Nat)=>[I ((w.g i).ol.g i1).x,I ((w.g i).ol.g i1).y]];i<w.n->A35=A35);let A1:=[EV.loc A91 A16,EV.loc A92 A16,EV.p (SV.ref A3 A16),EV.loc A93 A16,EV.p (SV.ref A4
 A16),EV.loc A94 A16,EV.loc A95 A16,EV.loc A96 A16];(A55=true->∃(u:Nat->Int),st.fd=A26.fd/\st.ls=A26.ls/\(A58.n=A56.n/\∀(i_1:Nat),i_1<A58.n -> [I (A58.g i_1)]= [I (A56.g i_1)])/\EV.cl A40 A1=EV.cl A88 A1/\s.n=s.n/\Af A13 s.n=Af A13 s.n/\A2/\A38.grain=A38.grain/\Af A13 s.n=Af A13 s.n/\A20/\Af A15 s.n
 = Af A15 s.n/\A2/\A37.grain=A37.grain/\Af A15 s.n=Af A15 s.n/\A21/\Af A12 s.n=Af A12 s.n/\A2/\A39.grain=A39.grain/\Af A12 s.n=Af A12 s.n/\A22/\Af A17 s.n=Af A17 s.n/\A2/\A36.grain=A36.grain/\Af A17 s.n=Af A17 s.n/\A23/\A24/\(w.n=w.n/\∀(i:Nat),i<w.n -> [I (BQ A X i)]= [I (BQ A u i)])/\True)/\(A55 =
 false->(decide (A31=A107)=true->i<=w.n/\((∀(i_1:Nat),i_1<i -> [I (BQ A X i_1)]= [I (BQ A X i_1)])/\i<=(1000000:Nat))/\∀(t:Nat),True->(∀(i_1:Nat),i_1<i->(true&&true)=true)/\∃(u:Nat->Int),true=A26.fd/\sum=A26.ls/\(i=A56.n/\∀(i_1:Nat),i_1<i -> [I (BQ A X i_1)]= [I (A56.g i_1)])/\EV.cl A40
 A1=EV.cl A88 A1/\s.n=s.n/\Af A13 s.n=Af A13 s.n/\A2/\A38.grain=A38.grain/\Af A13 s.n=Af A13 s.n/\A20/\Af A15 s.n=Af A15 s.n/\A2/\A37.grain=A37.grain/\Af A15 s.n=Af A15 s.n/\A21/\Af A12 s.n=Af A12 s.n/\A2/\A39.grain=A39.grain/\Af A12 s.n=Af A12 s.n/\A22/\Af A17 s.n=Af A17 s.n/\A2/\A36.grain =
 A36.grain/\Af A17 s.n=Af A17 s.n/\A23/\A24/\(w.n=w.n/\∀(i:Nat),i<w.n -> [I (BQ A X i)]= [I (BQ A u i)])/\True)/\(decide (A31=A107)=false->(∃(g:Nat×(Nat->Int)),let A51:=(D5 w s i A sum G st g.1);A34=(↑g.1:Int)/\st.fd=A51.fd/\st.ls=A51.ls/\(A58.n=(BB A51.bt).n/\∀(i_1:Nat),i_1<A58.n -> [I (A58.g i_1)]= [I ((BB
 A51.bt).g i_1)])/\(w.n=w.n/\∀(i:Nat),i<w.n -> [I (BQ A X i)]= [I (BQ A g.2 i)])/\g.1<=s.n)/\∀(g:Nat×(Nat->Int)),let A53:=(w.n=w.n/\∀(i:Nat),i<w.n -> [I (BQ A g.2 i)]= [I (BQ A g.2 i)]);let A11:=(↑g.1:Int);let A79:=[I (Gl (G (T A11)) A25)];let A54:=(s.g (T A11));let A47:=(A34<=A11/\A11<A30);let A10:=(D5 w s i A sum G st
 g.1);let A27:=(BB A10.bt);let A52:=(A27.n=A27.n/\∀(i_1:Nat),i_1<A27.n -> [I (A27.g i_1)]= [I (A27.g i_1)]);let A5:=(!!decide (A54.colour=(w.g (T A31)).colour));let A89:=(A5=true->T A11<s.n);let A42:=(A5=true->A34<=A11/\A11<A30);g.1<=s.n->(decide (A11<A30)=true->A47/\(A34<=A31/\A31<A107)/\A42/\A89/\A42/\A89
 /\ (A5=true->A34<=A31)/\(A5=true->Ad .i64 A25)/\A42/\A42/\∃(t:L.Sq Ab×Int×Int×Ac),let A60:=(Ae t.1 t.2.1);let A41:=(bif !decide (A54.colour=(w.g (T A31)).colour)then true else !Cd t.1 t.2.1 t.snd.2.1 t.snd.2.2);let A14:=[SV.sl A90 t.1.n fun(i:Nat)=>let A70:=(t.1.g i);[I A70.id,I A70.colour,I
 A70.grain,SV.sl A12 A70.ol.n fun(i1:Nat)=>[I (A70.ol.g i1).x,I (A70.ol.g i1).y]],I t.2.1];(A5=true->T A11<A13+A15+A15+A15+A15)/\(A5=true->T A11=A13->Af A13 s.n=true/\Af A13 s.n=true /\ [SV.sl A59 w.n fun(i:Nat)=>[I (w.g i).id,I (w.g i).colour,I (w.g i).grain,SV.sl A12 (w.g i).ol.n fun(i1:Nat)=>[I ((w.g i).ol.g
 i1).x,I ((w.g i).ol.g i1).y]],I A38.grain]=A14/\∀(x:Int),Ai A45 x=Ai A60 x)/\(A5=true->T A11=A13+A15->Af A15 s.n=true/\Af A15 s.n=true /\ [SV.sl A59 w.n fun(i:Nat)=>[I (w.g i).id,I (w.g i).colour,I (w.g i).grain,SV.sl A12 (w.g i).ol.n fun(i1:Nat)=>[I ((w.g i).ol.g i1).x,I ((w.g i).ol.g i1).y]],I A37.grain]=A14/\∀(x
:Int),Ai A44 x=Ai A60 x)/\(A5=true->T A11=A13+A15+A15->Af A12 s.n=true/\Af A12 s.n=true /\ [SV.sl A59 w.n fun(i:Nat)=>[I (w.g i).id,I (w.g i).colour,I (w.g i).grain,SV.sl A12 (w.g i).ol.n fun(i1:Nat)=>[I ((w.g i).ol.g i1).x,I ((w.g i).ol.g i1).y]],I A39.grain]=A14/\∀(x:Int),Ai A46 x=Ai A60 x)/\(A5 =
 true->T A11=A13+A15+A15+A15->Af A17 s.n=true/\Af A17 s.n=true /\ [SV.sl A59 w.n fun(i:Nat)=>[I (w.g i).id,I (w.g i).colour,I (w.g i).grain,SV.sl A12 (w.g i).ol.n fun(i1:Nat)=>[I ((w.g i).ol.g i1).x,I ((w.g i).ol.g i1).y]],I A36.grain]=A14/\∀(x:Int),Ai A43 x=Ai A60 x)/\(A5=true->Gl (G (T A11)) A25 =
 t.snd.2.1)/\(A5=true->SV.agg [I A54.w,I A54.h]=SV.agg [I t.snd.2.2.w,I t.snd.2.2.h])/\(A5=true->B7 t.1/\A34<=t.snd.2.1/\t.snd.2.1<=Az t.1.n)/\(A41=true->Ad .i64 (A11+A57)/\∃(g':Nat×(Nat->Int)),let A48:=(D5 w s i A sum G st g'.1);A11+A57=(↑g'.1:Int)/\A30=A30/\A31=A31/\i=i/\sum=sum/\nat_lit 0 =
 nat_lit 0/\nat_lit 0=nat_lit 0/\SV.ref A3 A16=SV.ref A3 A16/\nat_lit 0=nat_lit 0/\SV.ref A4 A16=SV.ref A4 A16/\nat_lit 0=nat_lit 0/\nat_lit 0=nat_lit 0/\nat_lit 0=nat_lit 0/\A10.fd=A48.fd/\A10.ls=A48.ls/\(A27.n=(BB A48.bt).n/\∀(i_1:Nat),i_1<A27.n -> [I (A27.g i_1)]= [I ((BB A48.bt).g i_1)])/\(w.n=w.n/\∀(i:Nat),i<w.n -> [I
 (BQ A g.2 i)]= [I (BQ A g'.2 i)])/\EV.cl A40 A1=EV.cl A40 A1/\s.n=s.n/\Af A13 s.n=Af A13 s.n/\A2/\A38.grain=A38.grain/\Af A13 s.n=Af A13 s.n/\A20/\Af A15 s.n=Af A15 s.n/\A2/\A37.grain=A37.grain/\Af A15 s.n=Af A15 s.n/\A21/\Af A12 s.n=Af A12 s.n/\A2/\A39.grain=A39.grain/\Af A12 s.n=Af A12 s.n /\
 A22/\Af A17 s.n=Af A17 s.n/\A2/\A36.grain=A36.grain/\Af A17 s.n=Af A17 s.n/\A23/\A24/\g'.1<=s.n/\s.n-g'.1<s.n-g.1)/\(A41=false->(A47/\T A11<s.n/\(decide (G (T A11)=A34)=true->A47/\A47/\Ad .i64 (A54.w*A54.h)/\∃(g_1:Nat),A54.w*A54.h=D4 s G g_1/\A11=A11/\A11=A11/\A30=A30/\A31=A31/\i=i
 /\ sum=sum/\nat_lit 0=nat_lit 0/\nat_lit 0=nat_lit 0/\SV.ref A3 A16=SV.ref A3 A16/\nat_lit 0=nat_lit 0/\SV.ref A4 A16=SV.ref A4 A16/\nat_lit 0=nat_lit 0/\nat_lit 0=nat_lit 0/\nat_lit 0=nat_lit 0/\A10.fd=A10.fd/\A10.ls=A10.ls/\A52/\A53/\EV.cl A40 A1=EV.cl A40 A1/\s.n=s.n/\Af A13 s.n=Af A13 s.n/\A2/\A38.grain =
 A38.grain/\Af A13 s.n=Af A13 s.n/\A20/\Af A15 s.n=Af A15 s.n/\A2/\A37.grain=A37.grain/\Af A15 s.n=Af A15 s.n/\A21/\Af A12 s.n=Af A12 s.n/\A2/\A39.grain=A39.grain/\Af A12 s.n=Af A12 s.n/\A22/\Af A17 s.n=Af A17 s.n/\A2/\A36.grain=A36.grain/\Af A17 s.n=Af A17 s.n/\A23/\A24/\A11=(↑g_1:Int)/\True) /\
 (decide (G (T A11)=A34)=false->∃(g_1:Nat),A34=D4 s G g_1/\A11=A11/\A11=A11/\A30=A30/\A31=A31/\i=i/\sum=sum/\nat_lit 0=nat_lit 0/\nat_lit 0=nat_lit 0/\SV.ref A3 A16=SV.ref A3 A16/\nat_lit 0=nat_lit 0/\SV.ref A4 A16=SV.ref A4 A16/\nat_lit 0=nat_lit 0/\nat_lit 0=nat_lit 0/\nat_lit 0=nat_lit 0/\A10.fd =
 A10.fd/\A10.ls=A10.ls/\A52/\A53/\EV.cl A40 A1=EV.cl A40 A1/\s.n=s.n/\Af A13 s.n=Af A13 s.n/\A2/\A38.grain=A38.grain/\Af A13 s.n=Af A13 s.n/\A20/\Af A15 s.n=Af A15 s.n/\A2/\A37.grain=A37.grain/\Af A15 s.n=Af A15 s.n/\A21/\Af A12 s.n=Af A12 s.n/\A2/\A39.grain=A39.grain/\Af A12 s.n=Af A12 s.n/\A22
 /\ Af A17 s.n=Af A17 s.n/\A2/\A36.grain=A36.grain/\Af A17 s.n=Af A17 s.n/\A23/\A24/\A11=(↑g_1:Int)/\True))/\∀(g_1:Nat),A11=(↑g_1:Int)/\True->A47/\T A11<s.n/\A34<=A31/\Ad .i64 A25/\A47/\T A11<s.n/\Ad .i64 (A31+A57)/\Ad .i64 (sum+D4 s G g_1)/\(A61/\∃(t:L.Sq Ab×L.Sq Aj ×
 Nat×List Int×(Nat->Int)×Int×(Nat->Int)×BU),let A78:=(t.2.1.g A17);let A102:=(Ae t.1 A78.grain);let A77:=(t.2.1.g A12);let A101:=(Ae t.1 A77.grain);let A76:=(t.2.1.g A15);let A100:=(Ae t.1 A76.grain);let A75:=(t.2.1.g A13);let A99:=(Ae t.1 A75.grain);let A63:=(A34<=A11/\A11<(↑t.2.1.n:Int));let A62:=(BB
 t.snd.snd.snd.snd.snd.2.2.bt);let A32:=(SV.ref [SV.sl (nat_lit 5) t.2.1.n fun(i:Nat)=>let A66:=(t.2.1.g i);[I A66.id,I A66.colour,I A66.w,I A66.h,I A66.grain]] A16);let A28:=(SV.ref [SV.sl A59 t.1.n fun(i:Nat)=>let A71:=(t.1.g i);[I A71.id,I A71.colour,I A71.grain,SV.sl A12 A71.ol.n fun(i1:Nat)=>[I (A71.ol.g i1).x,I (A71.ol.g i1).y]]]
 A16);let A18:=(DB t.1 t.2.1 t.snd.2.1 t.snd.snd.2.1 t.snd.snd.snd.snd.2.1 t.snd.snd.snd.snd.snd.2.1 t.snd.snd.snd.snd.snd.2.2);let A97:=(BB A18.bt);let A8:=(w.n=t.1.n/\∀(i:Nat),let A72:=(t.1.g i);i<w.n -> [I (w.g i).id,I (w.g i).colour,I (w.g i).grain,SV.sl A12 (w.g i).ol.n fun(i1:Nat)=>[I ((w.g i).ol.g i1).x,I ((w.g i).ol.g i1).y]]= [I A72.id,I
 A72.colour,I A72.grain,SV.sl A12 A72.ol.n fun(i1:Nat)=>[I (A72.ol.g i1).x,I (A72.ol.g i1).y]]);let A6:=(t.1.n=w.n/\∀(i:Nat),let A73:=(t.1.g i);i<t.1.n -> [I A73.id,I A73.colour,I A73.grain,SV.sl A12 A73.ol.n fun(i1:Nat)=>[I (A73.ol.g i1).x,I (A73.ol.g i1).y]]= [I (w.g i).id,I (w.g i).colour,I (w.g i).grain,SV.sl A12 (w.g i).ol.n fun(i1:Nat)=>
 [I ((w.g i).ol.g i1).x,I ((w.g i).ol.g i1).y]]);A31+A57=(↑t.snd.2.1:Int)/\i+nat_lit 1=t.snd.2.1/\sum+D4 s G g_1=t.snd.snd.snd.snd.2.1/\nat_lit 0=A13/\nat_lit 0=A13/\SV.ref A3 A16=SV.ref [SV.sl A90 t.1.n fun(i:Nat)=>let A74:=(t.1.g i);[I A74.id,I A74.colour,I A74.grain,SV.sl A12 A74.ol.n fun(i1:Nat)=>[I (A74.ol.g i1).x,I (A74.ol.g
 i1).y]]] A13/\nat_lit 0=A13/\SV.ref A4 A16=SV.ref [SV.sl (5:Nat) t.2.1.n fun(i:Nat)=>let A67:=(t.2.1.g i);[I A67.id,I A67.colour,I A67.w,I A67.h,I A67.grain]] A13/\nat_lit 0=A13/\nat_lit 0=A13/\nat_lit 0=A13/\A10.fd=t.snd.snd.snd.snd.snd.2.2.fd/\A10.ls=t.snd.snd.snd.snd.snd.2.2.ls/\(A27.n=A62.n/\∀(i_1:Nat),i_1<A27.n -> [I (A27.g i_1)] =
 [I (A62.g i_1)])/\EV.cl A40 A1=EV.cl A88 [EV.loc A91 A16,EV.loc A92 A16,EV.p A28,EV.loc A93 A16,EV.p A32,EV.loc A94 A16,EV.loc A95 A16,EV.loc A96 A16]/\s.n=t.2.1.n/\Af A13 s.n=Af A13 t.2.1.n/\A8/\A38.grain=A75.grain/\Af A13 s.n=Af A13 t.2.1.n/\(∀(x:Int),Ai A45 x=Ai A99 x)/\Af A15
 s.n=Af A15 t.2.1.n/\A8/\A37.grain=A76.grain/\Af A15 s.n=Af A15 t.2.1.n/\(∀(x:Int),Ai A44 x=Ai A100 x)/\Af A12 s.n=Af A12 t.2.1.n/\A8/\A39.grain=A77.grain/\Af A12 s.n=Af A12 t.2.1.n/\(∀(x:Int),Ai A46 x=Ai A101 x)/\Af A17 s.n=Af A17 t.2.1.n/\A8/\A36.grain=A78.grain/\Af A17 s.n=Af A17 t.2.1.n/\(∀
 (x:Int),Ai A43 x=Ai A102 x)/\(s.n=t.2.1.n/\∀(i_1:Nat),i_1<s.n->setRow (fun(k:Nat)=>[I (G k)]) (T A11) A16 A79 i_1 = [I (t.snd.snd.snd.snd.snd.2.1 i_1)])/\(w.n=t.1.n/\∀(i_1:Nat),i_1<w.n->(if i<=i_1/\i_1<i+nat_lit 1 then [I A11]else [I (BQ A g.2 i_1)])= [I (BQ t.snd.snd.2.1 t.snd.snd.snd.2.1 i_1)])/\((B7 t.1/\t.2.1.n<=A90/\(∀(k :
 Nat),k<t.2.1.n->BH (t.2.1.g k)=true)/\t.snd.2.1<=t.1.n/\Js t.snd.snd.2.1=t.snd.2.1/\HP t.2.1.n t.snd.2.1 t.snd.snd.snd.snd.snd.2.1/\A34<=t.snd.snd.snd.snd.2.1/\t.snd.snd.snd.snd.2.1<=(↑t.snd.2.1:Int)*(16777216:Int))/\t.1.n-t.snd.2.1<rn)/\∀(u:Nat->Int),True->A63/\T A11<t.2.1.n/\A34<=A31/\Ad .i64 A25/\A63/\T A11<t.2.1.n /\
 Ad .i64 (A11+A57)/\∃(g':Nat×(Nat->Int)),let A49:=(D5 w s i A sum G st g'.1);A11+A57=(↑g'.1:Int)/\A30=A30/\A31=A31/\i=i/\sum=sum/\nat_lit 0=nat_lit 0/\nat_lit 0=nat_lit 0/\SV.ref A3 A16=SV.ref A3 A16/\nat_lit 0=nat_lit 0/\SV.ref A4 A16=SV.ref A4 A16/\nat_lit 0=nat_lit 0/\nat_lit 0=nat_lit 0/\nat_lit 0
 = nat_lit 0/\A18.fd=A49.fd/\A18.ls=A49.ls/\(A97.n=(BB A49.bt).n/\∀(i_1:Nat),i_1<A97.n -> [I (A97.g i_1)]= [I ((BB A49.bt).g i_1)])/\(t.1.n=w.n/\∀(i:Nat),i<t.1.n -> [I (BQ t.snd.snd.2.1 u i)]= [I (BQ A g'.2 i)])/\EV.cl A40 [EV.loc (1000:Nat) A16,EV.loc (1001:Nat) A16,EV.p A28,EV.loc (1002:Nat) A16,EV.p A32,
 EV.loc (1003:Nat) A16,EV.loc (1004:Nat) A16,EV.loc (1005:Nat) A16]=EV.cl A40 A1/\t.2.1.n=s.n/\Af A13 t.2.1.n=Af A13 s.n/\A6/\A75.grain=A38.grain/\Af A13 t.2.1.n=Af A13 s.n/\(∀(x:Int),Ai A99 x=Ai A45 x)/\Af A15 t.2.1.n=Af A15 s.n/\A6/\A76.grain=A37.grain/\Af A15 t.2.1.n=Af A15 s.n/\(∀(x:Int),
 Ai A100 x=Ai A44 x)/\Af A12 t.2.1.n=Af A12 s.n/\A6/\A77.grain=A39.grain/\Af A12 t.2.1.n=Af A12 s.n/\(∀(x:Int),Ai A101 x=Ai A46 x)/\Af A17 t.2.1.n=Af A17 s.n/\A6/\A78.grain=A36.grain/\Af A17 t.2.1.n=Af A17 s.n/\(∀(x:Int),Ai A102 x=Ai A43 x)/\(t.2.1.n=s.n/\∀(i_1:Nat),i_1<t.2.1.n->setRow (fun
 (k:Nat)=>[I (t.snd.snd.snd.snd.snd.2.1 k)]) (T A11) A16 [I (Dv (t.snd.snd.snd.snd.snd.2.1 (T A11)) A25)] i_1 = [I (G i_1)])/\g'.1<=s.n/\s.n-g'.1<s.n-g.1)/\A61/\∃(t:L.Sq Ab×L.Sq Aj×Nat×List Int×(Nat->Int)×Int×(Nat->Int)×BU),let A87:=(t.2.1.g A17);let A106:=(Ae t.1 A87.grain);let A86:=(t.2.1.g A12);let A105:=(Ae t.1
 A86.grain);let A85:=(t.2.1.g A15);let A104:=(Ae t.1 A85.grain);let A84:=(t.2.1.g A13);let A103:=(Ae t.1 A84.grain);let A65:=(A34<=A11/\A11<(↑t.2.1.n:Int));let A64:=(BB t.snd.snd.snd.snd.snd.2.2.bt);let A33:=(SV.ref [SV.sl (nat_lit 5) t.2.1.n fun(i:Nat)=>let A68:=(t.2.1.g i);[I A68.id,I A68.colour,I A68.w,I A68.h,I A68.grain]] A16);let
 A29:=(SV.ref [SV.sl A59 t.1.n fun(i:Nat)=>let A80:=(t.1.g i);[I A80.id,I A80.colour,I A80.grain,SV.sl A12 A80.ol.n fun(i1:Nat)=>[I (A80.ol.g i1).x,I (A80.ol.g i1).y]]] A16);let A19:=(DB t.1 t.2.1 t.snd.2.1 t.snd.snd.2.1 t.snd.snd.snd.snd.2.1 t.snd.snd.snd.snd.snd.2.1 t.snd.snd.snd.snd.snd.2.2);let A98:=(BB A19.bt);let A9:=(w.n=t.1.n/\∀(i :
 Nat),let A81:=(t.1.g i);i<w.n -> [I (w.g i).id,I (w.g i).colour,I (w.g i).grain,SV.sl A12 (w.g i).ol.n fun(i1:Nat)=>[I ((w.g i).ol.g i1).x,I ((w.g i).ol.g i1).y]]= [I A81.id,I A81.colour,I A81.grain,SV.sl A12 A81.ol.n fun(i1:Nat)=>[I (A81.ol.g i1).x,I (A81.ol.g i1).y]]);let A7:=(t.1.n=w.n/\∀(i:Nat),let A82:=(t.1.g i);i<t.1.n -> [I A82.id,I
 A82.colour,I A82.grain,SV.sl A12 A82.ol.n fun(i1:Nat)=>[I (A82.ol.g i1).x,I (A82.ol.g i1).y]]= [I (w.g i).id,I (w.g i).colour,I (w.g i).grain,SV.sl A12 (w.g i).ol.n fun(i1:Nat)=>[I ((w.g i).ol.g i1).x,I ((w.g i).ol.g i1).y]]);A31+A57=(↑t.snd.2.1:Int)/\i+nat_lit 1=t.snd.2.1/\sum+D4 s G g_1=t.snd.snd.snd.snd.2.1/\nat_lit 0=A13/\nat_lit 0=A13 /\
 SV.ref A3 A16=SV.ref [SV.sl A90 t.1.n fun(i:Nat)=>let A83:=(t.1.g i);[I A83.id,I A83.colour,I A83.grain,SV.sl A12 A83.ol.n fun(i1:Nat)=>[I (A83.ol.g i1).x,I (A83.ol.g i1).y]]] A13/\nat_lit 0=A13/\SV.ref A4 A16=SV.ref [SV.sl (5:Nat) t.2.1.n fun(i:Nat)=>let A69:=(t.2.1.g i);[I A69.id,I A69.colour,I A69.w,I A69.h,I
 A69.grain]] A13/\nat_lit 0=A13/\nat_lit 0=A13/\nat_lit 0=A13/\A10.fd=t.snd.snd.snd.snd.snd.2.2.fd/\A10.ls=t.snd.snd.snd.snd.snd.2.2.ls/\(A27.n=A64.n/\∀(i_1:Nat),i_1<A27.n -> [I (A27.g i_1)]= [I (A64.g i_1)])/\EV.cl A40 A1=EV.cl A88 [EV.loc A91 A16,EV.loc A92 A16,EV.p A29,EV.loc A93 A16,EV.p A33,EV.loc A94 A16,
 EV.loc A95 A16,EV.loc A96 A16]/\s.n=t.2.1.n/\Af A13 s.n=Af A13 t.2.1.n/\A9/\A38.grain=A84.grain/\Af A13 s.n=Af A13 t.2.1.n/\(∀(x:Int),Ai A45 x=Ai A103 x)/\Af A15 s.n=Af A15 t.2.1.n/\A9/\A37.grain=A85.grain/\Af A15 s.n=Af A15 t.2.1.n/\(∀(x:Int),Ai A44 x=Ai A104 x)/\Af A12 s.n=Af A12 t.2.1.n
 /\ A9/\A39.grain=A86.grain/\Af A12 s.n=Af A12 t.2.1.n/\(∀(x:Int),Ai A46 x=Ai A105 x)/\Af A17 s.n=Af A17 t.2.1.n/\A9/\A36.grain=A87.grain/\Af A17 s.n=Af A17 t.2.1.n/\(∀(x:Int),Ai A43 x=Ai A106 x)/\(s.n=t.2.1.n/\∀(i_1:Nat),i_1<s.n->setRow (fun(k:Nat)=>[I (G k)]) (T A11) A16 A79 i_1 = [I
 (t.snd.snd.snd.snd.snd.2.1 i_1)])/\(w.n=t.1.n/\∀(i_1:Nat),i_1<w.n->(if i<=i_1/\i_1<i+nat_lit 1 then [I A11]else [I (BQ A g.2 i_1)])= [I (BQ t.snd.snd.2.1 t.snd.snd.snd.2.1 i_1)])/\((B7 t.1/\t.2.1.n<=A90/\(∀(k:Nat),k<t.2.1.n->BH (t.2.1.g k)=true)/\t.snd.2.1<=t.1.n/\Js t.snd.snd.2.1=t.snd.2.1/\HP t.2.1.n t.snd.2.1
 t.snd.snd.snd.snd.snd.2.1/\A34<=t.snd.snd.snd.snd.2.1/\t.snd.snd.snd.snd.2.1<=(↑t.snd.2.1:Int)*(16777216:Int))/\t.1.n-t.snd.2.1<rn)/\∀(u:Nat->Int),True->A65/\T A11<t.2.1.n/\A34<=A31/\Ad .i64 A25/\A65/\T A11<t.2.1.n/\Ad .i64 (A11+A57)/\∃(g':Nat×(Nat->Int)),let A50:=(D5 w s i A sum G st g'.1);A11+A57=(↑g'.1 :
 Int)/\A30=A30/\A31=A31/\i=i/\sum=sum/\nat_lit 0=nat_lit 0/\nat_lit 0=nat_lit 0/\SV.ref A3 A16=SV.ref A3 A16/\nat_lit 0=nat_lit 0/\SV.ref A4 A16=SV.ref A4 A16/\nat_lit 0=nat_lit 0/\nat_lit 0=nat_lit 0/\nat_lit 0=nat_lit 0/\A19.fd=A50.fd/\A19.ls=A50.ls/\(A98.n=(BB A50.bt).n/\∀(i_1:Nat),i_1<A98.n -> [I (A98.g i_1)]= [I
 ((BB A50.bt).g i_1)])/\(t.1.n=w.n/\∀(i:Nat),i<t.1.n -> [I (BQ t.snd.snd.2.1 u i)]= [I (BQ A g'.2 i)])/\EV.cl A40 [EV.loc (1000:Nat) A16,EV.loc (1001:Nat) A16,EV.p A29,EV.loc (1002:Nat) A16,EV.p A33,EV.loc (1003:Nat) A16,EV.loc (1004:Nat) A16,EV.loc (1005:Nat) A16]=EV.cl A40 A1/\t.2.1.n=s.n /\
 Af A13 t.2.1.n=Af A13 s.n/\A7/\A84.grain=A38.grain/\Af A13 t.2.1.n=Af A13 s.n/\(∀(x:Int),Ai A103 x=Ai A45 x)/\Af A15 t.2.1.n=Af A15 s.n/\A7/\A85.grain=A37.grain/\Af A15 t.2.1.n=Af A15 s.n/\(∀(x:Int),Ai A104 x=Ai A44 x)/\Af A12 t.2.1.n=Af A12 s.n/\A7/\A86.grain=A39.grain/\Af A12 t.2.1.n=Af A12
 s.n/\(∀(x:Int),Ai A105 x=Ai A46 x)/\Af A17 t.2.1.n=Af A17 s.n/\A7/\A87.grain=A36.grain/\Af A17 t.2.1.n=Af A17 s.n/\(∀(x:Int),Ai A106 x=Ai A43 x)/\(t.2.1.n=s.n/\∀(i_1:Nat),i_1<t.2.1.n->setRow (fun(k:Nat)=>[I (t.snd.snd.snd.snd.snd.2.1 k)]) (T A11) A16 [I (Dv (t.snd.snd.snd.snd.snd.2.1 (T A11)) A25)] i_1 = [I
 (G i_1)])/\g'.1<=s.n/\s.n-g'.1<s.n-g.1))/\(decide (A11<A30)=false->∃(u:Nat->Int),A10.fd=A26.fd/\A10.ls=A26.ls/\(A27.n=A56.n/\∀(i_1:Nat),i_1<A27.n -> [I (A27.g i_1)]= [I (A56.g i_1)])/\EV.cl A40 A1=EV.cl A88 A1/\s.n=s.n/\Af A13 s.n=Af A13 s.n/\A2/\A38.grain=A38.grain/\Af A13 s.n=Af A13 s.n/\A20/\Af
 A15 s.n=Af A15 s.n/\A2/\A37.grain=A37.grain/\Af A15 s.n=Af A15 s.n/\A21/\Af A12 s.n=Af A12 s.n/\A2/\A39.grain=A39.grain/\Af A12 s.n=Af A12 s.n/\A22/\Af A17 s.n=Af A17 s.n/\A2/\A36.grain=A36.grain/\Af A17 s.n=Af A17 s.n/\A23/\A24/\(w.n=w.n/\∀(i:Nat),i<w.n -> [I (BQ A g.2 i)]= [I (BQ A u i)])/\True)))) (by kernel_rfl) (by
  conv=>zeta
  have hp:B7 w/\s.n<=4/\(∀k,k<s.n->BH (s.g k)=true)/\i<=w.n/\Js A=i/\HP s.n i G/\0<=sum/\sum<=(i:Int)*16777216:=hp;have hmu:w.n-i<rn+1:=hmu;obtain⟨hok,hs4,hsv,hi,hA,hG,hs0,hs1⟩:=hp;have hA2:A.length=i:=hA;have hw4:=hok.1;have ei:((i:Int)).toNat=i:=Afy i;have atA:∀(X:Nat->Int) j,j<i->BQ A X j=A.getD j 0:=fun X j hj=>by unfold BQ;rw[if_pos (by omega)]
  refine⟨fun h1=>?_,fun h1=>⟨fun h2=>?_,fun h2=>?_⟩⟩
  ·rw[Ht]at h1;rw[Ae7 w s A G hi h1];exact⟨X,(by(try dsimp only);(repeat' with_reducible apply And.intro)<;>first|with_reducible rfl|with_reducible exact fun _=>rfl|with_reducible exact fun _ _=>rfl|with_reducible exact trivial|exact rfl|(intro _;exact rfl)|(intro _ _;exact rfl)|exact trivial|(intro _ h_;exact absurd h_ (Rc _)))⟩
  ·rw[Ht]at h1;have h2:(i:Int)=(w.n:Int):=of_decide_eq_true h2;obtain rfl:i=w.n:=by omega
   rw[Ae8 w s A G h1];have c1:w.n<=1000000:=by omega
   exact⟨Nat.le_refl _,⟨fun _ _=>rfl,c1⟩,fun _ _=>⟨fun _ _=>rfl,X,(by(try dsimp only);(repeat' with_reducible apply And.intro)<;>first|with_reducible rfl|with_reducible exact hA.symm|with_reducible exact fun _=>rfl|with_reducible exact fun _ _=>rfl|with_reducible exact trivial|(intro j hj;exact congrArg (fun x=>[SV.int .i64 x]) (atA X j hj))|exact rfl|(intro _;exact rfl)|(intro _ _;exact rfl)|exact hA.symm|exact trivial|(intro _ h_;exact absurd h_ (Rc _)))⟩⟩
  ·rw[Ht]at h1;have h2:¬ (i:Int)=(w.n:Int):=of_decide_eq_false h2;have hlt:i<w.n:=by omega
   have hi4:i<4:=by omega
   rw[Ae9 w s A G hlt h1];refine⟨⟨(0,X),(by(try dsimp only);(repeat' with_reducible apply And.intro)<;>first|with_reducible rfl|with_reducible exact Afg _|with_reducible exact congrArg BU.fd (K3 w s i A sum G st).symm|with_reducible exact congrArg BU.ls (K3 w s i A sum G st).symm|with_reducible exact fun _=>rfl|with_reducible exact fun _ _=>rfl|with_reducible exact trivial|(intro j _;exact congrArg (fun x:BU=>[SV.int .i64 ((BB x.bt).g j)]) (K3 w s i A sum G st).symm)|exact rfl|(intro _;exact rfl)|(intro _ _;exact rfl)|exact Afg _|exact congrArg BU.fd (K3 w s i A sum G st).symm|exact congrArg BU.ls (K3 w s i A sum G st).symm|exact congrArg (fun x:BU=>(BB x.bt).n) (K3 w s i A sum G st).symm|exact trivial|(intro _ h_;exact absurd h_ (Rc _)))⟩,fun g hg=>?_⟩;obtain⟨k,Y⟩:=g;dsimp only at hg ⊢;have ek:((k:Int)).toNat=k:=Afy k;rw[ei,ek];refine⟨fun hc=>?_,fun hc=>?_⟩
   ·have hc:(k:Int)<(s.n:Int):=of_decide_eq_true hc;have hk:k<s.n:=by omega
    obtain⟨g0,g1⟩:=hG k hk;obtain⟨wd1,wd2,wd3,wd4⟩:=Ri hi4 g0 g1;obtain⟨wa1,wa2⟩:=AeC hw4 hlt g0 g1;have c0:0<=(k:Int)/\(k:Int)<(s.n:Int):=⟨Af7 _,hc⟩;have ci:0<=(i:Int):=Af7 _;have ci2:0<=(i:Int)/\(i:Int)<(w.n:Int):=by omega
    have k1:Ad .i64 (BJ 1 (i:Int)):=jK;have k2:Ad .i64 ((k:Int)+1):=jK;have k3:Ad .i64 ((i:Int)+1):=jK;have kk:k+1<=s.n:=hk;have mm:s.n-(k+1)<s.n-k:=by omega
    have cn:(k:Int)+1=((k+1:Nat):Int):=by omega
    refine⟨c0,ci2,fun _=>c0,fun _=>hk,fun _=>c0,fun _=>hk,fun _=>ci,fun _=>k1,fun _=>c0,fun _=>c0,(w,(s.g k).grain,Jt (G k) i,⟨(s.g k).w,(s.g k).h⟩),fun _=>(by omega),?_,?_,?_,?_,fun _=>rfl,fun _=>rfl,fun _=>⟨hok,wa1,wa2⟩,fun h=>?_,fun h=>?_⟩
    ·intro _ e;subst e;exact⟨decide_eq_true hk,decide_eq_true hk,rfl,fun _=>rfl⟩
    ·intro _ e;subst e;exact⟨decide_eq_true hk,decide_eq_true hk,rfl,fun _=>rfl⟩
    ·intro _ e;subst e;exact⟨decide_eq_true hk,decide_eq_true hk,rfl,fun _=>rfl⟩
    ·intro _ e;subst e;exact⟨decide_eq_true hk,decide_eq_true hk,rfl,fun _=>rfl⟩
    ·have h:H0 w s G i k=true:=h;have e2:D5 w s i A sum G st k=D5 w s i A sum G st (k+1):=by rw[iM,h];rfl
     exact⟨k2,(k+1,Y),(by(try dsimp only);(repeat' with_reducible apply And.intro)<;>first|with_reducible rfl|with_reducible assumption|with_reducible exact congrArg BU.fd e2|with_reducible exact congrArg BU.ls e2|with_reducible exact fun _=>rfl|with_reducible exact fun _ _=>rfl|with_reducible exact trivial|(intro j _;exact congrArg (fun x:BU=>[SV.int .i64 ((BB x.bt).g j)]) e2)|exact rfl|(intro _;exact rfl)|(intro _ _;exact rfl)|exact cn|exact kk|exact mm|exact congrArg BU.fd e2|exact congrArg BU.ls e2|exact congrArg (fun x:BU=>(BB x.bt).n) e2|exact trivial|(intro _ h_;exact absurd h_ (Rc _)))⟩
    ·have h:H0 w s G i k=false:=h;have e3:DB w s (i+1) (Eh A k) (sum+D4 s G k) (EF G k i) (D5 w s i A sum G st k)=D5 w s i A sum G st (k+1):=by rw[iM,h];rfl
     obtain⟨v1,v2,v3,v4⟩:=AeB (hsv k hk);have ar0:0<=(s.g k).w*(s.g k).h:=Int.mul_nonneg (by omega) (by omega);have ar1:(s.g k).w*(s.g k).h<=4096*4096:=Int.mul_le_mul (by omega) (by omega) (by omega) (by omega);have k4:Ad .i64 ((s.g k).w*(s.g k).h):=jK;have am:0<=D4 s G k/\D4 s G k<=16777216:=by
      unfold D4;cases decide (G k=0)<;>simp only[cond_true,cond_false]<;>omega
     refine⟨⟨c0,hk,fun hz=>?_,fun hz=>?_⟩,fun k2' hk2=>?_⟩
     ·have em:(s.g k).w*(s.g k).h=D4 s G k:=by unfold D4;rw[hz];rfl
      exact⟨c0,c0,k4,k,(by(try dsimp only);(repeat' with_reducible apply And.intro)<;>first|with_reducible rfl|with_reducible assumption|with_reducible exact fun _=>rfl|with_reducible exact fun _ _=>rfl|with_reducible exact trivial|exact rfl|(intro _;exact rfl)|(intro _ _;exact rfl)|exact em|exact trivial|(intro _ h_;exact absurd h_ (Rc _)))⟩
     ·have em:0=D4 s G k:=by unfold D4;rw[hz];rfl
      exact⟨k,(by(try dsimp only);(repeat' with_reducible apply And.intro)<;>first|with_reducible rfl|with_reducible assumption|with_reducible exact fun _=>rfl|with_reducible exact fun _ _=>rfl|with_reducible exact trivial|exact rfl|(intro _;exact rfl)|(intro _ _;exact rfl)|exact em|exact trivial|(intro _ h_;exact absurd h_ (Rc _)))⟩
     ·obtain rfl:k2'=k:=by have:=hk2.1;omega
      have k5:Ad .i64 (sum+D4 s G k2'):=jK;have i1:i+1<=w.n:=hlt;have l1:Js (Eh A k2')=i+1:=by show(A ++ [(k2':Int)]).length=i+1;simp[hA2]
      have hG1:=AeD hi4 hG hk;have s0:0<=sum+D4 s G k2':=by omega
      have s1:sum+D4 s G k2'<=((i+1:Nat):Int)*16777216:=by push_cast;omega
      have m1:w.n-(i+1)<rn:=by omega
      have p0:0<1:=Nat.one_pos;have row1:∀j,j<s.n->setRow (fun k=>[SV.int .i64 (G k)]) k2' 0 [SV.int .i64 (Gl (G k2') (BJ 1 (i:Int)))] j = [SV.int .i64 (EF G k2' i j)]:=fun j _=>by
       unfold setRow EF
       by_cases e:j=k2'
       ·rw[if_pos e,if_pos e];rfl
       ·rw[if_neg e,if_neg e]
      have row2:∀j,j<s.n->setRow (fun k=>[SV.int .i64 (EF G k2' i k)]) k2' 0 [SV.int .i64 (Dv (EF G k2' i k2') (BJ 1 (i:Int)))] j = [SV.int .i64 (G j)]:=fun j _=>by
       unfold setRow
       by_cases e:j=k2'
       ·subst e;rw[if_pos rfl];have:EF G j i j=G j+2 ^ i:=by unfold EF;rw[if_pos rfl];exact wd1
        rw[this,wd2];rfl
       ·rw[if_neg e];have:EF G k2' i j=G j:=by unfold EF;rw[if_neg e]
        dsimp only;rw[this]
      have getS:∀j,j<i->(Eh A k2').getD j 0=A.getD j 0:=fun j hj=>by
       unfold Eh;rw[AS,AS,Af2 (by omega)]
      have len2:(Eh A k2').length=i+1:=l1;have at1:∀j,j<w.n->(if i<=j/\j<i+1 then [SV.int .i64 (k2':Int)]else [SV.int .i64 (BQ A Y j)])= [SV.int .i64 (BQ (Eh A k2') Y j)]:=fun j _=>by
       by_cases e:j<i
       ·rw[if_neg (by omega),atA Y j e];unfold BQ;rw[if_pos (by omega),getS j e]
       ·by_cases e2:j=i
        ·subst e2;rw[if_pos (by omega)];unfold BQ;rw[if_pos (by omega)];have:(Eh A k2').getD j 0=(k2':Int):=by
          unfold Eh;rw[AS,Af6 (by omega),show j-A.length=0 by omega];rfl
         rw[this]
        ·rw[if_neg (by omega)];unfold BQ;rw[if_neg (by omega),if_neg (by omega)]
      have at2:∀(u:Nat->Int) j,j<w.n -> [SV.int .i64 (BQ (Eh A k2') u j)]= [SV.int .i64 (BQ A (fun j=>BQ (Eh A k2') u j) j)]:=fun u j _=>by
       by_cases e:j<i
       ·rw[atA _ j e];unfold BQ;rw[if_pos (by omega),getS j e]
       ·conv=>rhs;unfold BQ
        rw[if_neg (by omega)];unfold BQ;rfl
      repeat' with_reducible apply And.intro
      all_goals first|exact c0.1|exact c0.2|exact hk|exact ci|exact k1|exact k3|exact k5|exact p0|exact i1|exact⟨(w,s,i+1,Eh A k2',Y,sum+D4 s G k2',EF G k2' i,D5 w s i A sum G st k2'),(by(try dsimp only);(repeat' with_reducible apply And.intro)<;>first|with_reducible rfl|with_reducible assumption|with_reducible exact fun _=>rfl|with_reducible exact fun _ _=>rfl|with_reducible exact trivial|(intro u _;exact⟨c0,hk,ci,k1,c0,hk,k2,(k2'+1,fun j=>BQ (Eh A k2') u j),(by(try dsimp only);(repeat' with_reducible apply And.intro)<;>first|with_reducible rfl|with_reducible assumption|with_reducible exact at2 u|with_reducible exact congrArg BU.fd e3|with_reducible exact congrArg BU.ls e3|with_reducible exact fun _=>rfl|with_reducible exact fun _ _=>rfl|with_reducible exact trivial|(intro j _;exact congrArg (fun x:BU=>[SV.int .i64 ((BB x.bt).g j)]) e3)|exact rfl|(intro _;exact rfl)|(intro _ _;exact rfl)|exact cn|exact kk|exact mm|exact row2|exact at2 u|exact congrArg BU.fd e3|exact congrArg BU.ls e3|exact congrArg (fun x:BU=>(BB x.bt).n) e3|exact trivial|(intro _ h_;exact absurd h_ (Rc _)))⟩)|exact rfl|(intro _;exact rfl)|(intro _ _;exact rfl)|exact hok|exact hs4|exact hsv|exact i1|exact l1|exact hG1|exact s0|exact s1|exact m1|exact row1|exact at1|exact trivial|(intro _ h_;exact absurd h_ (Rc _)))⟩
   ·have hc:¬ (k:Int)<(s.n:Int):=of_decide_eq_false hc;obtain rfl:k=s.n:=by omega
    exact⟨Y,(by(try dsimp only);(repeat' with_reducible apply And.intro)<;>first|with_reducible rfl|with_reducible exact fun _=>rfl|with_reducible exact fun _ _=>rfl|with_reducible exact trivial|exact rfl|(intro _;exact rfl)|(intro _ _;exact rfl)|exact trivial|(intro _ h_;exact absurd h_ (Rc _)))⟩)
theorem iW:Ao Tryz.prog 91:=fun args w=>by kernel_rfl
theorem AeL:Dq Tryz.prog 91 I4:=Lu iV ⟨fun t=>rfl,fun t u=>rfl,fun t u=>rfl,fun t u=>⟨rfl,rfl,rfl⟩,.inl rfl,fun k h=>(by cases h)⟩ (fun rn ih=>FE (n:=11) Tryz.func91 (c:=Ah Tryz.f91) (by kernel_rfl) mixed ⟨fun t=>rfl,fun t=>rfl,fun t u=>rfl,fun t u=>rfl,fun t u=>rfl,fun t u=>⟨rfl,rfl⟩,by kernel_rfl,by kernel_rfl⟩ (fun⟨w,s,i,A,X,sum,G,st⟩ hp=>⟨_,AeK rn w s i A X sum G st hp.1 hp.2,⟨show Aa Tryz.prog _ from(Aa.cons AeG AeH Aa.nil),rfl,⟨show Ag Tryz.prog _ from Ag.nil,⟨Aw.no1 (fun _=>rfl),⟨show Bm Tryz.prog _ from(Bm.cons ih iW Bm.nil),show Il Tryz.prog _ from(Il.cons AeI AeJ Il.nil)⟩⟩⟩⟩⟩))
end
def Rj:BU:=⟨false,0,[]⟩
theorem I5 (j g:Nat):(Af j g||decide (g=j))=Af j (g+1):=by
 unfold Af
 by_cases h1:j<g
 ·rw[decide_eq_true h1,decide_eq_true (show j<g+1 by omega)];rfl
 ·by_cases h2:g=j
  ·rw[decide_eq_true h2,decide_eq_true (show j<g+1 by omega),Bool.or_true]
  ·rw[decide_eq_false h1,decide_eq_false h2,decide_eq_false (show ¬ j<g+1 by omega)];rfl
theorem iX (j:Nat):Af j j=false:=decide_eq_false (Nat.lt_irrefl j)
theorem iY (j:Nat):false=Af j 0:=(decide_eq_false (Rc j)).symm
def C5 (w:L.Sq Ab) (s:L.Sq Aj):BU:=DB w s 0 [] 0 (fun _=>0) Rj
section
attribute [local irreducible] D5 DB Fm Cd Ae AW Az Al Dv Gl BJ Af
abbrev K4:Mk:={ T:=(L.Sq Ab)×(L.Sq Aj),U:=Nat,args:=fun t=>(fun w s=>[.p ((.sl 4 w.n (fun i=>[.int .i64 ((w.g i).id),.int .i64 ((w.g i).colour),.int .i64 ((w.g i).grain),.sl 2 (w.g i).ol.n (fun i1=>[.int .i64 (((w.g i).ol.g i1).x),.int .i64 (((w.g i).ol.g i1).y)])]))),.p ((.sl 5 s.n (fun i=>[.int .i64 ((s.g i).id),.int .i64 ((s.g i).colour),.int .i64 ((s.g i).w),.int .i64 ((s.g i).h),.int .i64 ((s.g i).grain)])))]) t.1 t.2,lkeys:=[],keys:=[],lent:=fun t=>(fun w s=>[]) t.1 t.2,pre:=fun t=>(fun w s=>B7 w/\s.n<=4/\(∀k,k<s.n->BH (s.g k)=true)) t.1 t.2,post:=fun t u=>(fun w s=>fun uu=>True) t.1 t.2 u,lent':=fun t u=>(fun w s=>fun uu=>[]) t.1 t.2 u,own:=fun t u=>(fun w s=>fun uu=>[]) t.1 t.2 u,res:=fun t u=>(fun w s=>fun uu=>.p (.tup [.sl 1 (BB (C5 w s).bt).n (fun i=>[.int .i64 ((BB (C5 w s).bt).g i)]),.int .i64 (C5 w s).ls,.bool (C5 w s).fd])) t.1 t.2 u }
theorem AeM (w:L.Sq Ab) (s:L.Sq Aj) (hp:K4.pre (w,s)):vc Tryz.prog ({ muts:=[7,8,9,10,12,13,16,35,40],frz:=B2 [],specs:=AB [],loops:=AV [(5,{ T:=Nat,keep:=[2,3,7,8,9,10,18],keepO:=[7,8,9,10,16],chg:=fun k=>[(19,.p (.int .i64 (k:Int)))],own:=fun k=>[(17,.oblk (Af 0 (k)) 130 [.p ((.sl 4 w.n (fun i=>[.int .i64 ((w.g i).id),.int .i64 ((w.g i).colour),.int .i64 ((w.g i).grain),.sl 2 (w.g i).ol.n (fun i1=>[.int .i64 (((w.g i).ol.g i1).x),.int .i64 (((w.g i).ol.g i1).y)])]))),.p (.int .i64 (s.g 0).grain),.mapv 18]),(18,.omq (Af 0 (k)) 3 27 (Ai (Ae w (s.g 0).grain))),(20,.oblk (Af 1 (k)) 130 [.p ((.sl 4 w.n (fun i=>[.int .i64 ((w.g i).id),.int .i64 ((w.g i).colour),.int .i64 ((w.g i).grain),.sl 2 (w.g i).ol.n (fun i1=>[.int .i64 (((w.g i).ol.g i1).x),.int .i64 (((w.g i).ol.g i1).y)])]))),.p (.int .i64 (s.g 1).grain),.mapv 21]),(21,.omq (Af 1 (k)) 3 27 (Ai (Ae w (s.g 1).grain))),(23,.oblk (Af 2 (k)) 130 [.p ((.sl 4 w.n (fun i=>[.int .i64 ((w.g i).id),.int .i64 ((w.g i).colour),.int .i64 ((w.g i).grain),.sl 2 (w.g i).ol.n (fun i1=>[.int .i64 (((w.g i).ol.g i1).x),.int .i64 (((w.g i).ol.g i1).y)])]))),.p (.int .i64 (s.g 2).grain),.mapv 24]),(24,.omq (Af 2 (k)) 3 27 (Ai (Ae w (s.g 2).grain))),(25,.oblk (Af 3 (k)) 130 [.p ((.sl 4 w.n (fun i=>[.int .i64 ((w.g i).id),.int .i64 ((w.g i).colour),.int .i64 ((w.g i).grain),.sl 2 (w.g i).ol.n (fun i1=>[.int .i64 (((w.g i).ol.g i1).x),.int .i64 (((w.g i).ol.g i1).y)])]))),.p (.int .i64 (s.g 3).grain),.mapv 26]),(26,.omq (Af 3 (k)) 3 27 (Ai (Ae w (s.g 3).grain)))],inv:=fun k=>k<=s.n,mu:=fun k=>s.n-k })],iters:=Bw [],rfs:=AT [],nils:=B3 [],mks:=El [(34,HK),(91,I4)],ren:=fun k=>if k=9 then 27 else if k=7 then 28 else if k=1000 then 9 else if k=1001 then 8 else if k=1002 then 7 else if k=1003 then 10 else if k=1004 then 12 else if k=1005 then 13 else if k=1010 then 16 else if k=1011 then 35 else if k=1012 then 40 else if k=1020 then 17 else if k=1021 then 18 else if k=1022 then 20 else if k=1023 then 21 else if k=1024 then 23 else if k=1025 then 24 else if k=1026 then 25 else if k=1027 then 26 else k,anys:=[1007,1012],pres:=[40],prows:=T1 [(16,{ bs:=[17,18,20,21,23,24,25,26],t:=130,kt:=3,vt:=27,head:=fun j=>[(.sl 4 w.n (fun i=>[.int .i64 ((w.g i).id),.int .i64 ((w.g i).colour),.int .i64 ((w.g i).grain),.sl 2 (w.g i).ol.n (fun i1=>[.int .i64 (((w.g i).ol.g i1).x),.int .i64 (((w.g i).ol.g i1).y)])])),.int .i64 (s.g j).grain],val:=fun j=>Ai (Ae w (s.g j).grain) })] }) (Ah Tryz.f49) (D7 Tryz.f49 (K4.args (w,s)) (K4.lent (w,s))) (Fx Tryz.prog Tryz.f49 K4 (w,s)):=
  @Eq.mpr _ (let I:=SV.int .i64;let T:=Af1;let A59:=(4:Nat);let A58:=(1:Int);let A57:=(140737488355328:Int);let A34:=(↑w.n:Int);let A31:=(C5 w s);let A39:=(BB A31.bt);let A23:=(0:Int);let A28:=(A23<=A23/\A23<=A34/\A34*(↑(nat_lit 8):Int)<=A57);let A16:=(3:Nat);let A32:=(s.g A16);let A20:=(Ae w A32.grain);let A37:=(∀
 (x:Int),Ai A20 x=Ai A20 x);let A15:=(↑s.n:Int);let A30:=(A23<=A15/\A15<=A15/\A15*(↑(nat_lit 8):Int)<=A57);let A13:=(nat_lit 0);let A12:=(2:Nat);let A33:=(s.g A12);let A19:=(Ae w A33.grain);let A36:=(∀(x:Int),Ai A19 x=Ai A19 x);let A9:=(1:Nat);let A22:=(Ae w (s.g A9).grain);let A35:=(∀(x:Int),Ai A22 x=Ai
 A22 x);let A8:=(0:Nat);let A54:=(s.g (A8+A9+A9+A9));let A18:=(Ae w (s.g A8).grain);let A29:=(∀(x:Int),Ai A18 x=Ai A18 x);let A7:=[SV.sl (nat_lit 5) s.n fun(i:Nat)=>[I (s.g i).id,I (s.g i).colour,I (s.g i).w,I (s.g i).h,I (s.g i).grain]];let A2:=[SV.sl (nat_lit 4) w.n fun(i:Nat)=>[I (w.g i).id,I (w.g i).colour,I (w.g i).grain,
 SV.sl A12 (w.g i).ol.n fun(i1:Nat)=>[I ((w.g i).ol.g i1).x,I ((w.g i).ol.g i1).y]]];let A17:=[EV.loc (nat_lit 9) A13,EV.loc (nat_lit 8) A13,EV.p (SV.ref A2 A13),EV.loc (nat_lit 7) A13,EV.p (SV.ref A7 A13),EV.loc (nat_lit 10) A13,EV.loc (nat_lit 12) A13,EV.loc (nat_lit 13) A13];let A1:=(w.n=w.n/\∀(i:Nat),let
 A26:=[I (w.g i).id,I (w.g i).colour,I (w.g i).grain,SV.sl A12 (w.g i).ol.n fun(i1:Nat)=>[I ((w.g i).ol.g i1).x,I ((w.g i).ol.g i1).y]];i<w.n->A26=A26);A30/\A12*T A15<=A8+A9+A9+A9+A9+A9+A9+A9+A9/\(∃(g:Nat),A23=(↑g:Int)/\false=Af A8 g/\A1/\(s.g A8).grain=(s.g A8).grain/\false=Af A8 g/\A29/\false=Af A9 g/\A1
 /\ (s.g (A8+A9)).grain=(s.g A9).grain/\false=Af A9 g/\(∀(x:Int),Ai (Ae w (s.g (A8+A9)).grain) x=Ai A22 x)/\false=Af A12 g/\A1/\(s.g (A8+A9+A9)).grain=A33.grain/\false=Af A12 g/\(∀(x:Int),Ai (Ae w (s.g (A8+A9+A9)).grain) x=Ai A19 x)/\false=Af A16 g/\A1/\A54.grain=A32.grain/\false =
 Af A16 g/\(∀(x:Int),Ai (Ae w A54.grain) x=Ai A20 x)/\g<=s.n)/\∀(g:Nat),let A14:=(↑g:Int);let A38:=(A23<=A14/\A14<(↑(T A15):Int));let A27:=(Af A8 g||decide (T A14=A8));let A25:=(Af A9 g||decide (T A14=A8+A9));let A24:=(Af A12 g||decide (T A14=A8+A9+A9));let A21:=(Af A16 g ||
 decide (T A14=A8+A9+A9+A9));g<=s.n->(decide (A14<A15)=true->(A23<=A14/\A14<A15)/\(∃(t:L.Sq Ab×Int×(Int->L.Sq Ac)),let A3:=(t.1.n=w.n/\∀(i:Nat),let A44:=(t.1.g i);i<t.1.n -> [I A44.id,I A44.colour,I A44.grain,SV.sl A12 A44.ol.n fun(i1:Nat)=>[I (A44.ol.g i1).x,I (A44.ol.g i1).y]]= [I (w.g i).id,I (w.g
 i).colour,I (w.g i).grain,SV.sl A12 (w.g i).ol.n fun(i1:Nat)=>[I ((w.g i).ol.g i1).x,I ((w.g i).ol.g i1).y]]);(w.n=t.1.n/\∀(i:Nat),let A45:=(t.1.g i);i<w.n -> [I (w.g i).id,I (w.g i).colour,I (w.g i).grain,SV.sl A12 (w.g i).ol.n fun(i1:Nat)=>[I ((w.g i).ol.g i1).x,I ((w.g i).ol.g i1).y]]= [I A45.id,I A45.colour,I A45.grain,SV.sl A12 A45.ol.n fun(i1
:Nat)=>[I (A45.ol.g i1).x,I (A45.ol.g i1).y]])/\(s.g (T A14)).grain=t.2.1/\True/\∀(u:Nat),True->A38/\T A14<T A15/\(T A14=A8->Af A8 g=false/\Af A8 g=false/\(∀(x:Int),false=true->Ai t.2.2 x=Ai A18 x)/\A3/\t.2.1=(s.g A8).grain)/\(T A14=A8+A9->Af A9 g=false/\Af A9 g=false/\(∀(x:Int),false
 = true->Ai t.2.2 x=Ai A22 x)/\A3/\t.2.1=(s.g A9).grain)/\(T A14=A8+A9+A9->Af A12 g=false/\Af A12 g=false/\(∀(x:Int),false=true->Ai t.2.2 x=Ai A19 x)/\A3/\t.2.1=A33.grain)/\(T A14=A8+A9+A9+A9->Af A16 g=false/\Af A16 g=false/\(∀(x:Int),false=true->Ai t.2.2 x =
 Ai A20 x)/\A3/\t.2.1=A32.grain)/\Ad .i64 (A14+A58)/\∃(g':Nat),A14+A58=(↑g':Int)/\A15=A15/\nat_lit 0=nat_lit 0/\nat_lit 0=nat_lit 0/\nat_lit 0=nat_lit 0/\nat_lit 0=nat_lit 0/\SV.ref A7 A13=SV.ref A7 A13/\SV.ref A2 A13=SV.ref A2 A13/\A27=Af A8 g'/\A1/\(s.g A8).grain=(s.g A8).grain/\A27=Af A8 g' /\
 A29/\A25=Af A9 g'/\A1/\(s.g A9).grain=(s.g A9).grain/\A25=Af A9 g'/\A35/\A24=Af A12 g'/\A1/\A33.grain=A33.grain/\A24=Af A12 g'/\A36/\A21=Af A16 g'/\A1/\A32.grain=A32.grain/\A21=Af A16 g'/\A37/\T A15=T A15/\false=false/\A23=A23/\Value.slice Af5 A8 A8=Value.slice Af5 A8 A8/\g'<=s.n/\s.n-g'<s.n
 - g)/\∃(t:L.Sq Ab×Int×(Int->L.Sq Ac)),let A4:=(t.1.n=w.n/\∀(i:Nat),let A46:=(t.1.g i);i<t.1.n -> [I A46.id,I A46.colour,I A46.grain,SV.sl A12 A46.ol.n fun(i1:Nat)=>[I (A46.ol.g i1).x,I (A46.ol.g i1).y]]= [I (w.g i).id,I (w.g i).colour,I (w.g i).grain,SV.sl A12 (w.g i).ol.n fun(i1:Nat)=>[I ((w.g i).ol.g i1).x,I ((w.g i).ol.g i1).y]]);(w.n
 = t.1.n/\∀(i:Nat),let A47:=(t.1.g i);i<w.n -> [I (w.g i).id,I (w.g i).colour,I (w.g i).grain,SV.sl A12 (w.g i).ol.n fun(i1:Nat)=>[I ((w.g i).ol.g i1).x,I ((w.g i).ol.g i1).y]]= [I A47.id,I A47.colour,I A47.grain,SV.sl A12 A47.ol.n fun(i1:Nat)=>[I (A47.ol.g i1).x,I (A47.ol.g i1).y]])/\(s.g (T A14)).grain=t.2.1/\True/\∀(u:Nat),True->A38/\T A14<T A15
 /\ (T A14=A8->Af A8 g=false/\Af A8 g=false/\(∀(x:Int),false=true->Ai t.2.2 x=Ai A18 x)/\A4/\t.2.1=(s.g A8).grain)/\(T A14=A8+A9->Af A9 g=false/\Af A9 g=false/\(∀(x:Int),false=true->Ai t.2.2 x=Ai A22 x)/\A4/\t.2.1=(s.g A9).grain)/\(T A14=A8+A9+A9->Af A12 g=false /\
 Af A12 g=false/\(∀(x:Int),false=true->Ai t.2.2 x=Ai A19 x)/\A4/\t.2.1=A33.grain)/\(T A14=A8+A9+A9+A9->Af A16 g=false/\Af A16 g=false/\(∀(x:Int),false=true->Ai t.2.2 x=Ai A20 x)/\A4/\t.2.1=A32.grain)/\Ad .i64 (A14+A58)/\∃(g':Nat),A14+A58=(↑g':Int)/\A15=A15 /\
 nat_lit 0=nat_lit 0/\nat_lit 0=nat_lit 0/\nat_lit 0=nat_lit 0/\nat_lit 0=nat_lit 0/\SV.ref A7 A13=SV.ref A7 A13/\SV.ref A2 A13=SV.ref A2 A13/\A27=Af A8 g'/\A1/\(s.g A8).grain=(s.g A8).grain/\A27=Af A8 g'/\A29/\A25=Af A9 g'/\A1/\(s.g A9).grain=(s.g A9).grain/\A25=Af A9 g'/\A35/\A24=Af A12 g'/\A1/\A33.grain =
 A33.grain/\A24=Af A12 g'/\A36/\A21=Af A16 g'/\A1/\A32.grain=A32.grain/\A21=Af A16 g'/\A37/\T A15=T A15/\false=false/\A23=A23/\Value.slice Af5 A8 A8=Value.slice Af5 A8 A8/\g'<=s.n/\s.n-g'<s.n-g)/\(decide (A14<A15)=false->A30/\(A28/\∃(t:L.Sq Ab×L.Sq Aj×Nat×List Int×(Nat->Int) ×
 Int×(Nat->Int)×BU),let A10:=(DB t.1 t.2.1 t.snd.2.1 t.snd.snd.2.1 t.snd.snd.snd.snd.2.1 t.snd.snd.snd.snd.snd.2.1 t.snd.snd.snd.snd.snd.2.2);let A55:=(BB A10.bt);let A5:=(w.n=t.1.n/\∀(i:Nat),let A48:=(t.1.g i);i<w.n -> [I (w.g i).id,I (w.g i).colour,I (w.g i).grain,SV.sl A12 (w.g i).ol.n fun(i1:Nat)=>[I ((w.g i).ol.g i1).x,I ((w.g i).ol.g i1).y]] =
 [I A48.id,I A48.colour,I A48.grain,SV.sl A12 A48.ol.n fun(i1:Nat)=>[I (A48.ol.g i1).x,I (A48.ol.g i1).y]]);A23=(↑t.snd.2.1:Int)/\nat_lit 0=t.snd.2.1/\A23=t.snd.snd.snd.snd.2.1/\nat_lit 0=A8/\nat_lit 0=A8/\SV.ref A2 A13=SV.ref [SV.sl A59 t.1.n fun(i:Nat)=>let A49:=(t.1.g i);[I A49.id,I A49.colour,I A49.grain,SV.sl A12 A49.ol.n fun
 (i1:Nat)=>[I (A49.ol.g i1).x,I (A49.ol.g i1).y]]] A8/\nat_lit 0=A8/\SV.ref A7 A13=SV.ref [SV.sl (5:Nat) t.2.1.n fun(i:Nat)=>let A40:=(t.2.1.g i);[I A40.id,I A40.colour,I A40.w,I A40.h,I A40.grain]] A8/\nat_lit 0=A8/\nat_lit 0=A8/\nat_lit 0=A8/\false=t.snd.snd.snd.snd.snd.2.2.fd/\A23=t.snd.snd.snd.snd.snd.2.2.ls/\(BB
 t.snd.snd.snd.snd.snd.2.2.bt).n=A8/\EV.cl (nat_lit 91) A17=EV.cl (91:Nat) [EV.loc (9:Nat) A13,EV.loc (8:Nat) A13,EV.p (SV.ref [SV.sl (nat_lit 4) t.1.n fun(i:Nat)=>let A50:=(t.1.g i);[I A50.id,I A50.colour,I A50.grain,SV.sl A12 A50.ol.n fun(i1:Nat)=>[I (A50.ol.g i1).x,I (A50.ol.g i1).y]]] A13),EV.loc (7:Nat) A13,
 EV.p (SV.ref [SV.sl (nat_lit 5) t.2.1.n fun(i:Nat)=>let A41:=(t.2.1.g i);[I A41.id,I A41.colour,I A41.w,I A41.h,I A41.grain]] A13),EV.loc (10:Nat) A13,EV.loc (12:Nat) A13,EV.loc (13:Nat) A13]/\T A15=t.2.1.n/\Af A8 g=Af A8 t.2.1.n/\A5/\(s.g A8).grain=(t.2.1.g A8).grain/\Af A8 g=Af A8 t.2.1.n/\(∀(x:Int),Ai
 A18 x=Ai (Ae t.1 (t.2.1.g A8).grain) x)/\Af A9 g=Af A9 t.2.1.n/\A5/\(s.g A9).grain=(t.2.1.g A9).grain/\Af A9 g=Af A9 t.2.1.n/\(∀(x:Int),Ai A22 x=Ai (Ae t.1 (t.2.1.g A9).grain) x)/\Af A12 g=Af A12 t.2.1.n/\A5/\A33.grain=(t.2.1.g A12).grain/\Af A12 g=Af A12 t.2.1.n/\(∀(x:Int),Ai A19 x=Ai (Ae t.1
 (t.2.1.g A12).grain) x)/\Af A16 g=Af A16 t.2.1.n/\A5/\A32.grain=(t.2.1.g A16).grain/\Af A16 g=Af A16 t.2.1.n/\(∀(x:Int),Ai A20 x=Ai (Ae t.1 (t.2.1.g A16).grain) x)/\(T A15=t.2.1.n/\∀(i:Nat),i<T A15 -> [I A23]= [I (t.snd.snd.snd.snd.snd.2.1 i)])/\(T A34=t.1.n/\∀(i:Nat),i<T A34 -> [I A23]= [I (BQ t.snd.snd.2.1 t.snd.snd.snd.2.1 i)])
 /\ (B7 t.1/\t.2.1.n<=A59/\(∀(k:Nat),k<t.2.1.n->BH (t.2.1.g k)=true)/\t.snd.2.1<=t.1.n/\Js t.snd.snd.2.1=t.snd.2.1/\HP t.2.1.n t.snd.2.1 t.snd.snd.snd.snd.snd.2.1/\A23<=t.snd.snd.snd.snd.2.1/\t.snd.snd.snd.snd.2.1<=(↑t.snd.2.1:Int)*(16777216:Int))/\∀(u:Nat->Int),True->∃(u:Nat),(A55.n=A39.n/\∀(i:Nat),i<A55.n -> [I (A55.g i)]= [I
 (A39.g i)])/\A10.ls=A31.ls/\A10.fd=A31.fd/\True)/\A28/\∃(t:L.Sq Ab×L.Sq Aj×Nat×List Int×(Nat->Int)×Int×(Nat->Int)×BU),let A11:=(DB t.1 t.2.1 t.snd.2.1 t.snd.snd.2.1 t.snd.snd.snd.snd.2.1 t.snd.snd.snd.snd.snd.2.1 t.snd.snd.snd.snd.snd.2.2);let A56:=(BB A11.bt);let A6:=(w.n=t.1.n/\∀(i:Nat),let A51:=(t.1.g i);i<w.n -> [I (w.g i).id,I
 (w.g i).colour,I (w.g i).grain,SV.sl A12 (w.g i).ol.n fun(i1:Nat)=>[I ((w.g i).ol.g i1).x,I ((w.g i).ol.g i1).y]]= [I A51.id,I A51.colour,I A51.grain,SV.sl A12 A51.ol.n fun(i1:Nat)=>[I (A51.ol.g i1).x,I (A51.ol.g i1).y]]);A23=(↑t.snd.2.1:Int)/\nat_lit 0=t.snd.2.1/\A23=t.snd.snd.snd.snd.2.1/\nat_lit 0=A8/\nat_lit 0=A8/\SV.ref A2 A13=SV.ref
 [SV.sl A59 t.1.n fun(i:Nat)=>let A52:=(t.1.g i);[I A52.id,I A52.colour,I A52.grain,SV.sl A12 A52.ol.n fun(i1:Nat)=>[I (A52.ol.g i1).x,I (A52.ol.g i1).y]]] A8/\nat_lit 0=A8/\SV.ref A7 A13=SV.ref [SV.sl (5:Nat) t.2.1.n fun(i:Nat)=>let A42:=(t.2.1.g i);[I A42.id,I A42.colour,I A42.w,I A42.h,I A42.grain]] A8/\nat_lit 0=A8/\nat_lit 0 =
 A8/\nat_lit 0=A8/\false=t.snd.snd.snd.snd.snd.2.2.fd/\A23=t.snd.snd.snd.snd.snd.2.2.ls/\(BB t.snd.snd.snd.snd.snd.2.2.bt).n=A8/\EV.cl (nat_lit 91) A17=EV.cl (91:Nat) [EV.loc (9:Nat) A13,EV.loc (8:Nat) A13,EV.p (SV.ref [SV.sl (nat_lit 4) t.1.n fun(i:Nat)=>let A53:=(t.1.g i);[I A53.id,I A53.colour,I A53.grain,
 SV.sl A12 A53.ol.n fun(i1:Nat)=>[I (A53.ol.g i1).x,I (A53.ol.g i1).y]]] A13),EV.loc (7:Nat) A13,EV.p (SV.ref [SV.sl (nat_lit 5) t.2.1.n fun(i:Nat)=>let A43:=(t.2.1.g i);[I A43.id,I A43.colour,I A43.w,I A43.h,I A43.grain]] A13),EV.loc (10:Nat) A13,EV.loc (12:Nat) A13,EV.loc (13:Nat) A13]/\T A15=t.2.1.n/\Af A8 g =
 Af A8 t.2.1.n/\A6/\(s.g A8).grain=(t.2.1.g A8).grain/\Af A8 g=Af A8 t.2.1.n/\(∀(x:Int),Ai A18 x=Ai (Ae t.1 (t.2.1.g A8).grain) x)/\Af A9 g=Af A9 t.2.1.n/\A6/\(s.g A9).grain=(t.2.1.g A9).grain/\Af A9 g=Af A9 t.2.1.n/\(∀(x:Int),Ai A22 x=Ai (Ae t.1 (t.2.1.g A9).grain) x)/\Af A12 g=Af A12 t.2.1.n/\A6 /\
 A33.grain=(t.2.1.g A12).grain/\Af A12 g=Af A12 t.2.1.n/\(∀(x:Int),Ai A19 x=Ai (Ae t.1 (t.2.1.g A12).grain) x)/\Af A16 g=Af A16 t.2.1.n/\A6/\A32.grain=(t.2.1.g A16).grain/\Af A16 g=Af A16 t.2.1.n/\(∀(x:Int),Ai A20 x=Ai (Ae t.1 (t.2.1.g A16).grain) x)/\(T A15=t.2.1.n/\∀(i:Nat),i<T A15 -> [I A23]= [I
 (t.snd.snd.snd.snd.snd.2.1 i)])/\(T A34=t.1.n/\∀(i:Nat),i<T A34 -> [I A23]= [I (BQ t.snd.snd.2.1 t.snd.snd.snd.2.1 i)])/\(B7 t.1/\t.2.1.n<=A59/\(∀(k:Nat),k<t.2.1.n->BH (t.2.1.g k)=true)/\t.snd.2.1<=t.1.n/\Js t.snd.snd.2.1=t.snd.2.1/\HP t.2.1.n t.snd.2.1 t.snd.snd.snd.snd.snd.2.1/\A23<=t.snd.snd.snd.snd.2.1/\t.snd.snd.snd.snd.2.1<=(↑t.snd.2.1
:Int)*(16777216:Int))/\∀(u:Nat->Int),True->∃(u:Nat),(A56.n=A39.n/\∀(i:Nat),i<A56.n -> [I (A56.g i)]= [I (A39.g i)])/\A11.ls=A31.ls/\A11.fd=A31.fd/\True)) (by kernel_rfl) (by
 conv=>zeta
 have hp:B7 w/\s.n<=4/\(∀k,k<s.n->BH (s.g k)=true):=hp;obtain⟨hok,hs4,hsv⟩:=hp;have hw4:=hok.1;have b1:0<=(s.n:Int):=Af7 _;have b2:(s.n:Int)*8<=140737488355328:=by omega
 have b3:0<=(w.n:Int):=Af7 _;have b4:(w.n:Int)*8<=140737488355328:=by omega
 have b5:2*s.n<=0+1+1+1+1+1+1+1+1:=by omega
 rw[Afy s.n,Afy w.n];refine⟨⟨b1,Af4 _,b2⟩,b5,⟨0,(by(try dsimp only);(repeat' with_reducible apply And.intro)<;>first|with_reducible rfl|with_reducible exact Afg _|with_reducible exact iY _|with_reducible exact fun _=>rfl|with_reducible exact fun _ _=>rfl|with_reducible exact trivial|exact rfl|(intro _;exact rfl)|(intro _ _;exact rfl)|exact Afg _|exact iY _|exact trivial|(intro _ h_;exact absurd h_ (Rc _)))⟩,fun g hg=>?_⟩;rw[Afy g];refine⟨fun hc=>?_,fun hc=>?_⟩
 ·have hc:(g:Int)<(s.n:Int):=of_decide_eq_true hc;have hk:g<s.n:=by omega
  have c0:0<=(g:Int)/\(g:Int)<(s.n:Int):=⟨Af7 _,hc⟩;have k2:Ad .i64 ((g:Int)+1):=jK;have kk:g+1<=s.n:=hk;have mm:s.n-(g+1)<s.n-g:=by omega
  have cn:(g:Int)+1=((g+1:Nat):Int):=by omega
  repeat' with_reducible apply And.intro
  all_goals first|exact c0.1|exact c0.2|exact⟨(w,(s.g g).grain,Ae w (s.g g).grain),(by(try dsimp only);(repeat' with_reducible apply And.intro)<;>first|with_reducible rfl|with_reducible exact fun _=>rfl|with_reducible exact fun _ _=>rfl|with_reducible exact trivial|(intro u _;exact(by(try dsimp only);(repeat' with_reducible apply And.intro)<;>first|with_reducible rfl|with_reducible assumption|with_reducible exact c0.1|with_reducible exact c0.2|with_reducible exact fun _=>rfl|with_reducible exact fun _ _=>rfl|with_reducible exact trivial|(intro e;exact by subst e;exact⟨iX _,iX _,fun _ h=>(by cases h),⟨rfl,fun _ _=>rfl⟩,rfl⟩)|exact⟨g+1,(by(try dsimp only);(repeat' with_reducible apply And.intro)<;>first|with_reducible rfl|with_reducible assumption|with_reducible exact I5 0 g|with_reducible exact I5 1 g|with_reducible exact I5 2 g|with_reducible exact I5 3 g|with_reducible exact fun _=>rfl|with_reducible exact fun _ _=>rfl|with_reducible exact trivial|exact rfl|(intro _;exact rfl)|(intro _ _;exact rfl)|exact cn|exact kk|exact mm|exact I5 0 g|exact I5 1 g|exact I5 2 g|exact I5 3 g|exact trivial|(intro _ h_;exact absurd h_ (Rc _)))⟩|exact rfl|(intro _;exact rfl)|(intro _ _;exact rfl)|exact c0.1|exact c0.2|exact hk|exact k2|exact trivial|(intro _ h_;exact absurd h_ (Rc _))))|exact rfl|(intro _;exact rfl)|(intro _ _;exact rfl)|exact trivial|(intro _ h_;exact absurd h_ (Rc _)))⟩
 ·have hc:¬ (g:Int)<(s.n:Int):=of_decide_eq_false hc;obtain rfl:g=s.n:=by omega
  have z0:(0:Int)<=0:=Af4 _;have og:HP s.n 0 (fun _=>0):=fun k _=>⟨Af4 _,(by show(0:Int)<2 ^ 0;decide)⟩;have at0:∀i,i<w.n -> [SV.int .i64 0]= [SV.int .i64 (BQ [] (fun _=>0) i)]:=fun i _=>by
   unfold BQ;rfl
  have s1:(0:Int)<=((0:Nat):Int)*16777216:=by decide
  repeat' with_reducible apply And.intro
  all_goals first|exact b1|exact b2|exact b3|exact b4|exact z0|exact Af4 _|exact⟨(w,s,0,[],fun _=>0,0,fun _=>0,Rj),(by(try dsimp only);(repeat' with_reducible apply And.intro)<;>first|with_reducible rfl|with_reducible assumption|with_reducible exact Afg _|with_reducible exact fun _=>rfl|with_reducible exact fun _ _=>rfl|with_reducible exact trivial|(intro u _;exact⟨(0:Nat),(by(try dsimp only);(repeat' with_reducible apply And.intro)<;>first|with_reducible rfl|with_reducible exact fun _=>rfl|with_reducible exact fun _ _=>rfl|with_reducible exact trivial|exact rfl|(intro _;exact rfl)|(intro _ _;exact rfl)|exact trivial|(intro _ h_;exact absurd h_ (Rc _)))⟩)|exact rfl|(intro _;exact rfl)|(intro _ _;exact rfl)|exact hok|exact hs4|exact hsv|exact Afg _|exact og|exact z0|exact s1|exact at0|exact trivial|(intro _ h_;exact absurd h_ (Rc _)))⟩)
theorem AeN:Ao Tryz.prog 49:=fun args w=>by kernel_rfl
theorem AeO:Dq Tryz.prog 49 K4:=FE (n:=2) Tryz.func49 (c:=Ah Tryz.f49) (by kernel_rfl) mixed ⟨fun t=>rfl,fun t=>rfl,fun t u=>rfl,fun t u=>rfl,fun t u=>rfl,fun t u=>⟨rfl,rfl⟩,by kernel_rfl,by kernel_rfl⟩ (fun⟨w,s⟩ hp=>⟨_,AeM w s hp,⟨show Aa Tryz.prog _ from Aa.nil,rfl,⟨show Ag Tryz.prog _ from Ag.nil,⟨Aw.no1 (fun _=>rfl),⟨show Bm Tryz.prog _ from(Bm.cons N0 Nz (Bm.cons AeL iW Bm.nil)),FamsOk.none (fun _=>rfl)⟩⟩⟩⟩⟩)
end
def K5 (n:Nat) (l:List Int):Prop:=∀x,x∈l->0<=x/\x<(n:Int)
theorem iZ (w:L.Sq Ab) (s:L.Sq Aj):∀(f i:Nat) (A:List Int) (sum:Int) (G:Nat->Int) (st:BU),K5 s.n A->K5 s.n st.bt->K5 s.n (Fm w s f i A sum G st).bt
 |0,_,_,_,_,_,_,h=>h
 |f+1,i,A,sum,G,st,hA,h=>by
   rw[Fm];split
   ·exact h
   ·split
    ·exact hA
    ·have key : ∀(l : List Nat) (st : BU), (∀k, k∈l->k<s.n)->K5 s.n st.bt->K5 s.n (l.foldl (fun st k =>bif H0 w s G i k then st else Fm w s f (i+1) (Eh A k) (sum+D4 s G k) (EF G k i) st) st).bt :=fun l =>by
      induction l with
      |nil=>intro st _ h;exact h
      |cons k l ih =>
        intro st hl h;rw[List.foldl_cons];refine ih _ (fun k hk=>hl k (List.mem_cons_of_mem _ hk)) ?_;cases H0 w s G i k with
        |true=>exact h
        |false =>
          refine iZ w s f _ _ _ _ _ (fun x hx=>?_) h;unfold Eh at hx;rcases List.mem_append.1 hx with hx|hx
          ·exact hA x hx
          ·have:=hl k (List.mem_cons_self ..);rw[List.mem_singleton.1 hx];omega
     exact key _ st (fun k hk=>Afl.1 hk) h
theorem AeP (w:L.Sq Ab) (s:L.Sq Aj) {i:Nat} (hi:i<(BB (C5 w s).bt).n):0<=(BB (C5 w s).bt).g i/\(BB (C5 w s).bt).g i<(s.n:Int):=by
 have h:K5 s.n (C5 w s).bt:=iZ w s _ _ _ _ _ _ (fun x hx=>by cases hx) (fun x hx=>by cases hx);have hi:i<(C5 w s).bt.length:=hi;have e:(BB (C5 w s).bt).g i=(C5 w s).bt[i]:=by
  show(C5 w s).bt.getD i 0=_;rw[AS,List.getElem?_eq_getElem hi];rfl
 rw[e];exact h _ (List.getElem_mem hi)
theorem jA (w:L.Sq Ab) (s:L.Sq Aj):∀(f i:Nat) (A:List Int) (sum:Int) (G:Nat->Int) (st:BU),A.length=i->(st.bt.length=0\/st.bt.length=w.n)->(Fm w s f i A sum G st).bt.length=0\/(Fm w s f i A sum G st).bt.length=w.n
 |0,_,_,_,_,_,_,h=>h
 |f+1,i,A,sum,G,st,hA,h=>by
   rw[Fm];split
   ·exact h
   ·split
    ·rename_i e;exact .inr (hA.trans e)
    ·have key : ∀(l : List Nat) (st : BU), (st.bt.length = 0\/st.bt.length = w.n)->((l.foldl (fun st k =>bif H0 w s G i k then st else Fm w s f (i+1) (Eh A k) (sum+D4 s G k) (EF G k i) st) st).bt.length = 0\/(l.foldl (fun st k =>bif H0 w s G i k then st else Fm w s f (i+1) (Eh A k) (sum+D4 s G k) (EF G k i) st) st).bt.length = w.n):=fun l =>by
      induction l with
      |nil=>intro st h;exact h
      |cons k l ih =>
        intro st h;rw[List.foldl_cons];refine ih _ ?_;cases H0 w s G i k with
        |true=>exact h
        |false=>exact jA w s f _ _ _ _ _ (by unfold Eh;simp[hA]) h
     exact key _ st h
theorem AeQ (w:L.Sq Ab) (s:L.Sq Aj):(BB (C5 w s).bt).n<=w.n:=by
 have:=jA w s (w.n+1-0) 0 [] 0 (fun _=>0) Rj rfl (.inl rfl);have:(C5 w s).bt.length=0\/(C5 w s).bt.length=w.n:=this;show(C5 w s).bt.length<=w.n;omega
def Rk (s:L.Sq Aj):Prop:=(s.n<=4\/7<s.n)/\s.n<=1000000
def G6 (w:L.Sq Ab) (s:L.Sq Aj):Int:=bif !decide (CY w s true=0)then CY w s true else bif !(C5 w s).fd then 52 else 0
def I6 (w:L.Sq Ab) (s:L.Sq Aj):Nat:=bif decide (G6 w s=0)then(BB (C5 w s).bt).n else 0
def I7 (w:L.Sq Ab) (s:L.Sq Aj):Int:=bif decide (G6 w s=0)then(C5 w s).ls else 0
def Ju (w:L.Sq Ab) (s:L.Sq Aj) (i:Nat):Int:=(s.g ((BB (C5 w s).bt).g i).toNat).id
theorem AeR {s:L.Sq Aj} (h:G1 s=true):∀i,i<s.n->BH (s.g i)=true:=fun i hi=>by
 have:=CQ.1 h i hi;simp only[Bool.not_eq_true']at this;unfold CX at this;cases h1:BH (s.g i)
 ·simp only[h1]at this;cases this
 ·rfl
section
attribute [local irreducible] D5 DB Fm C5 Cd Ae AW Az
def jB (w:(L.Sq Ab)) (s:(L.Sq Aj)):Prop:=Dz w/\Rk s
def jC (w:(L.Sq Ab)) (s:(L.Sq Aj)):SV:=.tup [.sl 1 (I6 w s) (fun i=>[.int .i64 (Ju w s i)]),.int .i64 (I7 w s),.int .i64 (G6 w s)]
def jD:List EV->Option (Prop×SV)
 |[.p (.sl 4 w_n w_g),.p (.sl 5 s_n s_g)]=>some ((∀i,i<w_n->DD (w_g i))/\(∀i,i<s_n->s_g i = [.int .i64 ((CW (s_g i)).id),.int .i64 ((CW (s_g i)).colour),.int .i64 ((CW (s_g i)).w),.int .i64 ((CW (s_g i)).h),.int .i64 ((CW (s_g i)).grain)])/\jB (⟨w_n,fun i=>B6 (w_g i)⟩:(L.Sq Ab)) (⟨s_n,fun i=>CW (s_g i)⟩:(L.Sq Aj)),jC (⟨w_n,fun i=>B6 (w_g i)⟩:(L.Sq Ab)) (⟨s_n,fun i=>CW (s_g i)⟩:(L.Sq Aj)))
 |_=>none
abbrev jE:SE.Spec:=(AK jD)
def AeS:Ak:={ cC with muts:=[40],frz:=B2 [(12,[40])],specs:=AB [(32,N9)],mks:=El [(49,K4)],ren:=fun k=>k,nilsL:=B3 [(8,[(4,40,3,1)])] }
theorem AeT (w:(L.Sq Ab)) (s:(L.Sq Aj)) (hp:jB w s):vc Tryz.prog ({ AeS with loops:=AV [(8,{ T:=Nat,keep:=[1,4,5,27,28],keepO:=[],chg:=fun i=>[(29,.p (.int .i64 (i:Int)))],own:=fun i=>[(40,.row 3 1 i (fun j=>[.int .i64 (Ju w s j)]))],inv:=fun i=>i<=(BB (C5 w s).bt).n,mu:=fun i=>(BB (C5 w s).bt).n-i })],rfs:=AT [] }) (Ah Tryz.f17) (Ap Tryz.f17 [.p (.sl 4 w.n (fun i=>[.int .i64 ((w.g i).id),.int .i64 ((w.g i).colour),.int .i64 ((w.g i).grain),.sl 2 (w.g i).ol.n (fun i1=>[.int .i64 (((w.g i).ol.g i1).x),.int .i64 (((w.g i).ol.g i1).y)])])),.p (.sl 5 s.n (fun i=>[.int .i64 ((s.g i).id),.int .i64 ((s.g i).colour),.int .i64 ((s.g i).w),.int .i64 ((s.g i).h),.int .i64 ((s.g i).grain)]))]) (AJ Tryz.prog Tryz.f17 (jC w s)):=
 @Eq.mpr _ (let I:=SV.int .i64;let T:=Af1;let A16:=(0:Nat);let A14:=(1000000:Nat);let A12:=(L.Sq.mk s.n fun(i:Nat)=>s.g i);let A11:=(0:Int);let A4:=(BB (C5 w s).bt);let A2:=(L.Sq.mk w.n fun(i:Nat)=>Ab.mk (w.g i).id (w.g i).colour (w.g i).grain (L.Sq.mk (w.g i).ol.n fun(i_1:Nat)=>(w.g i).ol.g i_1));let A3:=(!decide (CY A2 A12 true=A11));((∀(i:Nat),i<w.n->∀(i_1:Nat),let A9:=((w.g i).ol.g i_1);i_1<(w.g i).ol.n -> [I A9.x,I A9.y]= [I A9.x,I A9.y])/\(∀(i:Nat),let A5:=[I (s.g i).id,I (s.g i).colour,I (s.g i).w,I (s.g i).h,I (s.g i).grain];i<s.n->A5=A5)/\w.n<=A14/\(∀(i:Nat),i<w.n->(w.g i).ol.n<=A14)/\s.n<=A14)/\(A3=true->I6 w s=A16/\A11=I7 w s/\CY A2 A12 true=G6 w s)/\(A3=false->∃(t:L.Sq Ab×L.Sq Aj),let A7:=(C5 t.1 t.2);let A1:=(BB A7.bt);let A10:=(↑A1.n:Int);(w.n=t.1.n/\∀(i:Nat),let A13:=(t.1.g i);i<w.n -> [I (w.g i).id,I (w.g i).colour,I (w.g i).grain,SV.sl (2:Nat) (w.g i).ol.n fun(i1:Nat)=>[I ((w.g i).ol.g i1).x,I ((w.g i).ol.g i1).y]]= [I A13.id,I A13.colour,I A13.grain,SV.sl (2:Nat) A13.ol.n fun(i1:Nat)=>[I (A13.ol.g i1).x,I (A13.ol.g i1).y]])/\(s.n=t.2.n/\∀(i:Nat),let A15:=(t.2.g i);i<s.n -> [I (s.g i).id,I (s.g i).colour,I (s.g i).w,I (s.g i).h,I (s.g i).grain]= [I A15.id,I A15.colour,I A15.w,I A15.h,I A15.grain])/\(B7 t.1/\t.2.n<=(4:Nat)/\∀(k:Nat),k<t.2.n->BH (t.2.g k)=true)/\∀(u:Nat),True->((!A7.fd)=true->I6 w s=A16/\A11=I7 w s/\(52:Int)=G6 w s)/\((!A7.fd)=false->(∃(g:Nat),A11=(↑g:Int)/\(A16=g/\∀(i:Nat),i<A16 -> []= [I (Ju w s i)])/\g<=A4.n)/\∀(g:Nat),let A8:=(↑g:Int);g<=A4.n->(decide (A8<A10)=true->(A11<=A8/\A8<A10)/\(A11<=A1.g (T A8)/\A1.g (T A8)<(↑s.n:Int))/\(g+nat_lit 1)*nat_lit 8<=(140737488355328:Nat)/\Ad .i64 (A8+(1:Int))/\∃(g':Nat),A8+(1:Int)=(↑g':Int)/\A10=A10/\(A1.n=A1.n/\∀(i:Nat),i<A1.n -> [I (A1.g i)]= [I (A1.g i)])/\A7.ls=A7.ls/\(s.n=s.n/\∀(i:Nat),let A6:=[I (s.g i).id,I (s.g i).colour,I (s.g i).w,I (s.g i).h,I (s.g i).grain];i<s.n->A6=A6)/\(g+nat_lit 1=g'/\∀(i:Nat),i<g+nat_lit 1->AU g (fun(j:Nat)=>[I (Ju w s j)]) (fun(x:Nat)=>[I (s.g (T (A1.g (T A8)))).id]) i = [I (Ju w s i)])/\g'<=A4.n/\A4.n-g'<A4.n-g)/\(decide (A8<A10)=false->(g=I6 w s/\∀(i:Nat),i<g -> [I (Ju w s i)]= [I (Ju w s i)])/\A7.ls=I7 w s/\A11=G6 w s)))) (by kernel_rfl) (by
 conv=>zeta
 obtain⟨hw,hs⟩:=(show Dz w/\Rk s from hp);have fin:∀e,G6 w s=e->e≠0->I6 w s=0/\0=I7 w s/\e=G6 w s:=fun e h h0=>⟨by unfold I6;rw[h,decide_eq_false h0];rfl,by unfold I7;rw[h,decide_eq_false h0];rfl,h.symm⟩;refine⟨⟨fun _ _ _ _=>rfl,fun _ _=>rfl,hw.2.1,hw.2.2,hs.2⟩,fun h=>?_,fun h=>?_⟩
 ·have h:(!decide (CY w s true=0))=true:=h;exact fin _ (by unfold G6;rw[h];rfl) (of_decide_eq_false (Cx h))
 ·have h:(!decide (CY w s true=0))=false:=h;obtain⟨-,v2,-,v4,v5⟩:=Kp (of_decide_eq_true (Ca h));have ok:=Hw hw v4;have s4:s.n<=4:=by have:=hs.1;omega
  refine⟨(w,s),⟨rfl,fun _ _=>rfl⟩,⟨rfl,fun _ _=>rfl⟩,⟨ok,s4,AeR v2⟩,fun _ _=>⟨fun h2=>?_,fun h2=>?_⟩⟩
  ·have h2:(!(C5 w s).fd)=true:=h2;exact fin 52 (by unfold G6;rw[h,h2];rfl) (by decide)
  ·have h2:(!(C5 w s).fd)=false:=h2;have e:G6 w s=0:=by unfold G6;rw[h,h2];rfl
   have eN:I6 w s=(BB (C5 w s).bt).n:=by unfold I6;rw[e];rfl
   have eA:I7 w s=(C5 w s).ls:=by unfold I7;rw[e];rfl
   rw[e,eN,eA];have hl:=AeQ w s;have hw4:=ok.1;dsimp only;refine⟨⟨0,rfl,⟨rfl,fun i hi=>absurd hi (Rc _)⟩,Afg _⟩,fun g hg=>⟨fun hc=>?_,fun hc=>?_⟩⟩
   ·have hc:(g:Int)<((BB (C5 w s).bt).n:Int):=of_decide_eq_true hc;have hlt:g<(BB (C5 w s).bt).n:=by omega
    have hin:=AeP w s hlt;rw[Afy g];refine⟨⟨Af7 _,hc⟩,hin,by show(g+1)*8<=140737488355328;omega,jK,g+1,by omega,rfl,⟨rfl,fun _ _=>rfl⟩,rfl,⟨rfl,fun _ _=>rfl⟩,⟨rfl,fun i hi=>?_⟩,hlt,by omega⟩;unfold AU
    by_cases e:i<g
    ·rw[if_pos e]
    ·rw[if_neg e];obtain rfl:i=g:=by omega
     rfl
   ·have hc:¬ (g:Int)<((BB (C5 w s).bt).n:Int):=of_decide_eq_false hc;exact⟨⟨by omega,fun _ _=>rfl⟩,rfl,rfl⟩)
theorem AeU:Av Tryz.prog 17 jE:=AM Tryz.func17 (c:=Ah Tryz.f17) (by kernel_rfl) mixed (fun args p r hs hp=>by
 unfold jD at hs;split at hs
 ·cases hs;exact⟨_,_,AeT _ _ hp.2.2,(.p (EP hp.1) (.p (.sl hp.2.1) .nil)),⟨show Aa Tryz.prog _ from(Aa.cons Qp Qq Aa.nil),rfl,⟨show Ag Tryz.prog _ from Ag.nil,⟨Aw.no1 (fun _=>rfl),⟨show Bm Tryz.prog _ from(Bm.cons AeO AeN Bm.nil),FamsOk.none (fun _=>rfl)⟩⟩⟩⟩⟩
 ·cases hs)
theorem AeV:Ao Tryz.prog 17:=fun args w=>by kernel_rfl
end
def jF :Prop:=True
def jG :SV:=.bool true
def jH:List EV->Option (Prop×SV)
 |[]=>some (jF , jG )
 |_=>none
abbrev jI:SE.Spec:=(AK jH)
def AeW:Ak:={ cC with specs:=AB [(30,Zo),(31,Zs),(8,Qt),(13,QV),(17,jE),(27,iL)] }
theorem AeX  (hp:jF):vc Tryz.prog (AeW) (Ah Tryz.f6) (Ap Tryz.f6 []) (AJ Tryz.prog Tryz.f6 (jG )):=
 @Eq.mpr _ (let I:=SV.int .i64;let A10:=(1:Int);let A9:=(nat_lit 4);let A7:=(L.Sq.mk (nat_lit 5) fun(i:Nat)=>CA.ol.g i);let A6:=(nat_lit 2);let A5:=(0:Int);let A4:=[I (9:Int),I A10,I (10:Int),I (6:Int),I A5];let A3:=(∀(i:Nat),i<nat_lit 2->DD (BX [I CA.id,I CA.colour,I CA.grain,SV.sl A6 (nat_lit 5) fun(i:Nat)=>[I (CA.ol.g i).x,I (CA.ol.g i).y],I Dk.id,I Dk.colour,I Dk.grain,SV.sl A6 A9 fun(i:Nat)=>[I (Dk.ol.g i).x,I (Dk.ol.g i).y]] A9 i));let A2:=(L.Sq.mk A6 fun(i:Nat)=>B6 (BX [I CA.id,I CA.colour,I CA.grain,SV.sl A6 (nat_lit 5) fun(i:Nat)=>[I (CA.ol.g i).x,I (CA.ol.g i).y],I Dk.id,I Dk.colour,I Dk.grain,SV.sl A6 A9 fun(i:Nat)=>[I (Dk.ol.g i).x,I (Dk.ol.g i).y]] A9 i));let A1:=(A3/\Dz A2);True/\True/\A1/\A1/\(A3/\(∀(i:Nat),i<nat_lit 1->A4=A4)/\Dz A2/\Rk (L.Sq.mk (nat_lit 1) fun(i:Nat)=>Aj.mk (9:Int) A10 (10:Int) (6:Int) A5))/\(A5<=A5/\A5<(↑A6:Int))/\((∀(i:Nat),let A8:=[I (CA.ol.g i).x,I (CA.ol.g i).y];i<nat_lit 5->A8=A8)/\nat_lit 5<=(1000000:Nat)/\(AP A7=true->NU A7))/\(true=true->A5<=A10/\A10<(↑A9:Int))/\(false=true->false=true)/\(false=false->(A5<=A10/\A10<(↑A6:Int))/\(true=true->A5<=A5/\A5<(↑(nat_lit 1):Int))/\true=true)) (by kernel_rfl) (by
 conv=>zeta
 have ok:∀(g:Nat->List SV),g 0 = [.int .i64 CA.id,.int .i64 CA.colour,.int .i64 CA.grain,.sl 2 5 fun(i:Nat)=>[.int .i64 (CA.ol.g i).x,.int .i64 (CA.ol.g i).y]]->g 1 = [.int .i64 Dk.id,.int .i64 Dk.colour,.int .i64 Dk.grain,.sl 2 4 fun(i:Nat)=>[.int .i64 (Dk.ol.g i).x,.int .i64 (Dk.ol.g i).y]]->(∀i,i<2->DD (g i))/\Dz ⟨2,fun i=>B6 (g i)⟩:=fun g h0 h1=>by
  have two:∀i:Nat,i<2->i=0\/i=1:=fun i hi=>by omega
  refine⟨fun i hi=>?_,.inl (show 2<=4 by decide),show 2<=1000000 by decide,fun i hi=>?_⟩
  ·rcases two i hi with rfl|rfl
   ·rw[h0];exact fun _ _=>rfl
   ·rw[h1];exact fun _ _=>rfl
  ·rcases two i hi with rfl|rfl
   ·show(B6 (g 0)).ol.n<=1000000;rw[h0];show 5<=1000000;decide
   ·show(B6 (g 1)).ol.n<=1000000;rw[h1];show 4<=1000000;decide
 have e1:(Fe CA.ol).n=1:=by kernel_rfl
 have e2:(Fe CA.ol).g 0=⟨2,4,8⟩:=by kernel_rfl
 have pk:NU CA.ol:=fun i hi=>by
  rw[e1]at hi;obtain rfl:i=0:=by omega
  rw[e2];show(((0:Int)<=2/\(2:Int)<5)/\((0:Int)<=4/\(4:Int)<5)/\(2:Int)≠4);decide
 refine⟨trivial,trivial,ok _ rfl rfl,ok _ rfl rfl,⟨(ok _ rfl rfl).1,fun _ _=>rfl,(ok _ rfl rfl).2,.inl (show 1<=4 by decide),show 1<=1000000 by decide⟩,by decide,⟨fun _ _=>rfl,by decide,fun _=>pk⟩,fun _=>(by decide),fun h=>(by cases h),fun _=>⟨by decide,fun _=>(by decide),rfl⟩⟩)
theorem AeY:Av Tryz.prog 6 jI:=AM Tryz.func6 (c:=Ah Tryz.f6) (by kernel_rfl) mixed (fun args p r hs hp=>by
 unfold jH at hs;split at hs
 ·cases hs;exact⟨_,_,AeX  hp,.nil,⟨show Aa Tryz.prog _ from(Aa.cons AaC AaD (Aa.cons AaG AaH (Aa.cons Zd Ze (Aa.cons eJ eK (Aa.cons AeU AeV (Aa.cons Ae5 Ae6 Aa.nil)))))),rfl,⟨show Ag Tryz.prog _ from Ag.nil,(Aw.none (fun _=>rfl))⟩⟩⟩
 ·cases hs)
theorem AeZ:Ao Tryz.prog 6:=fun args w=>by kernel_rfl
section
attribute [local irreducible] Az AW Gf Dj CY ED CN Jr CR G4 CH Cg Ds BO CZ Ea
def jJ (w:(L.Sq Ab)) (s:Aj) (k:Int):Prop:=Ad .i64 k
def jL (w:(L.Sq Ab)) (s:Aj) (k:Int):SV:=.bool true
def NV:List EV->Option (Prop×SV)
 |[.p (.sl 4 w_n w_g),.p (.agg [.int .i64 s_id,.int .i64 s_colour,.int .i64 s_w,.int .i64 s_h,.int .i64 s_grain]),.p (.int .i64 k)]=>some ((∀i,i<w_n->DD (w_g i))/\jJ (⟨w_n,fun i=>B6 (w_g i)⟩:(L.Sq Ab)) (⟨s_id,s_colour,s_w,s_h,s_grain⟩:Aj) k,jL (⟨w_n,fun i=>B6 (w_g i)⟩:(L.Sq Ab)) (⟨s_id,s_colour,s_w,s_h,s_grain⟩:Aj) k)
 |_=>none
abbrev Afa:SE.Spec:=(AK NV)
def Afb:Ak:={ cC with specs:=AB [(6,jI),(7,Zw),(8,Qt),(9,aN),(10,Qu),(11,aR),(12,aV),(13,QV),(14,fK),(15,cU),(16,fO)] }
theorem Afc (w:(L.Sq Ab)) (s:Aj) (k:Int) (hp:jJ w s k):vc Tryz.prog (Afb) (Ah Tryz.f3) (Ap Tryz.f3 [.p (.sl 4 w.n (fun i=>[.int .i64 ((w.g i).id),.int .i64 ((w.g i).colour),.int .i64 ((w.g i).grain),.sl 2 (w.g i).ol.n (fun i1=>[.int .i64 (((w.g i).ol.g i1).x),.int .i64 (((w.g i).ol.g i1).y)])])),.p (.agg [.int .i64 s.id,.int .i64 s.colour,.int .i64 s.w,.int .i64 s.h,.int .i64 s.grain]),.p (.int .i64 k)]) (AJ Tryz.prog Tryz.f3 (jL w s k)):=
 @Eq.mpr _ (let I:=SV.int .i64;let A20:=(Gj w s);let A19:=(FO w s);let A17:=(1000000:Nat);let A14:=(Eg w s);let A12:=(L.Sq.mk (Ef w s) fun(i:Nat)=>CR w s i);let A11:=(0:Int);let A5:=(!Gf w (L.Sq.mk (nat_lit 0) fun(i:Nat)=>Aj.mk A11 A11 A11 A11 A11));let A3:=(Ae w k (Az w.n));let A16:=(L.Sq.mk (Ea w k) fun(i:Nat)=>A3.g i);let A6:=(∀(i:Nat),let A18:=[I (A3.g i).w,I (A3.g i).h];i<Ea w k->A18=A18);let A2:=(bif bif bif !decide (Ds w k=Ds w k)then true else !Hx A16 A16 then true else !CZ w s == CZ w s then true else !decide (BO w s=BO w s));let A1:=(∀(i:Nat),i<w.n->∀(i_1:Nat),let A15:=((w.g i).ol.g i_1);i_1<(w.g i).ol.n -> [I A15.x,I A15.y]= [I A15.x,I A15.y]);let A10:=(A1/\Dz w);True/\(A1/\(∀(i:Nat),i<nat_lit 0 -> []= [I A11,I A11,I A11,I A11,I A11])/\True)/\(A5=true->true=true)/\(A5=false->A10/\A10/\A10/\A10/\((!!decide (Ds w k=Ds w k))=true->A6/\A6/\Ea w k<=A17)/\(A2=true->false=true)/\(A2=false->A10/\A10/\((bif true then decide (Ci w s=Ci w s)else false)=true->(∀(i:Nat),let A13:=(CR w s i);let A4:=[I A13.want,I A13.sheet,I A13.turn,I A13.at_.x,I A13.at_.y];i<Ef w s->A4=A4)/\(∀(i:Nat),let A9:=(A19.g i);i<A19.n->Co A9 = [I A9.want,I A9.sheet,I A9.turn,I A9.at_.x,I A9.at_.y])/\Ef w s<=A17)/\((bif bif true then decide (Ci w s=Ci w s)else false then Gi A12 A19 else false)=true->(∀(i:Nat),i<A14.n->∀(i_1:Nat),let A7:=((A14.g i).pts.g i_1);i_1<(A14.g i).pts.n -> [I A7.x,I A7.y]= [I A7.x,I A7.y])/\(∀(i:Nat),i<A20.n->∀(i_1:Nat),let A8:=((A20.g i).pts.g i_1);i_1<(A20.g i).pts.n -> [I A8.x,I A8.y]= [I A8.x,I A8.y])/\A14.n<=A17/\∀(i:Nat),i<A14.n->(A14.g i).pts.n<=A17)/\(bif bif bif true then decide (Ci w s=Ci w s)else false then Gi A12 A19 else false then Hb A14 A20 else false)=true))) (by kernel_rfl) (by
 conv=>zeta
 have ol:∀i,i<w.n->∀j,j<(w.g i).ol.n -> [SV.int .i64 ((w.g i).ol.g j).x,SV.int .i64 ((w.g i).ol.g j).y]= [SV.int .i64 ((w.g i).ol.g j).x,SV.int .i64 ((w.g i).ol.g j).y]:=fun _ _ _ _=>rfl;refine⟨trivial,⟨ol,fun i hi=>absurd hi (Rc _),trivial⟩,fun _=>rfl,fun hf=>?_⟩;have hfew:Gf w (L.Sq.mk 0 fun _=>Aj.mk 0 0 0 0 0)=true:=by
  cases e:Gf w (L.Sq.mk 0 fun _=>Aj.mk 0 0 0 0 0)with
  |true=>rfl
  |false=>rw[e]at hf;cases hf
 obtain⟨hpre,hn20,_,_⟩:=AaQ hfew;have sN:Ea w k<=1000000:=by
  unfold Ea;cases e:decide (Ds w k=0)with
  |false=>exact Afg _
  |true =>
    obtain⟨-,-,-,h7,-⟩:=Kp (show CY w Qn (Ay k 0 2)=0 by have:=of_decide_eq_true e;unfold Ds at this;exact this);have ok:=Hw hpre h7;obtain⟨a1,a2,_,_⟩:=G0 ok.1;exact Nat.le_trans (Hv w k a1 a2) (by decide)
 obtain⟨z1,z2⟩:=Ad4 hpre s;obtain⟨y1,y2,y3⟩:=Ad5 hpre s;have pB:∀b:Bool,(b == b)=true:=fun b=>by cases b<;>rfl
 refine⟨⟨ol,hpre⟩,⟨ol,hpre⟩,⟨ol,hpre⟩,⟨ol,hpre⟩,fun _=>⟨fun _ _=>rfl,fun _ _=>rfl,sN⟩,fun h=>?_,fun _=>⟨⟨ol,hpre⟩,⟨ol,hpre⟩,fun _=>⟨fun _ _=>rfl,fun _ _=>rfl,y1⟩,fun _=>⟨fun _ _ _ _=>rfl,fun _ _ _ _=>rfl,y2,y3⟩,?_⟩⟩
 ·rw[decide_eq_true rfl,decide_eq_true rfl,Abx]at h;revert h;cases CZ w s<;>decide
 ·have z1:Gi (L.Sq.mk (Ef w s) fun i=>CR w s i) (FO w s)=true:=z1;rw[decide_eq_true rfl,z1,z2];rfl)
theorem Afd:Av Tryz.prog 3 Afa:=AM Tryz.func3 (c:=Ah Tryz.f3) (by kernel_rfl) mixed (fun args p r hs hp=>by
 unfold NV at hs;split at hs
 ·cases hs;exact⟨_,_,Afc _ _ _ hp.2,(.p (EP hp.1) (.same _ (.same _ .nil))),⟨show Aa Tryz.prog _ from(Aa.cons AeY AeZ (Aa.cons AaK AaL (Aa.cons Zd Ze (Aa.cons Ab6 Ab7 (Aa.cons Zi Zj (Aa.cons AbA AbB (Aa.cons AbE AbF (Aa.cons eJ eK (Aa.cons Ad8 Ad9 (Aa.cons Ac2 Ac3 (Aa.cons AdC AdD Aa.nil))))))))))),rfl,⟨show Ag Tryz.prog _ from Ag.nil,(Aw.none (fun _=>rfl))⟩⟩⟩
 ·cases hs)
end
end Go.Proofs.YtijidjjfkahojaaGreat
