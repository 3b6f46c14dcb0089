/- A symbolic walk over the model, and what it shows of functions of the program: parts of the proof that the text of the row joins. -/
import Derived.Test.YtpgaejicfbpcmaaGreatW2
import Derived.Test.YtpgaejicfbpcmaaGreatE5
import Derived.KernelRfl
import Derived.Test.YtpgaejicfbpcmaaGreatW3
namespace Go.Proofs.YtpgaejicfbpcmaaGreat
open Go.SE Go.RowKit
set_option maxRecDepth 100000
set_option maxHeartbeats 4000000
set_option linter.unusedVariables false
attribute [local irreducible] vc
structure L.Trg where
 a:Int
 b:Int
 c:Int
def ofTrg:List SV->L.Trg
 | [.int _ a,.int _ b,.int _ c]=>⟨a,b,c⟩
 | _=>⟨0,0,0⟩
def ofSqTrg:List SV->L.Sq L.Trg
 | [.sl _ n g]=>⟨n,fun i=>ofTrg (g i)⟩
 | _=>⟨0,fun _=>⟨0,0,0⟩⟩
def rowTrg:List SV->Prop
 | [.sl 3 n g]=>∀ i,i<n->g i = [.int .i64 (ofTrg (g i)).a,.int .i64 (ofTrg (g i)).b,.int .i64 (ofTrg (g i)).c]
 | _=>False
theorem rowT_len {l:List SV} (h:rowTrg l):l.length=1/\Ext (SV.at l 0) (.sl 3 (ofSqTrg l).n (fun k=>[.int .i64 ((ofSqTrg l).g k).a,.int .i64 ((ofSqTrg l).g k).b,.int .i64 ((ofSqTrg l).g k).c])):=by
 unfold rowTrg at h
 split at h
 ·rename_i n g
  exact ⟨rfl,.sl h⟩
 ·exact h.elim
def L.thr (a b c:L.Sq L.Trg) (i:Nat):L.Sq L.Trg:=bif decide (i=0) then a else bif decide (i=1) then b else c
theorem rows3_ext {g:Nat->List SV} (h:rowTrg (g 0)/\rowTrg (g 1)/\rowTrg (g 2)):Ext (.sl 1 3 g) (.sl 1 3 (fun i=>[.sl 3 (L.thr (ofSqTrg (g 0)) (ofSqTrg (g 1)) (ofSqTrg (g 2)) i).n (fun k=>[.int .i64 ((L.thr (ofSqTrg (g 0)) (ofSqTrg (g 1)) (ofSqTrg (g 2)) i).g k).a,.int .i64 ((L.thr (ofSqTrg (g 0)) (ofSqTrg (g 1)) (ofSqTrg (g 2)) i).g k).b,.int .i64 ((L.thr (ofSqTrg (g 0)) (ofSqTrg (g 1)) (ofSqTrg (g 2)) i).g k).c])])):=by
 have key:∀ i,i<3->rowTrg (g i)/\L.thr (ofSqTrg (g 0)) (ofSqTrg (g 1)) (ofSqTrg (g 2)) i=ofSqTrg (g i):=fun i hi=>by
  match i,hi with
  | 0,_=>exact ⟨h.1,rfl⟩
  | 1,_=>exact ⟨h.2.1,rfl⟩
  | 2,_=>exact ⟨h.2.2,rfl⟩
 refine .sl2 (fun i hi=>(rowT_len (key i hi).1).1.symm) (fun i hi j hj=>?_)
 rw [(rowT_len (key i hi).1).1] at hj
 obtain rfl:j=0:=by omega
 rw [(key i hi).2]
 exact (rowT_len (key i hi).1).2
def L.catT (c:Nat->L.Sq L.Trg):Nat->L.Sq L.Trg
 | 0=>⟨0,fun _=>⟨0,0,0⟩⟩
 | i+1=>⟨(L.catT c i).n+(c i).n,fun k=>bif decide (k<(L.catT c i).n) then (L.catT c i).g k else (c i).g (k - (L.catT c i).n)⟩
def L.bdP (p:L.Pt):Prop:=0 <= p.x/\p.x <= 4096/\0 <= p.y/\p.y <= 4096
def L.lfC (u m v:L.Pt):Int:=(v.x - u.x) * (m.y - u.y) - (v.y - u.y) * (m.x - u.x)
def L.lfD (u m v:L.Pt):Int:=(m.x - u.x) * (v.x - m.x)+(m.y - u.y) * (v.y - m.y)
def L.lfF (u v:L.Pt):Int:=(v.x - u.x) * (v.x - u.x)+(v.y - u.y) * (v.y - u.y)
def L.lawf (u m v:L.Pt) (bite:Int):Bool:=bif bif !decide (L.lfC u m v=0) then decide (max (L.lfC u m v) (0 - L.lfC u m v) <= L.lfD u m v) else false then decide (L.lfC u m v * L.lfC u m v <= bite * bite * L.lfF u v) else false
def L.rowD (n:Int) (p:L.Pocket):Nat:=((p.to_ - p.fr) % n).toNat
def L.rowI (n:Int) (p:L.Pocket) (i:Nat):Int:=(p.fr+(i:Int)) % n
def L.okPk (n:Int) (p:L.Pocket):Prop:=(0 <= p.fr/\p.fr<n)/\(0 <= p.to_/\p.to_<n)/\p.fr ≠ p.to_
theorem rowI_cases {n:Int} {p:L.Pocket} (h:L.okPk n p) {i:Nat} (hi:(i:Int)<n):L.rowI n p i=if p.fr+(i:Int)<n then p.fr+(i:Int) else p.fr+(i:Int) - n:=by
 obtain ⟨⟨h1,h2⟩,_⟩:=h
 unfold L.rowI
 split
 ·exact Int.emod_eq_of_lt (by omega) (by omega)
 ·rw [show p.fr+(i:Int)=p.fr+(i:Int) - n+n by omega,Int.add_emod_right,Int.emod_eq_of_lt (by omega) (by omega)];omega
theorem rowD_cases {n:Int} {p:L.Pocket} (h:L.okPk n p):(L.rowD n p:Int)=if p.fr<p.to_ then p.to_ - p.fr else p.to_ - p.fr+n:=by
 obtain ⟨⟨h1,h2⟩,⟨h3,h4⟩,h5⟩:=h
 unfold L.rowD
 rw [Int.toNat_of_nonneg (Int.emod_nonneg _ (by omega))]
 split
 ·exact Int.emod_eq_of_lt (by omega) (by omega)
 ·have e:(p.to_ - p.fr) % n=(p.to_ - p.fr+n) % n:=(Int.add_emod_right _ _).symm
  rw [e,Int.emod_eq_of_lt (by omega) (by omega)]
theorem row_facts {n:Int} {p:L.Pocket} (h:L.okPk n p):1 <= L.rowD n p/\(L.rowD n p:Int)<n/\L.rowI n p 0=p.fr/\L.rowI n p (L.rowD n p)=p.to_/\(∀ i,i <= L.rowD n p->0 <= L.rowI n p i/\L.rowI n p i<n)/\(∀ i,i <= L.rowD n p->L.rowI n p i=p.to_->i=L.rowD n p) /\ ∀ i,i<L.rowD n p->Int.tmod (L.rowI n p i+1) n=L.rowI n p (i+1):=by
 have hD:=rowD_cases h
 obtain ⟨⟨h1,h2⟩,⟨h3,h4⟩,h5⟩:=h
 have hlt:(L.rowD n p:Int)<n:=by split at hD <;> omega
 have h1':1 <= L.rowD n p:=by split at hD <;> omega
 have hr:∀ i,i <= L.rowD n p->0 <= L.rowI n p i/\L.rowI n p i<n:=fun i hi=>⟨Int.emod_nonneg _ (by omega),Int.emod_lt_of_pos _ (by omega)⟩
 refine ⟨h1',hlt,?_,?_,hr,fun i hi e=>?_,fun i hi=>?_⟩
 ·rw [rowI_cases ⟨⟨h1,h2⟩,⟨h3,h4⟩,h5⟩ (by omega)];split <;> omega
 ·rw [rowI_cases ⟨⟨h1,h2⟩,⟨h3,h4⟩,h5⟩ hlt];split <;> split at hD <;> omega
 ·rw [rowI_cases ⟨⟨h1,h2⟩,⟨h3,h4⟩,h5⟩ (by omega)] at e
  split at e <;> split at hD <;> omega
 ·have:=hr i (by omega)
  rw [Int.tmod_eq_emod_of_nonneg (by omega)]
  unfold L.rowI
  rw [Int.emod_add_emod]
  congr 1
  push_cast;omega
def L.hol (l:L.Sq L.Pt) (p:L.Pocket):Bool:=!L.anyB (L.rowD l.n p - 1) fun i=>decide (0<L.bend l (L.rowI l.n p (1+i)).toNat)
def L.fs {α:Type} (f:Nat->Option α):Nat->Option α
 | 0=>none
 | n+1=>match L.fs f n with
   | some x=>some x
   | none=>f n
theorem fs_none {α:Type} {f:Nat->Option α}:∀ {n},(∀ k,k<n->f k=none)->L.fs f n=none
 | 0,_=>rfl
 | n+1,h=>by rw [L.fs,fs_none (fun k hk=>h k (by omega))];exact h n (by omega)
theorem fs_at {α:Type} {f:Nat->Option α} {k:Nat} {x:α} (hf:f k=some x) (h:∀ j,j<k->f j=none):∀ {n},k<n->L.fs f n=some x
 | 0,hk=>by omega
 | n+1,hk=>by
   rw [L.fs]
   by_cases e:k=n
   ·subst e;rw [fs_none h];exact hf
   ·rw [fs_at hf h (n:=n) (by omega)]
theorem fs_congr {α:Type} {f g:Nat->Option α}:∀ {n},(∀ k,k<n->f k=g k)->L.fs f n=L.fs g n
 | 0,_=>rfl
 | n+1,h=>by rw [L.fs,L.fs,fs_congr (fun k hk=>h k (by omega)),h n (by omega)]
def L.dvdM (f:Nat->Nat->Option (List L.Trg)) (lw:Nat->Nat->Nat->Bool) (r:Nat->Int) (a b m:Nat):Option (List L.Trg):=bif lw a m b then (match f a m with | none=>none | some x=>match f m b with | none=>none | some y=>some (⟨r a,r m,r b⟩ :: (x ++ y))) else none
def L.dvd (lw:Nat->Nat->Nat->Bool) (r:Nat->Int):Nat->Nat->Nat->Option (List L.Trg)
 | 0,_,_=>none
 | n+1,a,b=>if b=a+1 then some [] else L.fs (fun k=>L.dvdM (L.dvd lw r n) lw r a b (a+1+k)) (b - a - 1)
theorem dvd_fuel (lw:Nat->Nat->Nat->Bool) (r:Nat->Int):∀ (n m a b:Nat),a<b->b - a <= n->b - a <= m->L.dvd lw r n a b=L.dvd lw r m a b
 | 0,_,a,b,h,h1,_=>by omega
 | n+1,0,a,b,h,_,h1=>by omega
 | n+1,m+1,a,b,h,h1,h2=>by
   rw [L.dvd,L.dvd]
   by_cases e:b=a+1
   ·rw [if_pos e,if_pos e]
   ·rw [if_neg e,if_neg e]
    refine fs_congr fun k hk=>?_
    unfold L.dvdM
    rw [dvd_fuel lw r n m a (a+1+k) (by omega) (by omega) (by omega),dvd_fuel lw r n m (a+1+k) b (by omega) (by omega) (by omega)]
def L.dvL (l:L.Sq L.Pt) (r:L.Sq Int) (bite:Int) (a m b:Nat):Bool:=L.lawf (l.g (r.g a).toNat) (l.g (r.g m).toNat) (l.g (r.g b).toNat) bite
def L.dvF2 (l:L.Sq L.Pt) (r:L.Sq Int) (bite:Int) (a b:Nat):Option (List L.Trg):=L.dvd (L.dvL l r bite) r.g r.n a b
def L.dvM2 (l:L.Sq L.Pt) (r:L.Sq Int) (bite:Int) (a b m:Nat):Option (List L.Trg):=L.dvdM (L.dvF2 l r bite) (L.dvL l r bite) r.g a b m
theorem dvF2_1 (l:L.Sq L.Pt) (r:L.Sq Int) (bite:Int) {a b:Nat} (h:b=a+1) (hb:b<r.n):L.dvF2 l r bite a b=some []:=by
 unfold L.dvF2
 obtain ⟨n,e⟩:∃ n,r.n=n+1:=⟨r.n - 1,by omega⟩
 rw [e,L.dvd,if_pos h]
theorem dvF2_go (l:L.Sq L.Pt) (r:L.Sq Int) (bite:Int) {a b:Nat} (hab:a<b) (h:b ≠ a+1) (hb:b<r.n):L.dvF2 l r bite a b=L.fs (fun k=>L.dvM2 l r bite a b (a+1+k)) (b - a - 1):=by
 unfold L.dvF2
 obtain ⟨n,e⟩:∃ n,r.n=n+1:=⟨r.n - 1,by omega⟩
 rw [e,L.dvd,if_neg h]
 refine fs_congr fun k hk=>?_
 unfold L.dvM2 L.dvdM L.dvF2
 rw [e,dvd_fuel _ _ n (n+1) a (a+1+k) (by omega) (by omega) (by omega),dvd_fuel _ _ n (n+1) (a+1+k) b (by omega) (by omega) (by omega)]
def L.noDv (l:L.Sq L.Pt) (r:L.Sq Int) (bite:Int) (a b:Int):Prop:=L.dvF2 l r bite a.toNat b.toNat=none
theorem dvd_len (lw:Nat->Nat->Nat->Bool) (r:Nat->Int):∀ (n a b:Nat),a<b -> ∀ x,L.dvd lw r n a b=some x->x.length+1=b - a
 | 0,a,b,_,x,e=>by cases e
 | n+1,a,b,hab,x,e=>by
   rw [L.dvd] at e
   by_cases e1:b=a+1
   ·rw [if_pos e1] at e;cases e;simp;omega
   ·rw [if_neg e1] at e
    have key:∀ m,a<m->m<b -> ∀ x,L.dvdM (L.dvd lw r n) lw r a b m=some x->x.length+1=b - a:=fun m h1 h2 x e=>by
     unfold L.dvdM at e
     cases h3:lw a m b
     ·rw [h3] at e;cases e
     ·rw [h3,cond_true] at e
      cases h4:L.dvd lw r n a m with
      | none=>rw [h4] at e;cases e
      | some y =>
        cases h5:L.dvd lw r n m b with
        | none=>rw [h4,h5] at e;cases e
        | some z =>
          rw [h4,h5] at e
          cases e
          have:=dvd_len lw r n a m h1 y h4
          have:=dvd_len lw r n m b h2 z h5
          simp only [List.length_cons,List.length_append];omega
    have:∀ m,m <= b - a - 1 -> ∀ x,L.fs (fun k=>L.dvdM (L.dvd lw r n) lw r a b (a+1+k)) m=some x->x.length+1=b - a:=fun m=>by
     induction m with
     | zero=>intro _ x e;cases e
     | succ m ih =>
       intro hm x e
       rw [L.fs] at e
       cases e2:L.fs (fun k=>L.dvdM (L.dvd lw r n) lw r a b (a+1+k)) m with
       | some y=>rw [e2] at e;cases e;exact ih (by omega) _ e2
       | none=>rw [e2] at e;exact key _ (by omega) (by omega) x e
    exact this _ (Nat.le_refl _) x e
def L.hasO (x:Option (List L.Trg)):Bool:=x.isSome
def L.optL (x:Option (List L.Trg)):L.Sq L.Trg:=⟨(x.getD []).length,fun i=>(x.getD []).getD i ⟨0,0,0⟩⟩
theorem optL_len {l:L.Sq L.Pt} {r:L.Sq Int} {bite:Int} {a b:Nat} (h:a<b):(L.optL (L.dvF2 l r bite a b)).n <= b - a:=by
 unfold L.optL
 cases e:L.dvF2 l r bite a b with
 | none=>simp
 | some x=>have:=dvd_len _ _ _ _ _ h x e;simp;omega
theorem catT_opt (t:L.Trg) (x y:List L.Trg):(L.catT (L.thr ⟨1,fun _=>t⟩ (L.optL (some x)) (L.optL (some y))) 3).n=(L.optL (some (t :: (x ++ y)))).n /\ ∀ i,i<(L.catT (L.thr ⟨1,fun _=>t⟩ (L.optL (some x)) (L.optL (some y))) 3).n->(L.catT (L.thr ⟨1,fun _=>t⟩ (L.optL (some x)) (L.optL (some y))) 3).g i=(L.optL (some (t :: (x ++ y)))).g i:=by
 have e1:(L.catT (L.thr ⟨1,fun _=>t⟩ (L.optL (some x)) (L.optL (some y))) 3).n=0+1+x.length+y.length:=rfl
 refine ⟨by rw [e1];show _=(t :: (x ++ y)).length;simp;omega,fun i hi=>?_⟩
 rw [e1] at hi
 show (bif decide (i<0+1+x.length) then (bif decide (i<0+1) then (bif decide (i<0) then (⟨0,0,0⟩:L.Trg) else t) else x.getD (i - (0+1)) ⟨0,0,0⟩) else y.getD (i - (0+1+x.length)) ⟨0,0,0⟩)=(t :: (x ++ y)).getD i ⟨0,0,0⟩
 by_cases h1:i<0+1+x.length
 ·rw [decide_eq_true h1,cond_true]
  by_cases h2:i<0+1
  ·rw [decide_eq_true h2,cond_true]
   obtain rfl:i=0:=by omega
   rfl
  ·rw [decide_eq_false h2,cond_false]
   obtain ⟨j,rfl⟩:∃ j,i=j+1:=⟨i - 1,by omega⟩
   rw [List.getD_cons_succ,show j+1 - (0+1)=j by omega,List.getD_eq_getElem?_getD,List.getD_eq_getElem?_getD,List.getElem?_append_left (by omega)]
 ·rw [decide_eq_false h1,cond_false]
  obtain ⟨j,rfl⟩:∃ j,i=j+1:=⟨i - 1,by omega⟩
  rw [List.getD_cons_succ,show j+1 - (0+1+x.length)=j - x.length by omega,List.getD_eq_getElem?_getD,List.getD_eq_getElem?_getD,List.getElem?_append_right (by omega)]
def L.btR (l:L.Sq L.Pt) (r:L.Sq Int) (bite:Int):Option (List L.Trg):=L.dvF2 l r bite 0 (r.n - 1)
def L.pkRw (l:L.Sq L.Pt) (p:L.Pocket):L.Sq Int:=⟨L.rowD l.n p+1,L.rowI l.n p⟩
def L.pkB (l:L.Sq L.Pt) (p:L.Pocket) (bite:Int):Option (List L.Trg):=bif !L.hol l p then none else L.btR l (L.pkRw l p) bite
def L.trC (x:L.Trg):List SV:=[.int .i64 x.a,.int .i64 x.b,.int .i64 x.c]
def L.okRow (l:L.Sq L.Pt) (r:L.Sq Int) (bite:Int):Prop:=(l.n <= 1000/\r.n <= 1000/\0 <= bite/\bite <= 4096)/\(∀ i,i<r.n->0 <= r.g i/\r.g i<(l.n:Int)) /\ ∀ i,i<l.n->L.bdP (l.g i)
def c_lawful_p (u:L.Pt) (m:L.Pt) (v:L.Pt) (b:Int):Prop:=L.bdP u/\L.bdP m/\L.bdP v/\0 <= b/\b <= 4096
def c_lawful_r (u:L.Pt) (m:L.Pt) (v:L.Pt) (b:Int):SV:=.bool (L.lawf u m v b)
def c_lawful_s:List EV->Option (Prop × SV)
 | [.p (.agg [.int .i64 u_x,.int .i64 u_y]),.p (.agg [.int .i64 m_x,.int .i64 m_y]),.p (.agg [.int .i64 v_x,.int .i64 v_y]),.p (.int .i64 b)]=>some (c_lawful_p (⟨u_x,u_y⟩:L.Pt) (⟨m_x,m_y⟩:L.Pt) (⟨v_x,v_y⟩:L.Pt) b,c_lawful_r (⟨u_x,u_y⟩:L.Pt) (⟨m_x,m_y⟩:L.Pt) (⟨v_x,v_y⟩:L.Pt) b)
 | _=>none
abbrev c_lawful_S:SE.Spec:=(specO c_lawful_s)
def c_lawful_C:Cfg:={ muts:=[],frz:=lookN [],specs:=lookS [],loops:=lookL [],iters:=lookI [],rfs:=lookR [],nils:=lookM [] }
theorem c_lawful_vc (u:L.Pt) (m:L.Pt) (v:L.Pt) (b:Int) (hp:c_lawful_p u m v b):vc Tryz.prog (c_lawful_C) (bodyOf Tryz.f106) (st0 Tryz.f106 [.p (.agg [.int .i64 u.x,.int .i64 u.y]),.p (.agg [.int .i64 m.x,.int .i64 m.y]),.p (.agg [.int .i64 v.x,.int .i64 v.y]),.p (.int .i64 b)]) (retFn Tryz.prog Tryz.f106 (c_lawful_r u m v b)) :=
 @Eq.mpr _ (let A10:=(0:Int);let A8:=(v.y - m.y);let A7:=(v.x - m.x);let A6:=(m.x - u.x);let A5:=(m.y - u.y);let A4:=(v.y - u.y);let A3:=(v.x - u.x);let A9:=(A3 * A3+A4 * A4);let A1:=(A3 * A5 - A4 * A6);let A2:=(bif !decide (A3 * A5 - A4 * A6=A10) then decide (Max.max A1 (A10 - A1) <= A6 * A7+A5 * A8) else false);InK .i64 A3/\InK .i64 A5/\InK .i64 (A3 * A5)/\InK .i64 A4/\InK .i64 A6/\InK .i64 (A4 * A6)/\InK .i64 A1/\InK .i64 A6/\InK .i64 A7/\InK .i64 (A6 * A7)/\InK .i64 A5/\InK .i64 A8/\InK .i64 (A5 * A8)/\InK .i64 (A6 * A7+A5 * A8)/\InK .i64 A3/\InK .i64 A3/\InK .i64 (A3 * A3)/\InK .i64 A4/\InK .i64 A4/\InK .i64 (A4 * A4)/\InK .i64 A9/\((!decide (A3 * A5 - A4 * A6=A10))=true->InK .i64 (A10 - A1))/\(A2=true->InK .i64 (A1 * A1))/\(A2=true->InK .i64 (b * b))/\(A2=true->InK .i64 (b * b * A9))/\(bif bif !decide (A3 * A5 - A4 * A6=A10) then decide (Max.max A1 (A10 - A1) <= A6 * A7+A5 * A8) else false then decide (A1 * A1 <= b * b * A9) else false)=L.lawf u m v b) (by kernel_rfl) (by
 conv=>zeta
 obtain ⟨h1,h2,h3,b0,b1⟩:=hp
 unfold L.bdP at h1 h2 h3
 have m1:=mul_bd (a:=v.x - u.x) (b:=m.y - u.y) (m:=4096) (n:=4096) (by omega) (by omega) (by omega) (by omega)
 have m2:=mul_bd (a:=v.y - u.y) (b:=m.x - u.x) (m:=4096) (n:=4096) (by omega) (by omega) (by omega) (by omega)
 have m3:=mul_bd (a:=m.x - u.x) (b:=v.x - m.x) (m:=4096) (n:=4096) (by omega) (by omega) (by omega) (by omega)
 have m4:=mul_bd (a:=m.y - u.y) (b:=v.y - m.y) (m:=4096) (n:=4096) (by omega) (by omega) (by omega) (by omega)
 have m5:=mul_bd (a:=v.x - u.x) (b:=v.x - u.x) (m:=4096) (n:=4096) (by omega) (by omega) (by omega) (by omega)
 have m6:=mul_bd (a:=v.y - u.y) (b:=v.y - u.y) (m:=4096) (n:=4096) (by omega) (by omega) (by omega) (by omega)
 have m7:=mul_bd (a:=(v.x - u.x) * (m.y - u.y) - (v.y - u.y) * (m.x - u.x)) (b:=(v.x - u.x) * (m.y - u.y) - (v.y - u.y) * (m.x - u.x)) (m:=33554432) (n:=33554432) (by omega) (by omega) (by omega) (by omega)
 have m8:=mul_bd (a:=b) (b:=b) (m:=4096) (n:=4096) (by omega) (by omega) (by omega) (by omega)
 have m9:=mul_bd (a:=b * b) (b:=(v.x - u.x) * (v.x - u.x)+(v.y - u.y) * (v.y - u.y)) (m:=16777216) (n:=33554432) (by omega) (by omega) (by omega) (by omega)
 repeat' with_reducible apply And.intro
 all_goals first | exact rfl | exact jK | exact fun _=>jK)
theorem c_lawful_ok:SpecOk Tryz.prog 106 c_lawful_S:=fnX Tryz.func106 (c:=bodyOf Tryz.f106) (by kernel_rfl) mixed (fun args p r hs hp=>by
 unfold c_lawful_s at hs
 split at hs
 ·cases hs;exact ⟨_,_,c_lawful_vc _ _ _ _ hp,(.same _ (.same _ (.same _ (.same _ .nil)))),⟨show SpecsL Tryz.prog _ from SpecsL.nil,rfl,⟨show ItersL Tryz.prog _ from ItersL.nil,(TrsOk.none (fun _=>rfl))⟩⟩⟩
 ·cases hs)
theorem c_lawful_en:Enters Tryz.prog 106:=fun args w=>by kernel_rfl
def c_row_p (n:Int) (p:L.Pocket):Prop:=n <= 1000/\L.okPk n p
def c_row_r (n:Int) (p:L.Pocket):SV:=.sl 1 (L.rowD n p+1) (fun i=>[.int .i64 (L.rowI n p i)])
def c_row_s:List EV->Option (Prop × SV)
 | [.p (.int .i64 n),.p (.agg [.int .i64 p_fr,.int .i64 p_to_,.int .i64 p_area])]=>some (c_row_p n (⟨p_fr,p_to_,p_area⟩:L.Pocket),c_row_r n (⟨p_fr,p_to_,p_area⟩:L.Pocket))
 | _=>none
abbrev c_row_S:SE.Spec:=(specO c_row_s)
def c_row_C:Cfg:={ cC with muts:=[9],frz:=lookN [(6,[9])] }
theorem c_row_vc (n:Int) (p:L.Pocket) (hp:c_row_p n p):vc Tryz.prog ({ c_row_C with loops:=lookL [(3,{ T:=Nat,keep:=[0,3,5],keepO:=[],chg:=fun i=>[(6,.p (.int .i64 (L.rowI n p i)))],own:=fun i=>[(9,.row 3 1 (i+1) (fun j=>[.int .i64 (L.rowI n p j)]))],inv:=fun i=>i <= L.rowD n p,mu:=fun i=>L.rowD n p - i })],rfs:=lookR [] }) (bodyOf Tryz.f151) (st0 Tryz.f151 [.p (.int .i64 n),.p (.agg [.int .i64 p.fr,.int .i64 p.to_,.int .i64 p.area])]) (retFn Tryz.prog Tryz.f151 (c_row_r n p)) :=
 @Eq.mpr _ (let I:=SV.int .i64;let A4:=[I p.fr,I p.to_,I p.area];let A1:=(1:Nat);(∃ (g:Nat),p.fr=L.rowI n p g/\(nat_lit 1=g+A1 /\ ∀ (i:Nat),i<nat_lit 1->rowsOf [I p.fr] (nat_lit 1) i = [I (L.rowI n p i)])/\g <= L.rowD n p) /\ ∀ (g:Nat),let A3:=(!decide (L.rowI n p g=p.to_));let A2:=(L.rowI n p g+(1:Int));g <= L.rowD n p->(A3=true->InK .i64 A2/\n ≠ (0:Int)/\(g+A1+nat_lit 1) * nat_lit 8 <= (140737488355328:Nat) /\ ∃ (g':Nat),Int.tmod A2 n=L.rowI n p g'/\SV.ref A4 (nat_lit 0)=SV.ref A4 (nat_lit 0)/\n=n/\(g+A1+nat_lit 1=g'+A1 /\ ∀ (i:Nat),i<g+A1+nat_lit 1->appGet (g+A1) (fun (j:Nat)=>[I (L.rowI n p j)]) (fun (x:Nat)=>[I (Int.tmod A2 n)]) i = [I (L.rowI n p i)])/\g' <= L.rowD n p/\L.rowD n p - g'<L.rowD n p - g)/\(A3=false->g+A1=L.rowD n p+A1 /\ ∀ (i:Nat),i<g+A1 -> [I (L.rowI n p i)] = [I (L.rowI n p i)])) (by kernel_rfl) (by
 conv=>zeta
 obtain ⟨hn,hk⟩:=(show n <= 1000/\L.okPk n p from hp)
 obtain ⟨d1,d2,f0,f1,fr,fe,fs⟩:=row_facts hk
 refine ⟨⟨(0:Nat),f0.symm,⟨rfl,fun i hi=>?_⟩,Nat.zero_le _⟩,fun g hg=>⟨fun hc=>?_,fun hc=>?_⟩⟩
 ·have hi:i<1:=hi
  obtain rfl:i=0:=by omega
  rw [f0];rfl
 ·have hc:¬ L.rowI n p g=p.to_:=of_decide_eq_false (notT hc)
  have hlt:g<L.rowD n p:=by
   rcases Nat.lt_or_ge g (L.rowD n p) with h | h
   ·exact h
   ·obtain rfl:g=L.rowD n p:=by omega
    exact absurd f1 hc
  have hr:=fr g hg
  refine ⟨jK,by omega,by show (g+1+1) * 8 <= 140737488355328;omega,g+1,fs g hlt,rfl,rfl,⟨rfl,fun i hi=>?_⟩,hlt,by omega⟩
  have hi:i<g+1+1:=hi
  unfold appGet
  by_cases e:i<g+1
  ·rw [if_pos e]
  ·rw [if_neg e]
   obtain rfl:i=g+1:=by omega
   rw [fs g hlt]
 ·have hc:L.rowI n p g=p.to_:=of_decide_eq_true (notF hc)
  obtain rfl:=fe g hg hc
  exact ⟨rfl,fun _ _=>rfl⟩)
theorem c_row_ok:SpecOk Tryz.prog 151 c_row_S:=fnX Tryz.func151 (c:=bodyOf Tryz.f151) (by kernel_rfl) mixed (fun args p r hs hp=>by
 unfold c_row_s at hs
 split at hs
 ·cases hs;exact ⟨_,_,c_row_vc _ _ hp,(.same _ (.same _ .nil)),⟨show SpecsL Tryz.prog _ from SpecsL.nil,rfl,⟨show ItersL Tryz.prog _ from ItersL.nil,(TrsOk.none (fun _=>rfl))⟩⟩⟩
 ·cases hs)
theorem c_row_en:Enters Tryz.prog 151:=fun args w=>by kernel_rfl
def c_hol1_p (i:Int) (b:(L.Sq Int)):Prop:=0 <= i/\i<(b.n:Int)
def c_hol1_r (i:Int) (b:(L.Sq Int)):SV:=.bool (decide (0<b.g i.toNat))
def c_hol1_s:List EV->Option (Prop × SV)
 | [.p (.int .i64 i),.p (.ref [.sl 1 b_n b_g] 0)]=>some ((∀ i,i<b_n->b_g i = [.int .i64 ((intOf (b_g i)))])/\c_hol1_p i (⟨b_n,fun i=>intOf (b_g i)⟩:(L.Sq Int)),c_hol1_r i (⟨b_n,fun i=>intOf (b_g i)⟩:(L.Sq Int)))
 | _=>none
abbrev c_hol1_S:SE.Spec:=(specO c_hol1_s)
def c_hol1_C:Cfg:={ muts:=[],frz:=lookN [],specs:=lookS [],loops:=lookL [],iters:=lookI [],rfs:=lookR [],nils:=lookM [] }
theorem c_hol1_vc (i:Int) (b:(L.Sq Int)) (hp:c_hol1_p i b):vc Tryz.prog (c_hol1_C) (bodyOf Tryz.f183) (st0 Tryz.f183 [.p (.int .i64 i),.p (.ref [.sl 1 b.n (fun i=>[.int .i64 ((b.g i))])] 0)]) (retFn Tryz.prog Tryz.f183 (c_hol1_r i b)) :=
 @Eq.mpr _ (((0:Int) <= i/\i<(↑b.n:Int))/\decide ((0:Int)<b.g (Int.toNat i))=decide ((0:Int)<b.g (Int.toNat i))) (by kernel_rfl) (by
 exact ⟨hp,rfl⟩)
theorem c_hol1_ok:SpecOk Tryz.prog 183 c_hol1_S:=fnX Tryz.func183 (c:=bodyOf Tryz.f183) (by kernel_rfl) mixed (fun args p r hs hp=>by
 unfold c_hol1_s at hs
 split at hs
 ·cases hs; exact ⟨_, _, c_hol1_vc _ _ hp.2, (.same _ (.p (Ext.ref rfl (fun i hi => by
  rcases i with _ | i
  ·show Ext (SV.sl _ _ _) (SV.sl _ _ _);exact (Ext.sl hp.1)
  exact absurd hi (by simp;try omega))) .nil)),⟨show SpecsL Tryz.prog _ from SpecsL.nil,rfl,⟨show ItersL Tryz.prog _ from ItersL.nil,(TrsOk.none (fun _=>rfl))⟩⟩⟩
 ·cases hs)
theorem c_hol1_en:Enters Tryz.prog 183:=fun args w=>by kernel_rfl
theorem c_hol1_B:∀ args p r,c_hol1_s args=some (p,r) -> ∃ b,r=.bool b:=by
 intro args p r h
 unfold c_hol1_s at h
 split at h
 ·cases h;exact ⟨_,rfl⟩
 ·cases h
def c_hollow_p (l:(L.Sq L.Pt)) (p:L.Pocket):Prop:=L.validOutline l=true/\L.okPk l.n p
def c_hollow_r (l:(L.Sq L.Pt)) (p:L.Pocket):SV:=.bool (L.hol l p)
def c_hollow_s:List EV->Option (Prop × SV)
 | [.p (.sl 2 l_n l_g),.p (.agg [.int .i64 p_fr,.int .i64 p_to_,.int .i64 p_area])]=>some ((∀ i,i<l_n->l_g i = [.int .i64 ((ofPt (l_g i)).x),.int .i64 ((ofPt (l_g i)).y)])/\c_hollow_p (⟨l_n,fun i=>ofPt (l_g i)⟩:(L.Sq L.Pt)) (⟨p_fr,p_to_,p_area⟩:L.Pocket),c_hollow_r (⟨l_n,fun i=>ofPt (l_g i)⟩:(L.Sq L.Pt)) (⟨p_fr,p_to_,p_area⟩:L.Pocket))
 | _=>none
abbrev c_hollow_S:SE.Spec:=(specO c_hollow_s)
def c_hollow_C:Cfg:={ cC with muts:=[5],frz:=lookN [(3,[5])],specs:=lookS [(181,p_Bends_S),(151,c_row_S),(182,s_conFI_S),(183,c_hol1_S)] }
theorem c_hollow_vc (l:(L.Sq L.Pt)) (p:L.Pocket) (hp:c_hollow_p l p):vc Tryz.prog (c_hollow_C) (bodyOf Tryz.f149) (st0 Tryz.f149 [.p (.sl 2 l.n (fun i=>[.int .i64 ((l.g i).x),.int .i64 ((l.g i).y)])),.p (.agg [.int .i64 p.fr,.int .i64 p.to_,.int .i64 p.area])]) (retFn Tryz.prog Tryz.f149 (c_hollow_r l p)) :=
 @Eq.mpr _ (let I:=SV.int .i64;let T:=Int.toNat;let A12:=(0:Nat);let A8:=(↑l.n:Int);let A6:=(1:Int);let A3:=(↑(L.rowD A8 p+(1:Nat)):Int);let A9:=(A3 - A6 - A6);let A1:=(L.Sq.mk l.n fun (i:Nat)=>ofPt ((fun (i:Nat)=>[I (l.g i).x,I (l.g i).y]) i));let A4:=[SV.ref [SV.sl (nat_lit 1) (bif L.validOutline A1 then A1.n else A12) fun (k:Nat)=>[I (L.bend A1 k)]] (nat_lit 0)];((∀ (i:Nat),let A11:=[I (l.g i).x,I (l.g i).y];i<l.n->A11=A11)/\l.n <= (1000000:Nat))/\(A8 <= (1000:Int)/\L.okPk A8 p)/\InK .i64 (A3 - A6)/\((0:Int) <= A6/\A6 <= A3 - A6/\A3 - A6 <= A3)/\((∀ (i:Nat),let A10:=[I (L.rowI A8 p (T A6+i))];i<T A9->A10=A10)/\isB (FSpec.mk (fun («as»:List SV)=>preO c_hol1_s (List.map EV.p «as» ++ List.map EV.p A4)) fun («as»:List SV)=>resO c_hol1_s (List.map EV.p «as» ++ List.map EV.p A4))/\T A9 <= (1000000:Nat) /\ ∀ (i:Nat),i<T A9->(∀ (i:Nat),let A7:=(L.Sq.mk l.n fun (i:Nat)=>l.g i);(i<bif L.validOutline A7 then l.n else A12) -> [I (L.bend A7 i)] = [I (L.bend A7 i)])/\(0:Int) <= L.rowI A8 p (T A6+i)/\L.rowI A8 p (T A6+i)<(↑(bif L.validOutline (L.Sq.mk l.n fun (i:Nat)=>l.g i) then l.n else A12):Int))/\(!L.anyB (T A9) fun (i:Nat)=>let A2:=(L.Sq.mk l.n fun (i:Nat)=>ofPt ((fun (i:Nat)=>[I (l.g i).x,I (l.g i).y]) i));let A5:=[SV.ref [SV.sl (nat_lit 1) (bif L.validOutline A2 then A2.n else A12) fun (k:Nat)=>[I (L.bend A2 k)]] (nat_lit 0)];L.fbl (FSpec.mk (fun («as»:List SV)=>preO c_hol1_s (List.map EV.p «as» ++ List.map EV.p A5)) fun («as»:List SV)=>resO c_hol1_s (List.map EV.p «as» ++ List.map EV.p A5)) [I (L.rowI A8 p (T A6+i))])=L.hol l p) (by kernel_rfl) (by
 conv=>zeta
 obtain ⟨hv,hk⟩:=(show L.validOutline l=true/\L.okPk l.n p from hp)
 obtain ⟨n3,n24,_,_⟩:=validOutline_of hv
 obtain ⟨d1,d2,f0,f1,fr,fe,fs⟩:=row_facts hk
 have eN:(((L.rowD l.n p+1:Nat):Int) - 1 - 1).toNat=L.rowD l.n p - 1:=by omega
 have eB:(bif L.validOutline l then l.n else 0)=l.n:=by rw [hv];rfl
 refine ⟨⟨fun _ _=>rfl,by omega⟩,⟨by omega,hk⟩,jK,⟨by omega,by omega,by omega⟩,⟨fun _ _=>rfl,isB_of c_hol1_B _,by omega,fun i hi=>⟨fun _ _=>rfl,?_⟩⟩,?_⟩
 ·rw [eB]
  rw [eN] at hi
  exact fr (1+i) (by omega)
 ·rw [eN]
  unfold L.hol
  rfl)
theorem c_hollow_ok:SpecOk Tryz.prog 149 c_hollow_S:=fnX Tryz.func149 (c:=bodyOf Tryz.f149) (by kernel_rfl) mixed (fun args p r hs hp=>by
 unfold c_hollow_s at hs
 split at hs
 ·cases hs;exact ⟨_,_,c_hollow_vc _ _ hp.2,(.p (.sl hp.1) (.same _ .nil)),⟨show SpecsL Tryz.prog _ from (SpecsL.cons p_Bends_ok p_Bends_en (SpecsL.cons c_row_ok c_row_en (SpecsL.cons s_conFI_ok s_conFI_en (SpecsL.cons c_hol1_ok c_hol1_en SpecsL.nil)))),rfl,⟨show ItersL Tryz.prog _ from ItersL.nil,(TrsOk.none (fun _=>rfl))⟩⟩⟩
 ·cases hs)
theorem c_hollow_en:Enters Tryz.prog 149:=fun args w=>by kernel_rfl
def s_growT_p (s:Nat) (n:Int):Prop:=1 <= n/\n <= 2000000
def s_growT_q (s:Nat) (n:Int):Nat->Prop:=fun _=>True
def s_growT_n (s:Nat) (n:Int):Nat->Nat:=fun _=>0
def s_growT_g (s:Nat) (n:Int):Nat->Nat->List SV:=fun _ _=>[]
def s_growT_s:List EV->Option (Prop × (Nat->Prop) × (Nat->Nat) × (Nat->Nat->List SV))
 | [.p (.raw (.slice none 0 0)),.p (.int .i64 n)]=>some (s_growT_p (0:Nat) n,s_growT_q (0:Nat) n,s_growT_n (0:Nat) n,s_growT_g (0:Nat) n)
 | _=>none
abbrev s_growT_S:SE.Spec:=(specF Nat 0 91 3 s_growT_s)
def s_growT_C:Cfg:={ cC with muts:=[22],cuts:=[25] }
theorem s_growT_vc (s:Nat) (n:Int) (hp:s_growT_p s n):vc Tryz.prog (s_growT_C) (bodyOf Tryz.f210) (st0 Tryz.f210 [.p (.raw (.slice none 0 0)),.p (.int .i64 n)]) (retFresh Tryz.prog Tryz.f210 (Nat) (s_growT_q s n) 91 3 (s_growT_n s n) (s_growT_g s n)) :=
 @Eq.mpr _ (let A4:=(0:Nat);let A2:=(0:Int);let A1:=(↑A4:Int);let A3:=(A1 - A1);(decide (n<A2)=true->False)/\(decide (n<A2)=false->InK .i64 A3/\InK .i64 (n - A3)/\(decide (A2<n - A3)=true->(A2 <= A2/\A2 <= A1/\A1 <= A2)/\(A2<n - A3/\(n - A3) * (↑(nat_lit 24):Int) <= (140737488355328:Int))/\(A2 <= A1/\A1 <= (↑(Int.toNat (n - A3)):Int)) /\ ∃ (t:Nat),(nat_lit 0=A4 /\ ∀ (i:Nat),i<nat_lit 0 -> [SV.int .i64 A2,SV.int .i64 A2,SV.int .i64 A2] = [])/\True)/\(decide (A2<n - A3)=false -> ∃ (t:Nat),A4=A4/\True))) (by kernel_rfl) (by
 conv=>zeta
 obtain ⟨h1,h2⟩:=hp
 refine ⟨fun h=>?_,fun _=>⟨jK,jK,fun h=>⟨⟨by omega,by omega,by omega⟩,⟨by omega,show (n - (((0:Nat):Int) - ((0:Nat):Int))) * 24 <= 140737488355328 by omega⟩,⟨by omega,by omega⟩,(0:Nat),⟨rfl,fun i hi=>absurd hi (Nat.not_lt_zero _)⟩,trivial⟩,fun h=>⟨(0:Nat),rfl,trivial⟩⟩⟩
 have:=of_decide_eq_true h
 omega)
theorem s_growT_ok:SpecOk Tryz.prog 210 s_growT_S:=freshX Tryz.func210 (c:=bodyOf Tryz.f210) (by kernel_rfl) mixed (fun args p q n g hs hp=>by
 unfold s_growT_s at hs
 split at hs
 ·cases hs;exact ⟨_,_,s_growT_vc _ _ hp,(.same _ (.same _ .nil)),⟨show SpecsL Tryz.prog _ from SpecsL.nil,rfl,⟨show ItersL Tryz.prog _ from ItersL.nil,(TrsOk.none (fun _=>rfl))⟩⟩⟩
 ·cases hs)
theorem s_growT_en:Enters Tryz.prog 210:=fun args w=>by kernel_rfl
def s_catT_p (c:(Nat->L.Sq L.Trg)):Prop:=(1 <= (c 0).n/\(c 0).n <= 10000)/\(c 1).n <= 10000/\(c 2).n <= 10000
def s_catT_q (c:(Nat->L.Sq L.Trg)):Nat->Prop:=fun _=>True
def s_catT_n (c:(Nat->L.Sq L.Trg)):Nat->Nat:=fun _=>(L.catT c 3).n
def s_catT_g (c:(Nat->L.Sq L.Trg)):Nat->Nat->List SV:=fun _ k=>[.int .i64 (((L.catT c 3).g k).a),.int .i64 (((L.catT c 3).g k).b),.int .i64 (((L.catT c 3).g k).c)]
def s_catT_s:List EV->Option (Prop × (Nat->Prop) × (Nat->Nat) × (Nat->Nat->List SV))
 | [.p (.sl 1 3 c_g)]=>some ((rowTrg (c_g 0)/\rowTrg (c_g 1)/\rowTrg (c_g 2))/\s_catT_p (L.thr (ofSqTrg (c_g 0)) (ofSqTrg (c_g 1)) (ofSqTrg (c_g 2))),s_catT_q (L.thr (ofSqTrg (c_g 0)) (ofSqTrg (c_g 1)) (ofSqTrg (c_g 2))),s_catT_n (L.thr (ofSqTrg (c_g 0)) (ofSqTrg (c_g 1)) (ofSqTrg (c_g 2))),s_catT_g (L.thr (ofSqTrg (c_g 0)) (ofSqTrg (c_g 1)) (ofSqTrg (c_g 2))))
 | _=>none
abbrev s_catT_S:SE.Spec:=(specF Nat 0 91 3 s_catT_s)
def s_catT_C:Cfg:={ cC with muts:=[24],specs:=lookS [(210,s_growT_S)],raws:=[210] }
theorem s_catT_vc (c:(Nat->L.Sq L.Trg)) (hp:s_catT_p c):vc Tryz.prog ({ s_catT_C with loops:=lookL [(3,{ T:=Nat,keep:=[0,9,10],keepO:=[],chg:=fun i=>[(3,.p (.int .i64 ((L.catT c i).n:Int))),(11,.p (.int .i64 (i:Int)))],own:=fun _=>[],inv:=fun i=>i <= 3,mu:=fun i=>3 - i }),(11,{ T:=Nat,keep:=[0,6,25,26],keepO:=[],chg:=fun i=>[(27,.p (.int .i64 (i:Int)))],own:=fun i=>[(24,.row 91 3 (L.catT c i).n (fun k=>[.int .i64 (((L.catT c i).g k).a),.int .i64 (((L.catT c i).g k).b),.int .i64 (((L.catT c i).g k).c)]))],inv:=fun i=>i <= 3,mu:=fun i=>3 - i })],rfs:=lookR [] }) (bodyOf Tryz.f185) (st0 Tryz.f185 [.p (.sl 1 3 (fun i=>[.sl 3 (c i).n (fun k=>[.int .i64 ((c i).g k).a,.int .i64 ((c i).g k).b,.int .i64 ((c i).g k).c])]))]) (retFresh Tryz.prog Tryz.f185 (Nat) (s_catT_q c) 91 3 (s_catT_n c) (s_catT_g c)) :=
  @Eq.mpr _ (let I:=SV.int .i64;let T:=Int.toNat;let A14:=(1:Int);let A13:=(0:Int);let A6:=(3:Nat);let A2:=(↑(nat_lit 3):Int);(∃ (g:Nat),A13=(↑(L.catT c g).n:Int)/\A13=(↑g:Int)/\g <= A6) /\ ∀ (g:Nat),let A8:=(↑g:Int);let A15:=(↑(c (T A8)).n:Int);let A7:=(↑(L.catT c g).n:Int);let A1:=(nat_lit 3=nat_lit 3 /\ ∀ (i:Nat),let A5 :=
 [SV.sl A6 (c i).n fun (k:Nat)=>[I ((c i).g k).a,I ((c i).g k).b,I ((c i).g k).c]];i<nat_lit 3->A5=A5);g <= A6->(decide (A8<A2)=true->(A13 <= A8/\A8<A2)/\InK .i64 (A7+A15)/\(false=true->False)/\(false=false->InK .i64 (A8+A14) /\ ∃ (g':Nat),A7+A15=(↑(L.catT c g').n:Int)/\A8+A14=(↑g'
:Int)/\A2=A2/\A1/\A1/\g' <= A6/\A6 - g'<A6 - g))/\(decide (A8<A2)=false->(A14 <= A7/\A7 <= (2000000:Int)) /\ ∀ (t:Nat),True->(∃ (g:Nat),A13=(↑g:Int)/\((0:Nat)=(L.catT c g).n /\ ∀ (i:Nat),let A12:=((L.catT c g).g i);i<(0:Nat) -> [] = [I A12.a,I A12.b,I A12.c])/\g <= A6) /\ ∀ (g_1:Nat),let A4:=(↑g_1:Int);let A9:=(c (T A4));let A3 :=
 (L.catT c g_1);g_1 <= A6->(decide (A4<A2)=true->(A13 <= A4/\A4<A2)/\(A3.n+A9.n) * nat_lit 24 <= (140737488355328:Nat)/\InK .i64 (A4+A14) /\ ∃ (g':Nat),A4+A14=(↑g':Int)/\A2=A2/\A1/\A1/\(A3.n+A9.n=(L.catT c g').n /\ ∀ (i:Nat),let A10:=((L.catT c g').g i);i<A3.n+A9.n->appGet A3.n (fun (k:Nat)=>[I (A3.g k).a,I (A3.g
 k).b,I (A3.g k).c]) (fun (k:Nat)=>[I (A9.g k).a,I (A9.g k).b,I (A9.g k).c]) i = [I A10.a,I A10.b,I A10.c])/\g' <= A6/\A6 - g'<A6 - g_1)/\(decide (A4<A2)=false -> ∃ (t:Nat),(A3.n=(L.catT c A6).n /\ ∀ (i:Nat),let A11:=((L.catT c A6).g i);i<A3.n -> [I (A3.g i).a,I (A3.g i).b,I (A3.g i).c] = [I A11.a,I A11.b,I A11.c])/\True))) (by kernel_rfl) (by
  conv=>zeta
  obtain ⟨⟨h0,h1⟩,h2,h3⟩:=hp
  have hc:∀ i,i<3->(c i).n <= 10000:=fun i hi=>by
   match i,hi with
   | 0,_=>exact h1
   | 1,_=>exact h2
   | 2,_=>exact h3
  have e1:(L.catT c 1).n=0+(c 0).n:=rfl
  have e2:(L.catT c 2).n=0+(c 0).n+(c 1).n:=rfl
  have e3:(L.catT c 3).n=0+(c 0).n+(c 1).n+(c 2).n:=rfl
  have ht:∀ i,i <= 3->(L.catT c i).n <= 30000:=fun i hi=>by
   match i,hi with
   | 0,_=>exact Nat.zero_le _
   | 1,_=>omega
   | 2,_=>omega
   | 3,_=>omega
  refine ⟨⟨(0:Nat),rfl,rfl,Nat.zero_le _⟩,fun g hg=>⟨fun hlt=>?_,fun hge=>?_⟩⟩
  ·have hb:(g:Int)<3:=of_decide_eq_true hlt
   have e0:((g:Int)).toNat=g:=by omega
   have hcg:=hc g (by omega)
   have htg:=ht g hg
   rw [e0]
   exact ⟨⟨by omega,hb⟩,jK,fun h=>Bool.false_ne_true h,fun _=>⟨jK,g+1,by show ((L.catT c g).n:Int)+((c g).n:Int)=(((L.catT c g).n+(c g).n:Nat):Int);omega,by omega,rfl,⟨rfl,fun _ _=>rfl⟩,⟨rfl,fun _ _=>rfl⟩,by omega,by omega⟩⟩
  ·have hb:¬ (g:Int)<3:=of_decide_eq_false hge
   obtain rfl:g=3:=by omega
   refine ⟨⟨by omega,by omega⟩,fun _ _=>⟨⟨(0:Nat),rfl,⟨rfl,fun i hi=>absurd hi (Nat.not_lt_zero _)⟩,Nat.zero_le _⟩,fun k hk=>⟨fun hlt=>?_,fun hge=>?_⟩⟩⟩
   ·have hb:(k:Int)<3:=of_decide_eq_true hlt
    have e0:((k:Int)).toNat=k:=by omega
    have hck:=hc k (by omega)
    have htk:=ht k hk
    rw [e0]
    refine ⟨⟨by omega,hb⟩,show ((L.catT c k).n+(c k).n) * 24 <= 140737488355328 by omega,jK,k+1,by omega,rfl,⟨rfl,fun _ _=>rfl⟩,⟨rfl,fun _ _=>rfl⟩,⟨rfl,fun i hi=>?_⟩,by omega,by omega⟩
    unfold appGet
    by_cases h:i<(L.catT c k).n
    ·have w : (L.catT c (k + 1)).g i = (L.catT c k).g i := by
      show (bif decide (i<(L.catT c k).n) then _ else _)=_
      rw [decide_eq_true h];rfl
     rw [if_pos h,w]
    ·have w : (L.catT c (k + 1)).g i = (c k).g (i - (L.catT c k).n) := by
      show (bif decide (i<(L.catT c k).n) then _ else _)=_
      rw [decide_eq_false h];rfl
     rw [if_neg h,w]
   ·have hb:¬ (k:Int)<3:=of_decide_eq_false hge
    obtain rfl:k=3:=by omega
    exact ⟨(0:Nat),⟨rfl,fun _ _=>rfl⟩,trivial⟩)
theorem s_catT_ok:SpecOk Tryz.prog 185 s_catT_S:=freshX Tryz.func185 (c:=bodyOf Tryz.f185) (by kernel_rfl) mixed (fun args p q n g hs hp=>by
 unfold s_catT_s at hs
 split at hs
 ·cases hs;exact ⟨_,_,s_catT_vc _ hp.2,(.p (rows3_ext hp.1) .nil),⟨show SpecsL Tryz.prog _ from (SpecsL.cons s_growT_ok s_growT_en SpecsL.nil),rfl,⟨show ItersL Tryz.prog _ from ItersL.nil,(TrsOk.none (fun _=>rfl))⟩⟩⟩
 ·cases hs)
theorem s_catT_en:Enters Tryz.prog 185:=fun args w=>by kernel_rfl
abbrev c_bt1_mk:Mk:={ T:=(L.Sq L.Pt) × (L.Sq Int) × (Int) × (Nat) × (Nat),U:=Nat,args:=fun t=>(fun l r bite a b=>[.p (.int .i64 (a:Int)),.p (.int .i64 (b:Int))] ++ [.loc 1000 0,.p (.ref [(.sl 2 l.n (fun i=>[.int .i64 ((l.g i).x),.int .i64 ((l.g i).y)]))] 0),.p (.ref [(.sl 1 r.n (fun i=>[.int .i64 ((r.g i))]))] 0),.p (.ref [.int .i64 bite] 0),.loc 1001 0]) t.1 t.2.1 t.2.2.1 t.2.2.2.1 t.2.2.2.2,lkeys:=[1000,1001,1002],keys:=[],lent:=fun t=>(fun l r bite a b=>[(1000,.blk 236 [.mapv 1002]),(1001,.blk 237 [.cl 184 [.loc 1000 0,.p (.ref [(.sl 2 l.n (fun i=>[.int .i64 ((l.g i).x),.int .i64 ((l.g i).y)]))] 0),.p (.ref [(.sl 1 r.n (fun i=>[.int .i64 ((r.g i))]))] 0),.p (.ref [.int .i64 bite] 0),.loc 1001 0]]),(1002,.ms 238 4 (L.noDv l r bite))]) t.1 t.2.1 t.2.2.1 t.2.2.2.1 t.2.2.2.2,pre:=fun t=>(fun l r bite a b=>L.okRow l r bite/\a<b/\b<r.n) t.1 t.2.1 t.2.2.1 t.2.2.2.1 t.2.2.2.2,post:=fun t u=>(fun l r bite a b=>fun uu=>True) t.1 t.2.1 t.2.2.1 t.2.2.2.1 t.2.2.2.2 u,lent':=fun t u=>(fun l r bite a b=>fun uu=>[(1000,.blk 236 [.mapv 1002]),(1001,.blk 237 [.cl 184 [.loc 1000 0,.p (.ref [(.sl 2 l.n (fun i=>[.int .i64 ((l.g i).x),.int .i64 ((l.g i).y)]))] 0),.p (.ref [(.sl 1 r.n (fun i=>[.int .i64 ((r.g i))]))] 0),.p (.ref [.int .i64 bite] 0),.loc 1001 0]]),(1002,.ms 238 4 (L.noDv l r bite))]) t.1 t.2.1 t.2.2.1 t.2.2.2.1 t.2.2.2.2 u,own:=fun t u=>(fun l r bite a b=>fun uu=>[]) t.1 t.2.1 t.2.2.1 t.2.2.2.1 t.2.2.2.2 u,res:=fun t u=>(fun l r bite a b=>fun uu=>.p (.tup [.sl 3 (L.optL (L.dvF2 l r bite a b)).n (fun i=>[.int .i64 (((L.optL (L.dvF2 l r bite a b)).g i).a),.int .i64 (((L.optL (L.dvF2 l r bite a b)).g i).b),.int .i64 (((L.optL (L.dvF2 l r bite a b)).g i).c)]),.bool (L.hasO (L.dvF2 l r bite a b))])) t.1 t.2.1 t.2.2.1 t.2.2.2.1 t.2.2.2.2 u }
abbrev c_bt1_mu:c_bt1_mk.T->Nat:=fun t=>(fun l r bite a b=>b - a) t.1 t.2.1 t.2.2.1 t.2.2.2.1 t.2.2.2.2
theorem c_bt1_vc (rn:Nat) (l:L.Sq L.Pt) (r:L.Sq Int) (bite:Int) (a:Nat) (b:Nat) (hp:c_bt1_mk.pre (l,r,bite,a,b)) (hmu:b - a<rn+1):vc Tryz.prog ({ muts:=[],frz:=lookN [],specs:=lookS [(106,c_lawful_S),(185,s_catT_S)],loops:=lookL [(6,{ T:=Nat,keep:=[0,1,2,3,4,5,6],keepO:=[1000,1001,1002],chg:=fun i=>[(11,.p (.int .i64 ((a+1+i:Nat):Int)))],own:=fun _=>[],inv:=fun i=>i <= b - a - 1 /\ ∀ j,j<i->L.dvM2 l r bite a b (a+1+j)=none,mu:=fun i=>b - a - i })],iters:=lookI [],rfs:=lookR [],nils:=lookM [],mks:=lookK [(184,Mk.lt c_bt1_mk c_bt1_mu rn)],ren:=fun k=>k }) (bodyOf Tryz.f184) (stTr Tryz.f184 (c_bt1_mk.args (l,r,bite,a,b)) (c_bt1_mk.lent (l,r,bite,a,b))) (retMk Tryz.prog Tryz.f184 c_bt1_mk (l,r,bite,a,b)) :=
 @Eq.mpr _ (let I:=SV.int .i64;let T:=Int.toNat;let A87:=(3:Nat);let A78:=(1001:Nat);let A77:=(1000:Nat);let A73:=(2:Nat);let A69:=(nat_lit 2);let A62:=(nat_lit 1001);let A61:=(nat_lit 1000);let A60:=(↑l.n:Int);let A57:=(10000:Nat);let A52:=(nat_lit 1);let A49:=(184:Nat);let A44:=(↑r.n:Int);let A43:=(1:Int);let A39:=(0:Int);let A25:=(0:Nat);let A24:=(nat_lit 184);let A23:=(1:Nat);let A18:=(∀ (a b:Int),L.noDv l r bite a b->L.noDv l r bite a b);let A15:=(L.dvF2 l r bite a b);let A40:=(L.optL A15);let A14:=(↑b:Int);let A68:=(A39 <= r.g (T A14)/\r.g (T A14)<A60);let A56:=(A39 <= A14/\A14<A44);let A34:=(r.g (T A14));let A71:=(l.g (T A34));let A13:=(↑a:Int);let A67:=(A39 <= r.g (T A13)/\r.g (T A13)<A60);let A55:=(A39 <= A13/\A13<A44);let A33:=(r.g (T A13));let A70:=(l.g (T A33));let A28:=(∃ (g:Nat),A13+A43=(↑(a+A23+g):Int)/\g <= b - a - A23 /\ ∀ (j:Nat),j<g->L.dvM2 l r bite a b (a+A23+j)=Option.none);let A8:=[SV.sl A52 r.n fun (i:Nat)=>[I (r.g i)]];let A7:=(nat_lit 0);let A6:=[SV.sl A69 l.n fun (i:Nat)=>[I (l.g i).x,I (l.g i).y]];let A1:=[EV.loc A61 A7,EV.p (SV.ref A6 A7),EV.p (SV.ref A8 A7),EV.p (SV.ref [I bite] A7),EV.loc A62 A7];InK .i64 (A13+A43)/\(decide (A14=A13+A43)=true -> ∃ (u:Nat),A40.n=A25/\true=L.hasO A15/\EV.cl A24 A1=EV.cl A49 A1/\A18/\True)/\(decide (A14=A13+A43)=false->(L.noDv l r bite A13 A14->(true=true -> ∃ (u:Nat),A40.n=A25/\false=L.hasO A15/\EV.cl A24 A1=EV.cl A49 A1/\A18/\True)/\(true=false->InK .i64 (A13+A43)/\A28 /\ ∀ (g:Nat),let A9:=(↑(a+A23+g):Int);let A82:=(A39 <= A9/\A9<A44);let A59:=(r.g (T A9));let A86:=[I A33,I A59,I A34];let A54:=(!L.lawf A70 (l.g (T A59)) A71 bite);let A17:=(L.Sq.mk A52 fun (i:Nat)=>L.Trg.mk A33 A59 A34);(g <= b - a - A23 /\ ∀ (j:Nat),j<g->L.dvM2 l r bite a b (a+A23+j)=Option.none)->(decide (A9<A14)=true->A55/\A67/\A82/\(A39 <= r.g (T A9)/\r.g (T A9)<A60)/\A56/\A68/\(L.bdP A70/\L.bdP (l.g (T A59))/\L.bdP A71/\A39 <= bite/\bite <= (4096:Int))/\(A54=true->InK .i64 (A9+A43) /\ ∃ (g':Nat),A9+A43=(↑(a+A23+g'):Int)/\A13=A13/\A14=A14/\nat_lit 0=nat_lit 0/\SV.ref A6 A7=SV.ref A6 A7/\SV.ref A8 A7=SV.ref A8 A7/\SV.ref [I bite] A7=SV.ref [I bite] A7/\nat_lit 0=nat_lit 0/\EV.cl A24 A1=EV.cl A24 A1/\A18/\(g' <= b - a - A23 /\ ∀ (j:Nat),j<g'->L.dvM2 l r bite a b (a+A23+j)=Option.none)/\b - a - g'<b - a - g)/\(A54=false -> ∃ (t:L.Sq L.Pt × L.Sq Int × Int × Nat × Nat),let A72:=[I t.snd.2.1];let A85:=(SV.ref A72 A7);let A41:=(L.dvF2 t.1 t.2.1 t.snd.2.1 t.snd.snd.2.1 t.snd.snd.2.2);let A37:=[SV.sl A52 t.2.1.n fun (i:Nat)=>[I (t.2.1.g i)]];let A84:=(SV.ref A37 A7);let A26:=[SV.sl A69 t.1.n fun (i:Nat)=>[I (t.1.g i).x,I (t.1.g i).y]];let A83:=(SV.ref A26 A7);let A21:=[EV.loc A77 A7,EV.p A83,EV.p A84,EV.p A85,EV.loc A78 A7];let A4:=(L.optL A41);let A29:=(L.Sq.mk A4.n fun (i:Nat)=>A4.g i);A13=(↑t.snd.snd.2.1:Int)/\A9=(↑t.snd.snd.2.2:Int)/\nat_lit 0=A25/\SV.ref A6 A7=SV.ref [SV.sl A73 t.1.n fun (i:Nat)=>[I (t.1.g i).x,I (t.1.g i).y]] A25/\SV.ref A8 A7=SV.ref [SV.sl A23 t.2.1.n fun (i:Nat)=>[I (t.2.1.g i)]] A25/\SV.ref [I bite] A7=SV.ref A72 A25/\nat_lit 0=A25/\EV.cl A24 A1=EV.cl A49 [EV.loc A61 A7,EV.p A83,EV.p A84,EV.p A85,EV.loc A62 A7]/\(∀ (a b:Int),L.noDv l r bite a b->L.noDv t.1 t.2.1 t.snd.2.1 a b)/\((L.okRow t.1 t.2.1 t.snd.2.1/\t.snd.snd.2.1<t.snd.snd.2.2/\t.snd.snd.2.2<t.2.1.n)/\t.snd.snd.2.2 - t.snd.snd.2.1<rn) /\ ∀ (u:Nat),True->((!L.hasO A41)=true->InK .i64 (A9+A43) /\ ∃ (g':Nat),A9+A43=(↑(a+A23+g'):Int)/\A13=A13/\A14=A14/\nat_lit 0=nat_lit 0/\SV.ref A6 A7=SV.ref A6 A7/\SV.ref A8 A7=SV.ref A8 A7/\SV.ref [I bite] A7=SV.ref [I bite] A7/\nat_lit 0=nat_lit 0/\EV.cl A24 A21=EV.cl A24 A1/\(∀ (a b:Int),L.noDv t.1 t.2.1 t.snd.2.1 a b->L.noDv l r bite a b)/\(g' <= b - a - A23 /\ ∀ (j:Nat),j<g'->L.dvM2 l r bite a b (a+A23+j)=Option.none)/\b - a - g'<b - a - g)/\((!L.hasO A41)=false -> ∃ (t_1:L.Sq L.Pt × L.Sq Int × Int × Nat × Nat),let A74:=(SV.ref [I t_1.snd.2.1] A7);let A50:=(∀ (a b:Int),L.noDv t_1.1 t_1.2.1 t_1.snd.2.1 a b->L.noDv l r bite a b);let A47:=(SV.ref [SV.sl A52 t_1.2.1.n fun (i:Nat)=>[I (t_1.2.1.g i)]] A7);let A45:=(SV.ref [SV.sl A69 t_1.1.n fun (i:Nat)=>[I (t_1.1.g i).x,I (t_1.1.g i).y]] A7);let A35:=(L.dvF2 t_1.1 t_1.2.1 t_1.snd.2.1 t_1.snd.snd.2.1 t_1.snd.snd.2.2);let A19:=[EV.loc A77 A7,EV.p A45,EV.p A47,EV.p A74,EV.loc A78 A7];let A2:=(L.optL A35);let A30:=(L.Sq.mk A2.n fun (i:Nat)=>A2.g i);let A79:=(L.thr A17 A29 A30 A25);A9=(↑t_1.snd.snd.2.1:Int)/\A14=(↑t_1.snd.snd.2.2:Int)/\nat_lit 0=A25/\SV.ref A26 A7=SV.ref [SV.sl A73 t_1.1.n fun (i:Nat)=>[I (t_1.1.g i).x,I (t_1.1.g i).y]] A25/\SV.ref A37 A7=SV.ref [SV.sl A23 t_1.2.1.n fun (i:Nat)=>[I (t_1.2.1.g i)]] A25/\SV.ref A72 A7=SV.ref [I t_1.snd.2.1] A25/\nat_lit 0=A25/\EV.cl A24 A21=EV.cl A49 [EV.loc A61 A7,EV.p A45,EV.p A47,EV.p A74,EV.loc A62 A7]/\(∀ (a b:Int),L.noDv t.1 t.2.1 t.snd.2.1 a b->L.noDv t_1.1 t_1.2.1 t_1.snd.2.1 a b)/\((L.okRow t_1.1 t_1.2.1 t_1.snd.2.1/\t_1.snd.snd.2.1<t_1.snd.snd.2.2/\t_1.snd.snd.2.2<t_1.2.1.n)/\t_1.snd.snd.2.2 - t_1.snd.snd.2.1<rn) /\ ∀ (u:Nat),True->(L.hasO A35=true->A55/\A82/\A56/\(((∀ (i:Nat),i<nat_lit 1->A86=A86)/\(∀ (i:Nat),let A63:=[I (A4.g i).a,I (A4.g i).b,I (A4.g i).c];i<A4.n->A63=A63) /\ ∀ (i:Nat),let A64:=[I (A2.g i).a,I (A2.g i).b,I (A2.g i).c];i<A2.n->A64=A64)/\(A23 <= A79.n/\A79.n <= A57)/\(L.thr A17 A29 A30 A23).n <= A57/\(L.thr A17 A29 A30 A73).n <= A57) /\ ∀ (t_2:Nat),True -> ∃ (u:Nat),((L.catT (L.thr A17 A29 A30) A87).n=A40.n /\ ∀ (i:Nat),let A12:=(L.catT (L.thr (L.Sq.mk A52 fun (i:Nat)=>L.Trg.mk A33 A59 A34) (L.Sq.mk A4.n fun (i:Nat)=>A4.g i) (L.Sq.mk A2.n fun (i:Nat)=>A2.g i)) A87);i<A12.n -> [I (A12.g i).a,I (A12.g i).b,I (A12.g i).c] = [I (A40.g i).a,I (A40.g i).b,I (A40.g i).c])/\true=L.hasO A15/\EV.cl A24 A19=EV.cl A49 A1/\A50/\True)/\(L.hasO A35=false->InK .i64 (A9+A43) /\ ∃ (g':Nat),A9+A43=(↑(a+A23+g'):Int)/\A13=A13/\A14=A14/\nat_lit 0=nat_lit 0/\SV.ref A6 A7=SV.ref A6 A7/\SV.ref A8 A7=SV.ref A8 A7/\SV.ref [I bite] A7=SV.ref [I bite] A7/\nat_lit 0=nat_lit 0/\EV.cl A24 A19=EV.cl A24 A1/\A50/\(g' <= b - a - A23 /\ ∀ (j:Nat),j<g'->L.dvM2 l r bite a b (a+A23+j)=Option.none)/\b - a - g'<b - a - g))))/\(decide (A9<A14)=false->true=true/\L.noDv l r bite A13 A14 /\ ∃ (u:Nat),A40.n=A25/\false=L.hasO A15/\EV.cl A24 A1=EV.cl A49 A1/\A18/\True)))/\(false=true -> ∃ (u:Nat),A40.n=A25/\false=L.hasO A15/\EV.cl A24 A1=EV.cl A49 A1/\A18/\True)/\(false=false->InK .i64 (A13+A43)/\A28 /\ ∀ (g:Nat),let A10:=(↑(a+A23+g):Int);let A80:=(A39 <= A10/\A10<A44);let A58:=(r.g (T A10));let A91:=[I A33,I A58,I A34];let A53:=(!L.lawf A70 (l.g (T A58)) A71 bite);let A16:=(L.Sq.mk A52 fun (i:Nat)=>L.Trg.mk A33 A58 A34);(g <= b - a - A23 /\ ∀ (j:Nat),j<g->L.dvM2 l r bite a b (a+A23+j)=Option.none)->(decide (A10<A14)=true->A55/\A67/\A80/\(A39 <= r.g (T A10)/\r.g (T A10)<A60)/\A56/\A68/\(L.bdP A70/\L.bdP (l.g (T A58))/\L.bdP A71/\A39 <= bite/\bite <= (4096:Int))/\(A53=true->InK .i64 (A10+A43) /\ ∃ (g':Nat),A10+A43=(↑(a+A23+g'):Int)/\A13=A13/\A14=A14/\nat_lit 0=nat_lit 0/\SV.ref A6 A7=SV.ref A6 A7/\SV.ref A8 A7=SV.ref A8 A7/\SV.ref [I bite] A7=SV.ref [I bite] A7/\nat_lit 0=nat_lit 0/\EV.cl A24 A1=EV.cl A24 A1/\A18/\(g' <= b - a - A23 /\ ∀ (j:Nat),j<g'->L.dvM2 l r bite a b (a+A23+j)=Option.none)/\b - a - g'<b - a - g)/\(A53=false -> ∃ (t:L.Sq L.Pt × L.Sq Int × Int × Nat × Nat),let A75:=[I t.snd.2.1];let A90:=(SV.ref A75 A7);let A42:=(L.dvF2 t.1 t.2.1 t.snd.2.1 t.snd.snd.2.1 t.snd.snd.2.2);let A38:=[SV.sl A52 t.2.1.n fun (i:Nat)=>[I (t.2.1.g i)]];let A89:=(SV.ref A38 A7);let A27:=[SV.sl A69 t.1.n fun (i:Nat)=>[I (t.1.g i).x,I (t.1.g i).y]];let A88:=(SV.ref A27 A7);let A22:=[EV.loc A77 A7,EV.p A88,EV.p A89,EV.p A90,EV.loc A78 A7];let A5:=(L.optL A42);let A31:=(L.Sq.mk A5.n fun (i:Nat)=>A5.g i);A13=(↑t.snd.snd.2.1:Int)/\A10=(↑t.snd.snd.2.2:Int)/\nat_lit 0=A25/\SV.ref A6 A7=SV.ref [SV.sl A73 t.1.n fun (i:Nat)=>[I (t.1.g i).x,I (t.1.g i).y]] A25/\SV.ref A8 A7=SV.ref [SV.sl A23 t.2.1.n fun (i:Nat)=>[I (t.2.1.g i)]] A25/\SV.ref [I bite] A7=SV.ref A75 A25/\nat_lit 0=A25/\EV.cl A24 A1=EV.cl A49 [EV.loc A61 A7,EV.p A88,EV.p A89,EV.p A90,EV.loc A62 A7]/\(∀ (a b:Int),L.noDv l r bite a b->L.noDv t.1 t.2.1 t.snd.2.1 a b)/\((L.okRow t.1 t.2.1 t.snd.2.1/\t.snd.snd.2.1<t.snd.snd.2.2/\t.snd.snd.2.2<t.2.1.n)/\t.snd.snd.2.2 - t.snd.snd.2.1<rn) /\ ∀ (u:Nat),True->((!L.hasO A42)=true->InK .i64 (A10+A43) /\ ∃ (g':Nat),A10+A43=(↑(a+A23+g'):Int)/\A13=A13/\A14=A14/\nat_lit 0=nat_lit 0/\SV.ref A6 A7=SV.ref A6 A7/\SV.ref A8 A7=SV.ref A8 A7/\SV.ref [I bite] A7=SV.ref [I bite] A7/\nat_lit 0=nat_lit 0/\EV.cl A24 A22=EV.cl A24 A1/\(∀ (a b:Int),L.noDv t.1 t.2.1 t.snd.2.1 a b->L.noDv l r bite a b)/\(g' <= b - a - A23 /\ ∀ (j:Nat),j<g'->L.dvM2 l r bite a b (a+A23+j)=Option.none)/\b - a - g'<b - a - g)/\((!L.hasO A42)=false -> ∃ (t_1:L.Sq L.Pt × L.Sq Int × Int × Nat × Nat),let A76:=(SV.ref [I t_1.snd.2.1] A7);let A51:=(∀ (a b:Int),L.noDv t_1.1 t_1.2.1 t_1.snd.2.1 a b->L.noDv l r bite a b);let A48:=(SV.ref [SV.sl A52 t_1.2.1.n fun (i:Nat)=>[I (t_1.2.1.g i)]] A7);let A46:=(SV.ref [SV.sl A69 t_1.1.n fun (i:Nat)=>[I (t_1.1.g i).x,I (t_1.1.g i).y]] A7);let A36:=(L.dvF2 t_1.1 t_1.2.1 t_1.snd.2.1 t_1.snd.snd.2.1 t_1.snd.snd.2.2);let A20:=[EV.loc A77 A7,EV.p A46,EV.p A48,EV.p A76,EV.loc A78 A7];let A3:=(L.optL A36);let A32:=(L.Sq.mk A3.n fun (i:Nat)=>A3.g i);let A81:=(L.thr A16 A31 A32 A25);A10=(↑t_1.snd.snd.2.1:Int)/\A14=(↑t_1.snd.snd.2.2:Int)/\nat_lit 0=A25/\SV.ref A27 A7=SV.ref [SV.sl A73 t_1.1.n fun (i:Nat)=>[I (t_1.1.g i).x,I (t_1.1.g i).y]] A25/\SV.ref A38 A7=SV.ref [SV.sl A23 t_1.2.1.n fun (i:Nat)=>[I (t_1.2.1.g i)]] A25/\SV.ref A75 A7=SV.ref [I t_1.snd.2.1] A25/\nat_lit 0=A25/\EV.cl A24 A22=EV.cl A49 [EV.loc A61 A7,EV.p A46,EV.p A48,EV.p A76,EV.loc A62 A7]/\(∀ (a b:Int),L.noDv t.1 t.2.1 t.snd.2.1 a b->L.noDv t_1.1 t_1.2.1 t_1.snd.2.1 a b)/\((L.okRow t_1.1 t_1.2.1 t_1.snd.2.1/\t_1.snd.snd.2.1<t_1.snd.snd.2.2/\t_1.snd.snd.2.2<t_1.2.1.n)/\t_1.snd.snd.2.2 - t_1.snd.snd.2.1<rn) /\ ∀ (u:Nat),True->(L.hasO A36=true->A55/\A80/\A56/\(((∀ (i:Nat),i<nat_lit 1->A91=A91)/\(∀ (i:Nat),let A65:=[I (A5.g i).a,I (A5.g i).b,I (A5.g i).c];i<A5.n->A65=A65) /\ ∀ (i:Nat),let A66:=[I (A3.g i).a,I (A3.g i).b,I (A3.g i).c];i<A3.n->A66=A66)/\(A23 <= A81.n/\A81.n <= A57)/\(L.thr A16 A31 A32 A23).n <= A57/\(L.thr A16 A31 A32 A73).n <= A57) /\ ∀ (t_2:Nat),True -> ∃ (u:Nat),((L.catT (L.thr A16 A31 A32) A87).n=A40.n /\ ∀ (i:Nat),let A11:=(L.catT (L.thr (L.Sq.mk A52 fun (i:Nat)=>L.Trg.mk A33 A58 A34) (L.Sq.mk A5.n fun (i:Nat)=>A5.g i) (L.Sq.mk A3.n fun (i:Nat)=>A3.g i)) A87);i<A11.n -> [I (A11.g i).a,I (A11.g i).b,I (A11.g i).c] = [I (A40.g i).a,I (A40.g i).b,I (A40.g i).c])/\true=L.hasO A15/\EV.cl A24 A20=EV.cl A49 A1/\A51/\True)/\(L.hasO A36=false->InK .i64 (A10+A43) /\ ∃ (g':Nat),A10+A43=(↑(a+A23+g'):Int)/\A13=A13/\A14=A14/\nat_lit 0=nat_lit 0/\SV.ref A6 A7=SV.ref A6 A7/\SV.ref A8 A7=SV.ref A8 A7/\SV.ref [I bite] A7=SV.ref [I bite] A7/\nat_lit 0=nat_lit 0/\EV.cl A24 A20=EV.cl A24 A1/\A51/\(g' <= b - a - A23 /\ ∀ (j:Nat),j<g'->L.dvM2 l r bite a b (a+A23+j)=Option.none)/\b - a - g'<b - a - g))))/\(decide (A10<A14)=false->true=true/\L.noDv l r bite A13 A14 /\ ∃ (u:Nat),A40.n=A25/\false=L.hasO A15/\EV.cl A24 A1=EV.cl A49 A1/\A18/\True)))) (by kernel_rfl) (by
 conv=>zeta
 have hp:L.okRow l r bite/\a<b/\b<r.n:=hp
 have hmu:b - a<rn+1:=hmu
 obtain ⟨hok,hab,hbr⟩:=hp
 obtain ⟨⟨hln,hrn,q0,q1⟩,hri,hli⟩:=id hok
 have ea:((a:Int)).toNat=a:=Int.toNat_natCast a
 have eb:((b:Int)).toNat=b:=Int.toNat_natCast b
 have no:∀ x y,L.noDv l r bite x y->L.noDv l r bite x y:=fun _ _ h=>h
 refine ⟨jK,fun h1=>?_,fun h1=>⟨fun hn=>⟨fun _=>?_,fun h=>(by cases h)⟩,(fun h=>by cases h),fun _=>⟨jK,⟨(0:Nat),by omega,Nat.zero_le _,fun j hj=>absurd hj (Nat.not_lt_zero _)⟩,fun g hg=>⟨fun hc=>?_,fun hc=>?_⟩⟩⟩⟩
 ·have h1:(b:Int)=(a:Int)+1:=of_decide_eq_true h1
  rw [dvF2_1 l r bite (show b=a+1 by omega) hbr]
  exact ⟨(0:Nat),rfl,rfl,rfl,no,trivial⟩
 ·have e : L.dvF2 l r bite a b = none := by
   have:=hn
   unfold L.noDv at this
   rwa [ea,eb] at this
  rw [e]
  exact ⟨(0:Nat),rfl,rfl,rfl,no,trivial⟩
 ·have h1:¬ (b:Int)=(a:Int)+1:=of_decide_eq_false h1
  have hc:((a+1+g:Nat):Int)<(b:Int):=of_decide_eq_true hc
  have hm:a+1+g<b:=by omega
  obtain ⟨hg1,hg2⟩:=hg
  have em:(((a+1+g:Nat):Int)).toNat=a+1+g:=Int.toNat_natCast _
  rw [ea,eb,em]
  have ra:=hri a (by omega)
  have rm:=hri (a+1+g) (by omega)
  have rb:=hri b hbr
  have cst:((a+1+g:Nat):Int)+1=((a+1+(g+1):Nat):Int):=by omega
  have w1:InK .i64 (((a+1+g:Nat):Int)+1):=jK
  have w2:g+1 <= b - a - 1:=by omega
  have w3:b - a - (g+1)<b - a - g:=by omega
  have nx:L.dvM2 l r bite a b (a+1+g)=none -> ∀ j,j<g+1->L.dvM2 l r bite a b (a+1+j)=none:=fun h j hj=>by
   rcases Nat.lt_succ_iff_lt_or_eq.1 hj with h' | rfl
   ·exact hg2 j h'
   ·exact h
  have i1:0 <= (a:Int)/\(a:Int)<(r.n:Int):=by omega
  have i2:0 <= ((a+1+g:Nat):Int)/\((a+1+g:Nat):Int)<(r.n:Int):=by omega
  have i3:0 <= (b:Int)/\(b:Int)<(r.n:Int):=by omega
  refine ⟨i1,ra,i2,rm,i3,rb,⟨hli _ (by omega),hli _ (by omega),hli _ (by omega),q0,q1⟩,fun hl=>?_,fun hl=>?_⟩
  ·have hl:L.dvL l r bite a (a+1+g) b=false:=notT hl
   have dn:L.dvM2 l r bite a b (a+1+g)=none:=by unfold L.dvM2 L.dvdM;rw [hl];rfl
   exact ⟨w1,g+1,cst,rfl,rfl,rfl,rfl,rfl,rfl,rfl,rfl,no,⟨w2,nx dn⟩,w3⟩
  have hl:L.dvL l r bite a (a+1+g) b=true:=notF hl
  have m1:a<a+1+g:=by omega
  have m2:a+1+g<r.n:=by omega
  have m3:a+1+g - a<rn:=by omega
  have m4:b - (a+1+g)<rn:=by omega
  refine ⟨(l,r,bite,a,a+1+g),rfl,rfl,rfl,rfl,rfl,rfl,rfl,rfl,no,⟨⟨hok,m1,m2⟩,m3⟩,fun u _=>⟨fun h2=>?_,fun h2=>?_⟩⟩
  ·have h2:L.hasO (L.dvF2 l r bite a (a+1+g))=false:=notT h2
   have dn:L.dvM2 l r bite a b (a+1+g)=none:=by
    unfold L.dvM2 L.dvdM
    rw [hl]
    cases hx:L.dvF2 l r bite a (a+1+g) with
    | none=>rfl
    | some x=>rw [hx] at h2;cases h2
   exact ⟨w1,g+1,cst,rfl,rfl,rfl,rfl,rfl,rfl,rfl,rfl,no,⟨w2,nx dn⟩,w3⟩
  have h2:L.hasO (L.dvF2 l r bite a (a+1+g))=true:=notF h2
  refine ⟨(l,r,bite,a+1+g,b),rfl,rfl,rfl,rfl,rfl,rfl,rfl,rfl,no,⟨⟨hok,hm,hbr⟩,m4⟩,fun u2 _=>⟨fun h3=>?_,fun h3=>?_⟩⟩
  ·have h3:L.hasO (L.dvF2 l r bite (a+1+g) b)=true:=h3
   have o1:=optL_len (l:=l) (r:=r) (bite:=bite) m1
   have o2:=optL_len (l:=l) (r:=r) (bite:=bite) hm
   have o3:(L.optL (L.dvF2 l r bite a (a+1+g))).n <= 10000:=by omega
   have o4:(L.optL (L.dvF2 l r bite (a+1+g) b)).n <= 10000:=by omega
   have key:((L.catT (L.thr ⟨1,fun _=>⟨r.g a,r.g (a+1+g),r.g b⟩⟩ (L.optL (L.dvF2 l r bite a (a+1+g))) (L.optL (L.dvF2 l r bite (a+1+g) b))) 3).n=(L.optL (L.dvF2 l r bite a b)).n /\ ∀ i,i<(L.catT (L.thr ⟨1,fun _=>⟨r.g a,r.g (a+1+g),r.g b⟩⟩ (L.optL (L.dvF2 l r bite a (a+1+g))) (L.optL (L.dvF2 l r bite (a+1+g) b))) 3).n->(L.catT (L.thr ⟨1,fun _=>⟨r.g a,r.g (a+1+g),r.g b⟩⟩ (L.optL (L.dvF2 l r bite a (a+1+g))) (L.optL (L.dvF2 l r bite (a+1+g) b))) 3).g i=(L.optL (L.dvF2 l r bite a b)).g i)/\L.hasO (L.dvF2 l r bite a b)=true:=by
    cases hx:L.dvF2 l r bite a (a+1+g) with
    | none=>rw [hx] at h2;cases h2
    | some x =>
      cases hy:L.dvF2 l r bite (a+1+g) b with
      | none=>rw [hy] at h3;cases h3
      | some y =>
        have e:L.dvF2 l r bite a b=some (⟨r.g a,r.g (a+1+g),r.g b⟩ :: (x ++ y)):=by
         rw [dvF2_go l r bite hab (by omega) hbr]
         refine fs_at (k:=g) ?_ hg2 (by omega)
         unfold L.dvM2 L.dvdM
         rw [hl,hx,hy];rfl
        rw [e]
        exact ⟨catT_opt _ x y,rfl⟩
   exact ⟨i1,i2,i3,⟨⟨fun _ _=>rfl,fun _ _=>rfl,fun _ _=>rfl⟩,⟨⟨by show 1 <= 1;omega,by show 1 <= 10000;omega⟩,o3,o4⟩⟩,fun _ _=>⟨(0:Nat),⟨key.1.1,fun i hi=>congrArg L.trC (key.1.2 i hi)⟩,key.2.symm,rfl,no,trivial⟩⟩
  ·have h3:L.hasO (L.dvF2 l r bite (a+1+g) b)=false:=h3
   have dn:L.dvM2 l r bite a b (a+1+g)=none:=by
    unfold L.dvM2 L.dvdM
    rw [hl]
    cases hx:L.dvF2 l r bite a (a+1+g) with
    | none=>rfl
    | some x =>
      cases hy:L.dvF2 l r bite (a+1+g) b with
      | none=>rfl
      | some y=>rw [hy] at h3;cases h3
   exact ⟨w1,g+1,cst,rfl,rfl,rfl,rfl,rfl,rfl,rfl,rfl,no,⟨w2,nx dn⟩,w3⟩
 ·have h1:¬ (b:Int)=(a:Int)+1:=of_decide_eq_false h1
  have hc:¬ ((a+1+g:Nat):Int)<(b:Int):=of_decide_eq_false hc
  obtain ⟨hg1,hg2⟩:=hg
  obtain rfl:g=b - a - 1:=by omega
  have e:L.dvF2 l r bite a b=none:=by
   rw [dvF2_go l r bite hab (by omega) hbr]
   exact fs_none hg2
  have e2:L.noDv l r bite a b:=by unfold L.noDv;rw [ea,eb];exact e
  rw [e]
  exact ⟨rfl,e2,(0:Nat),rfl,rfl,rfl,no,trivial⟩)
theorem c_bt1_en:Enters Tryz.prog 184:=fun args w=>by kernel_rfl
theorem c_bt1_mok:MkOk Tryz.prog 184 c_bt1_mk:=mk_rec c_bt1_mu ⟨fun t=>rfl,fun t u=>rfl,fun t u=>rfl,fun t u=>⟨rfl,rfl,rfl⟩,.inl rfl,fun k h=>(by cases h)⟩ (fun rn ih=>mk_ok (n:=7) Tryz.func184 (c:=bodyOf Tryz.f184) (by kernel_rfl) mixed ⟨fun t=>rfl,fun t=>rfl,fun t u=>rfl,fun t u=>rfl,fun t u=>rfl,fun t u=>⟨rfl,rfl⟩,by kernel_rfl,by kernel_rfl⟩ (fun ⟨l,r,bite,a,b⟩ hp=>⟨_,c_bt1_vc rn l r bite a b hp.1 hp.2,⟨show SpecsL Tryz.prog _ from (SpecsL.cons c_lawful_ok c_lawful_en (SpecsL.cons s_catT_ok s_catT_en SpecsL.nil)),rfl,⟨show ItersL Tryz.prog _ from ItersL.nil,⟨TrsOk.no1 (fun _=>rfl),⟨show MksL Tryz.prog _ from (MksL.cons ih c_bt1_en MksL.nil),FamsOk.none (fun _=>rfl)⟩⟩⟩⟩⟩))
abbrev c_bites_mk:Mk:={ T:=(L.Sq L.Pt) × (L.Sq Int) × (Int),U:=Nat,args:=fun t=>(fun l r bite=>[.p ((.sl 2 l.n (fun i=>[.int .i64 ((l.g i).x),.int .i64 ((l.g i).y)]))),.p ((.sl 1 r.n (fun i=>[.int .i64 ((r.g i))]))),.p (.int .i64 bite)]) t.1 t.2.1 t.2.2,lkeys:=[],keys:=[],lent:=fun t=>(fun l r bite=>[]) t.1 t.2.1 t.2.2,pre:=fun t=>(fun l r bite=>L.okRow l r bite/\2 <= r.n) t.1 t.2.1 t.2.2,post:=fun t u=>(fun l r bite=>fun uu=>True) t.1 t.2.1 t.2.2 u,lent':=fun t u=>(fun l r bite=>fun uu=>[]) t.1 t.2.1 t.2.2 u,own:=fun t u=>(fun l r bite=>fun uu=>[]) t.1 t.2.1 t.2.2 u,res:=fun t u=>(fun l r bite=>fun uu=>.p (.tup [.sl 3 (L.optL (L.btR l r bite)).n (fun i=>[.int .i64 (((L.optL (L.btR l r bite)).g i).a),.int .i64 (((L.optL (L.btR l r bite)).g i).b),.int .i64 (((L.optL (L.btR l r bite)).g i).c)]),.bool (L.hasO (L.btR l r bite))])) t.1 t.2.1 t.2.2 u }
theorem c_bites_vc (l:L.Sq L.Pt) (r:L.Sq Int) (bite:Int) (hp:c_bites_mk.pre (l,r,bite)):vc Tryz.prog ({ cC with muts:=[8,9],mks:=lookK [(184,c_bt1_mk)],ren:=fun k=>if k=1000 then 8 else if k=1001 then 9 else if k=1002 then 10 else k,mss:=lookMs [(10,L.noDv l r bite)] }) (bodyOf Tryz.f150) (stTr Tryz.f150 (c_bites_mk.args (l,r,bite)) (c_bites_mk.lent (l,r,bite))) (retMk Tryz.prog Tryz.f150 c_bites_mk (l,r,bite)) :=
 @Eq.mpr _ (let I:=SV.int .i64;let A7:=(0:Nat);let A5:=[SV.sl (nat_lit 1) r.n fun (i:Nat)=>[I (r.g i)]];let A4:=(L.optL (L.btR l r bite));let A3:=[SV.sl (nat_lit 2) l.n fun (i:Nat)=>[I (l.g i).x,I (l.g i).y]];let A2:=(nat_lit 0);InK .i64 ((↑r.n:Int) - (1:Int)) /\ ∃ (t:L.Sq L.Pt × L.Sq Int × Int × Nat × Nat),let A1:=(L.dvF2 t.1 t.2.1 t.snd.2.1 t.snd.snd.2.1 t.snd.snd.2.2);let A6:=(L.optL A1);(0:Int)=(↑t.snd.snd.2.1:Int)/\(↑r.n:Int) - (1:Int)=(↑t.snd.snd.2.2:Int)/\nat_lit 0=A7/\SV.ref A3 A2=SV.ref [SV.sl (2:Nat) t.1.n fun (i:Nat)=>[I (t.1.g i).x,I (t.1.g i).y]] A7/\SV.ref A5 A2=SV.ref [SV.sl (1:Nat) t.2.1.n fun (i:Nat)=>[I (t.2.1.g i)]] A7/\SV.ref [I bite] A2=SV.ref [I t.snd.2.1] A7/\nat_lit 0=A7/\EV.cl (nat_lit 184) [EV.loc (nat_lit 8) A2,EV.p (SV.ref A3 A2),EV.p (SV.ref A5 A2),EV.p (SV.ref [I bite] A2),EV.loc (nat_lit 9) A2]=EV.cl (184:Nat) [EV.loc (8:Nat) A2,EV.p (SV.ref [SV.sl (nat_lit 2) t.1.n fun (i:Nat)=>[I (t.1.g i).x,I (t.1.g i).y]] A2),EV.p (SV.ref [SV.sl (nat_lit 1) t.2.1.n fun (i:Nat)=>[I (t.2.1.g i)]] A2),EV.p (SV.ref [I t.snd.2.1] A2),EV.loc (9:Nat) A2]/\(∀ (a b:Int),L.noDv l r bite a b->L.noDv t.1 t.2.1 t.snd.2.1 a b)/\(L.okRow t.1 t.2.1 t.snd.2.1/\t.snd.snd.2.1<t.snd.snd.2.2/\t.snd.snd.2.2<t.2.1.n) /\ ∀ (u:Nat),True -> ∃ (u:Nat),(A6.n=A4.n /\ ∀ (i:Nat),i<A6.n -> [I (A6.g i).a,I (A6.g i).b,I (A6.g i).c] = [I (A4.g i).a,I (A4.g i).b,I (A4.g i).c])/\L.hasO A1=L.hasO (L.btR l r bite)/\True) (by kernel_rfl) (by
 conv=>zeta
 have hp:L.okRow l r bite/\2 <= r.n:=hp
 obtain ⟨hok,h2⟩:=hp
 obtain ⟨⟨hln,hrn,q0,q1⟩,hri,hli⟩:=id hok
 exact ⟨jK,(l,r,bite,0,r.n - 1),rfl,by show (r.n:Int) - 1=((r.n - 1:Nat):Int);omega,rfl,rfl,rfl,rfl,rfl,rfl,fun _ _ h=>h,⟨hok,by show 0<r.n - 1;omega,by show r.n - 1<r.n;omega⟩,fun _ _=>⟨(0:Nat),⟨rfl,fun _ _=>rfl⟩,rfl,trivial⟩⟩)
theorem c_bites_en:Enters Tryz.prog 150:=fun args w=>by kernel_rfl
theorem c_bites_mok:MkOk Tryz.prog 150 c_bites_mk:=mk_ok (n:=3) Tryz.func150 (c:=bodyOf Tryz.f150) (by kernel_rfl) mixed ⟨fun t=>rfl,fun t=>rfl,fun t u=>rfl,fun t u=>rfl,fun t u=>rfl,fun t u=>⟨rfl,rfl⟩,by kernel_rfl,by kernel_rfl⟩ (fun ⟨l,r,bite⟩ hp=>⟨_,c_bites_vc l r bite hp,⟨show SpecsL Tryz.prog _ from SpecsL.nil,rfl,⟨show ItersL Tryz.prog _ from ItersL.nil,⟨TrsOk.no1 (fun _=>rfl),⟨show MksL Tryz.prog _ from (MksL.cons c_bt1_mok c_bt1_en MksL.nil),FamsOk.none (fun _=>rfl)⟩⟩⟩⟩⟩)
end Go.Proofs.YtpgaejicfbpcmaaGreat
namespace Go.Proofs.YtpgaejicfbpcmaaGreat
open Go.SE Go.RowKit
set_option maxRecDepth 100000
set_option maxHeartbeats 4000000
set_option linter.unusedVariables false
attribute [local irreducible] vc
def L.pkEq (a b:L.Pocket):Bool:=decide (a.fr=b.fr) && (decide (a.to_=b.to_) && decide (a.area=b.area))
def L.pkIdx (l:L.Sq L.Pocket) (v:L.Pocket):Int:=L.idx l.n (fun i=>L.pkEq v (l.g i))
def L.pkHas (l:L.Sq L.Pt) (p:L.Pocket):Bool:=L.anyB (L.pkN l) fun i=>L.pkEq p ((L.pks l).g i)
def L.pocE (l:L.Sq L.Pt) (p:L.Pocket) (bite:Int):Int:=bif (bif (bif !decide ((bif L.validOutline l then (0:Int) else 1)=0) then true else !L.within bite 0 4096) then true else !L.pkHas l p) then 1 else bif !L.hasO (L.pkB l p bite) then 51 else 0
def L.pocR (l:L.Sq L.Pt) (p:L.Pocket) (bite:Int):L.Sq L.Trg:=L.optL (bif decide (L.pocE l p bite=0) then L.pkB l p bite else none)
def L.okPks (l:L.Sq L.Pt):Prop:=∀ i,i<(L.pks l).n->L.okPk l.n ((L.pks l).g i)
theorem pkEq_eq {a b:L.Pocket} (h:L.pkEq a b=true):a=b:=by
 unfold L.pkEq at h
 simp only [Bool.and_eq_true,decide_eq_true_eq] at h
 cases a;cases b
 simp only [L.Pocket.mk.injEq]
 exact h
theorem anyB_perm {α:Type} {n:Nat} {f u:Nat->α} {q:α->Bool} (h:((List.range n).map u).Perm ((List.range n).map f)):L.anyB n (fun i=>q (u i))=L.anyB n (fun i=>q (f i)):=by
 rw [Bool.eq_iff_iff,anyB_iff,anyB_iff]
 have k:∀ g:Nat->α,(∃ i,i<n/\q (g i)=true) ↔ ∃ x,x ∈ (List.range n).map g/\q x=true:=fun g=>by
  constructor
  ·rintro ⟨i,hi,h⟩;exact ⟨g i,List.mem_map.2 ⟨i,List.mem_range.2 hi,rfl⟩,h⟩
  ·rintro ⟨x,hx,h⟩
   obtain ⟨i,hi,rfl⟩:=List.mem_map.1 hx
   exact ⟨i,List.mem_range.1 hi,h⟩
 rw [k,k]
 exact ⟨fun ⟨x,hx,h1⟩=>⟨x,h.mem_iff.1 hx,h1⟩,fun ⟨x,hx,h1⟩=>⟨x,h.mem_iff.2 hx,h1⟩⟩
theorem okRow_pk {l:L.Sq L.Pt} {p:L.Pocket} {bite:Int} (hv:L.validOutline l=true) (hk:L.okPk l.n p) (h0:0 <= bite) (h1:bite <= 4096):L.okRow l (L.pkRw l p) bite/\2 <= (L.pkRw l p).n:=by
 obtain ⟨n3,n24,_,_⟩:=validOutline_of hv
 obtain ⟨d1,d2,f0,f1,fr,fe,fs⟩:=row_facts hk
 refine ⟨⟨⟨by omega,by show L.rowD l.n p+1 <= 1000;omega,h0,h1⟩,fun i hi=>fr i (by have hi:i<L.rowD l.n p+1:=hi;omega),fun i hi=>vPt_iff.1 (vPts_of hv i hi)⟩,by show 2 <= L.rowD l.n p+1;omega⟩
theorem pks_len {l:L.Sq L.Pt} (hv:L.validOutline l=true):(L.pks l).n <= 1000:=by
 obtain ⟨n3,n24,_,_⟩:=validOutline_of hv
 have cl:∀ m:L.Sq L.Pt,(L.chain m).n <= m.n:=fun m=>by
  have:=chainTo_len m m.n
  show (L.chainTo m m.n).length - 1 <= m.n
  omega
 have c1:(L.chain (L.sorted l)).n <= l.n:=cl (L.sorted l)
 have c2:(L.chain (L.revd (L.sorted l))).n <= l.n:=cl (L.revd (L.sorted l))
 have h1:(L.hull l).n <= 1000:=by
  show 0+(L.chain (L.sorted l)).n+(L.chain (L.revd (L.sorted l))).n <= 1000
  omega
 have h2:(L.pks l).n <= (L.hull l).n:=cnt_le
 omega
def s_idxPk_p (l:(L.Sq L.Pocket)) (v:L.Pocket):Prop:=l.n <= 1000000
def s_idxPk_r (l:(L.Sq L.Pocket)) (v:L.Pocket):SV:=.int .i64 (L.pkIdx l v)
def s_idxPk_s:List EV->Option (Prop × SV)
 | [.p (.sl 3 l_n l_g),.p (.agg [.int .i64 v_fr,.int .i64 v_to_,.int .i64 v_area])]=>some ((∀ i,i<l_n->l_g i = [.int .i64 ((ofPocket (l_g i)).fr),.int .i64 ((ofPocket (l_g i)).to_),.int .i64 ((ofPocket (l_g i)).area)])/\s_idxPk_p (⟨l_n,fun i=>ofPocket (l_g i)⟩:(L.Sq L.Pocket)) (⟨v_fr,v_to_,v_area⟩:L.Pocket),s_idxPk_r (⟨l_n,fun i=>ofPocket (l_g i)⟩:(L.Sq L.Pocket)) (⟨v_fr,v_to_,v_area⟩:L.Pocket))
 | _=>none
abbrev s_idxPk_S:SE.Spec:=(specO s_idxPk_s)
def s_idxPk_C:Cfg:={ muts:=[],frz:=lookN [],specs:=lookS [],loops:=fun _=>none,iters:=lookI [],rfs:=lookR [],nils:=lookM [] }
theorem s_idxPk_vc (l:(L.Sq L.Pocket)) (v:L.Pocket) (hp:s_idxPk_p l v):vc Tryz.prog ({ s_idxPk_C with loops:=lookL [(2,{ T:=Nat,keep:=[0,3,6,7],keepO:=[],chg:=fun i=>[(8,.p (.int .i64 i))],own:=fun _=>[],inv:=fun i=>i <= l.n/\(∀ j,j<i->L.pkEq v (l.g j)=false),mu:=fun i=>l.n - i })],rfs:=lookR [] }) (bodyOf Tryz.f148) (st0 Tryz.f148 [.p (.sl 3 l.n (fun i=>[.int .i64 ((l.g i).fr),.int .i64 ((l.g i).to_),.int .i64 ((l.g i).area)])),.p (.agg [.int .i64 v.fr,.int .i64 v.to_,.int .i64 v.area])]) (retFn Tryz.prog Tryz.f148 (s_idxPk_r l v)) :=
 @Eq.mpr _ (let I:=SV.int .i64;let T:=Int.toNat;let A6:=[I v.fr,I v.to_,I v.area];let A5:=(↑l.n:Int);let A2:=(l.n=l.n /\ ∀ (i:Nat),let A4:=[I (l.g i).fr,I (l.g i).to_,I (l.g i).area];i<l.n->A4=A4);(∃ (g:Nat),(0:Int)=(↑g:Int)/\g <= l.n /\ ∀ (j:Nat),j<g->L.pkEq v (l.g j)=false) /\ ∀ (g:Nat),let A3:=(↑g:Int);let A7:=(l.g (T A3));let A1:=(decide (v.fr=A7.fr) && (decide (v.to_=A7.to_) && decide (v.area=A7.area)));(g <= l.n /\ ∀ (j:Nat),j<g->L.pkEq v (l.g j)=false)->(decide (A3<A5)=true->((0:Int) <= A3/\A3<A5)/\(A1=true->A3=L.pkIdx l v)/\(A1=false->InK .i64 (A3+(1:Int)) /\ ∃ (g':Nat),A3+(1:Int)=(↑g':Int)/\A5=A5/\A2/\SV.ref A6 (nat_lit 0)=SV.ref A6 (nat_lit 0)/\A2/\(g' <= l.n /\ ∀ (j:Nat),j<g'->L.pkEq v (l.g j)=false)/\l.n - g'<l.n - g))/\(decide (A3<A5)=false->(-1:Int)=L.pkIdx l v)) (by kernel_rfl) (by
 conv=>zeta
 have hn:l.n <= 1000000:=hp
 refine ⟨⟨(0:Nat),rfl,Nat.zero_le _,fun j hj=>absurd hj (Nat.not_lt_zero _)⟩,fun g hg=>⟨fun hlt=>?_,fun hge=>?_⟩⟩
 ·have hb:(g:Int)<(l.n:Int):=of_decide_eq_true hlt
  have e0:((g:Int)).toNat=g:=by omega
  rw [e0]
  refine ⟨⟨by omega,hb⟩,fun h=>?_,fun h=>?_⟩
  ·have h:L.pkEq v (l.g g)=true:=h
   exact (idx_at (f:=fun i=>L.pkEq v (l.g i)) hg.2 h (by omega)).symm
  ·have h:L.pkEq v (l.g g)=false:=h
   exact ⟨jK,g+1,by omega,rfl,⟨rfl,fun _ _=>rfl⟩,rfl,⟨rfl,fun _ _=>rfl⟩,⟨by omega,fun j hj=>by
    rcases Nat.lt_succ_iff_lt_or_eq.1 hj with h' | rfl
    ·exact hg.2 j h'
    ·exact h⟩,by omega⟩
 ·have hb:¬ (g:Int)<(l.n:Int):=of_decide_eq_false hge
  exact (idx_none (f:=fun i=>L.pkEq v (l.g i)) (fun j hj=>hg.2 j (by omega))).symm)
theorem s_idxPk_ok:SpecOk Tryz.prog 148 s_idxPk_S:=fnX Tryz.func148 (c:=bodyOf Tryz.f148) (by kernel_rfl) mixed (fun args p r hs hp=>by
 unfold s_idxPk_s at hs
 split at hs
 ·cases hs;exact ⟨_,_,s_idxPk_vc _ _ hp.2,(.p (.sl hp.1) (.same _ .nil)),⟨show SpecsL Tryz.prog _ from SpecsL.nil,rfl,⟨show ItersL Tryz.prog _ from ItersL.nil,(TrsOk.none (fun _=>rfl))⟩⟩⟩
 ·cases hs)
theorem s_idxPk_en:Enters Tryz.prog 148:=fun args w=>by kernel_rfl
def s_conPk_p (l:(L.Sq L.Pocket)) (v:L.Pocket):Prop:=l.n <= 1000000
def s_conPk_r (l:(L.Sq L.Pocket)) (v:L.Pocket):SV:=.bool (L.anyB l.n fun i=>L.pkEq v (l.g i))
def s_conPk_s:List EV->Option (Prop × SV)
 | [.p (.sl 3 l_n l_g),.p (.agg [.int .i64 v_fr,.int .i64 v_to_,.int .i64 v_area])]=>some ((∀ i,i<l_n->l_g i = [.int .i64 ((ofPocket (l_g i)).fr),.int .i64 ((ofPocket (l_g i)).to_),.int .i64 ((ofPocket (l_g i)).area)])/\s_conPk_p (⟨l_n,fun i=>ofPocket (l_g i)⟩:(L.Sq L.Pocket)) (⟨v_fr,v_to_,v_area⟩:L.Pocket),s_conPk_r (⟨l_n,fun i=>ofPocket (l_g i)⟩:(L.Sq L.Pocket)) (⟨v_fr,v_to_,v_area⟩:L.Pocket))
 | _=>none
abbrev s_conPk_S:SE.Spec:=(specO s_conPk_s)
def s_conPk_C:Cfg:={ cC with specs:=lookS [(148,s_idxPk_S)] }
theorem s_conPk_vc (l:(L.Sq L.Pocket)) (v:L.Pocket) (hp:s_conPk_p l v):vc Tryz.prog (s_conPk_C) (bodyOf Tryz.f104) (st0 Tryz.f104 [.p (.sl 3 l.n (fun i=>[.int .i64 ((l.g i).fr),.int .i64 ((l.g i).to_),.int .i64 ((l.g i).area)])),.p (.agg [.int .i64 v.fr,.int .i64 v.to_,.int .i64 v.area])]) (retFn Tryz.prog Tryz.f104 (s_conPk_r l v)) :=
 @Eq.mpr _ (let I:=SV.int .i64;((∀ (i:Nat),let A1:=[I (l.g i).fr,I (l.g i).to_,I (l.g i).area];i<l.n->A1=A1)/\l.n <= (1000000:Nat))/\decide ((0:Int) <= L.pkIdx (L.Sq.mk l.n fun (i:Nat)=>l.g i) v)=L.anyB l.n fun (i:Nat)=>L.pkEq v (l.g i)) (by kernel_rfl) (by
 conv=>zeta
 refine ⟨⟨fun _ _=>rfl,hp⟩,idx_any⟩)
theorem s_conPk_ok:SpecOk Tryz.prog 104 s_conPk_S:=fnX Tryz.func104 (c:=bodyOf Tryz.f104) (by kernel_rfl) mixed (fun args p r hs hp=>by
 unfold s_conPk_s at hs
 split at hs
 ·cases hs;exact ⟨_,_,s_conPk_vc _ _ hp.2,(.p (.sl hp.1) (.same _ .nil)),⟨show SpecsL Tryz.prog _ from (SpecsL.cons s_idxPk_ok s_idxPk_en SpecsL.nil),rfl,⟨show ItersL Tryz.prog _ from ItersL.nil,(TrsOk.none (fun _=>rfl))⟩⟩⟩
 ·cases hs)
theorem s_conPk_en:Enters Tryz.prog 104:=fun args w=>by kernel_rfl
def c_pocket_p (l:(L.Sq L.Pt)) (p:L.Pocket) (b:Int):Prop:=L.validOutline l=true/\L.okPk l.n p/\0 <= b/\b <= 4096
def c_pocket_r (l:(L.Sq L.Pt)) (p:L.Pocket) (b:Int):SV:=.tup [.sl 3 (L.optL (L.pkB l p b)).n (fun i=>[.int .i64 (((L.optL (L.pkB l p b)).g i).a),.int .i64 (((L.optL (L.pkB l p b)).g i).b),.int .i64 (((L.optL (L.pkB l p b)).g i).c)]),.bool (L.hasO (L.pkB l p b))]
def c_pocket_s:List EV->Option (Prop × SV)
 | [.p (.sl 2 l_n l_g),.p (.agg [.int .i64 p_fr,.int .i64 p_to_,.int .i64 p_area]),.p (.int .i64 b)]=>some ((∀ i,i<l_n->l_g i = [.int .i64 ((ofPt (l_g i)).x),.int .i64 ((ofPt (l_g i)).y)])/\c_pocket_p (⟨l_n,fun i=>ofPt (l_g i)⟩:(L.Sq L.Pt)) (⟨p_fr,p_to_,p_area⟩:L.Pocket) b,c_pocket_r (⟨l_n,fun i=>ofPt (l_g i)⟩:(L.Sq L.Pt)) (⟨p_fr,p_to_,p_area⟩:L.Pocket) b)
 | _=>none
abbrev c_pocket_S:SE.Spec:=(specO c_pocket_s)
def c_pocket_C:Cfg:={ cC with specs:=lookS [(149,c_hollow_S),(151,c_row_S)],mks:=lookK [(150,c_bites_mk)],ren:=fun k=>k - 1000 }
theorem c_pocket_vc (l:(L.Sq L.Pt)) (p:L.Pocket) (b:Int) (hp:c_pocket_p l p b):vc Tryz.prog (c_pocket_C) (bodyOf Tryz.f105) (st0 Tryz.f105 [.p (.sl 2 l.n (fun i=>[.int .i64 ((l.g i).x),.int .i64 ((l.g i).y)])),.p (.agg [.int .i64 p.fr,.int .i64 p.to_,.int .i64 p.area]),.p (.int .i64 b)]) (retFn Tryz.prog Tryz.f105 (c_pocket_r l p b)) :=
  @Eq.mpr _ (let I:=SV.int .i64;let A6:=(L.pkB l p b);let A4:=(↑l.n:Int);let A3:=(L.Sq.mk l.n fun (i:Nat)=>l.g i);let A2:=(L.optL A6);((∀ (i:Nat),let A5:=[I (l.g i).x,I (l.g i).y];i<l.n->A5=A5)/\L.validOutline A3=true/\L.okPk A4 p)/\((!L.hol A3 p)=true->A2.n=(0:Nat)/\false=L.hasO A6)/\((!L.hol A3 p)=false->(A4 <= (1000:Int)
 /\ L.okPk A4 p) /\ ∃ (t:L.Sq L.Pt × L.Sq Int × Int),let A7:=(L.btR t.1 t.2.1 t.2.2);let A1:=(L.optL A7);(l.n=t.1.n /\ ∀ (i:Nat),i<l.n -> [I (l.g i).x,I (l.g i).y] = [I (t.1.g i).x,I (t.1.g i).y])/\(L.rowD A4 p+(1:Nat)=t.2.1.n /\ ∀ (i:Nat),i<L.rowD A4 p+(1:Nat) -> [I (L.rowI A4 p i)] = [I (t.2.1.g i)])/\b=t.2.2/\(L.okRow t.1 t.2.1 t.2.2/\(2:Nat) <= t.2.1.n) /\ ∀ (u
:Nat),True->(A1.n=A2.n /\ ∀ (i:Nat),i<A1.n -> [I (A1.g i).a,I (A1.g i).b,I (A1.g i).c] = [I (A2.g i).a,I (A2.g i).b,I (A2.g i).c])/\L.hasO A7=L.hasO A6)) (by kernel_rfl) (by
 conv=>zeta
 obtain ⟨hv,hk,h0,h1⟩:=(show L.validOutline l=true/\L.okPk l.n p/\0 <= b/\b <= 4096 from hp)
 obtain ⟨ok,h2⟩:=okRow_pk hv hk h0 h1
 obtain ⟨n3,n24,_,_⟩:=validOutline_of hv
 refine ⟨⟨fun _ _=>rfl,hv,hk⟩,fun h=>?_,fun h=>⟨⟨by omega,hk⟩,(l,L.pkRw l p,b),⟨rfl,fun _ _=>rfl⟩,⟨rfl,fun _ _=>rfl⟩,rfl,⟨ok,h2⟩,fun _ _=>?_⟩⟩
 ·have h:(!L.hol l p)=true:=h
  have e:L.pkB l p b=none:=by unfold L.pkB;rw [h];rfl
  rw [e];exact ⟨rfl,rfl⟩
 ·have h:(!L.hol l p)=false:=h
  have e:L.pkB l p b=L.btR l (L.pkRw l p) b:=by unfold L.pkB;rw [h];rfl
  rw [e];exact ⟨⟨rfl,fun _ _=>rfl⟩,rfl⟩)
theorem c_pocket_ok:SpecOk Tryz.prog 105 c_pocket_S:=fnX Tryz.func105 (c:=bodyOf Tryz.f105) (by kernel_rfl) mixed (fun args p r hs hp=>by
 unfold c_pocket_s at hs
 split at hs
 ·cases hs;exact ⟨_,_,c_pocket_vc _ _ _ hp.2,(.p (.sl hp.1) (.same _ (.same _ .nil))),⟨show SpecsL Tryz.prog _ from (SpecsL.cons c_hollow_ok c_hollow_en (SpecsL.cons c_row_ok c_row_en SpecsL.nil)),rfl,⟨show ItersL Tryz.prog _ from ItersL.nil,⟨TrsOk.no1 (fun _=>rfl),⟨show MksL Tryz.prog _ from (MksL.cons c_bites_mok c_bites_en MksL.nil),FamsOk.none (fun _=>rfl)⟩⟩⟩⟩⟩
 ·cases hs)
theorem c_pocket_en:Enters Tryz.prog 105:=fun args w=>by kernel_rfl
def c_Pocket_p (l:(L.Sq L.Pt)) (p:L.Pocket) (b:Int):Prop:=l.n <= 1000000/\(L.validOutline l=true->L.okPks l)
def c_Pocket_r (l:(L.Sq L.Pt)) (p:L.Pocket) (b:Int):SV:=.tup [.sl 3 (L.pocR l p b).n (fun i=>[.int .i64 (((L.pocR l p b).g i).a),.int .i64 (((L.pocR l p b).g i).b),.int .i64 (((L.pocR l p b).g i).c)]),.int .i64 (L.pocE l p b)]
def c_Pocket_s:List EV->Option (Prop × SV)
 | [.p (.sl 2 l_n l_g),.p (.agg [.int .i64 p_fr,.int .i64 p_to_,.int .i64 p_area]),.p (.int .i64 b)]=>some ((∀ i,i<l_n->l_g i = [.int .i64 ((ofPt (l_g i)).x),.int .i64 ((ofPt (l_g i)).y)])/\c_Pocket_p (⟨l_n,fun i=>ofPt (l_g i)⟩:(L.Sq L.Pt)) (⟨p_fr,p_to_,p_area⟩:L.Pocket) b,c_Pocket_r (⟨l_n,fun i=>ofPt (l_g i)⟩:(L.Sq L.Pt)) (⟨p_fr,p_to_,p_area⟩:L.Pocket) b)
 | _=>none
abbrev c_Pocket_S:SE.Spec:=(specO c_Pocket_s)
def c_Pocket_C:Cfg:={ cC with specs:=lookS [(103,p_Pockets_S),(61,c_within_S),(104,s_conPk_S),(105,c_pocket_S)] }
theorem c_Pocket_vc (l:(L.Sq L.Pt)) (p:L.Pocket) (b:Int) (hp:c_Pocket_p l p b):vc Tryz.prog (c_Pocket_C) (bodyOf Tryz.f47) (st0 Tryz.f47 [.p (.sl 2 l.n (fun i=>[.int .i64 ((l.g i).x),.int .i64 ((l.g i).y)])),.p (.agg [.int .i64 p.fr,.int .i64 p.to_,.int .i64 p.area]),.p (.int .i64 b)]) (retFn Tryz.prog Tryz.f47 (c_Pocket_r l p b)) :=
 @Eq.mpr _ (let I:=SV.int .i64;let A11:=(4096:Int);let A7:=(0:Int);let A6:=(L.pocR l p b);let A5:=(∀ (i:Nat),let A9:=[I (l.g i).x,I (l.g i).y];i<l.n->A9=A9);let A1:=(L.Sq.mk l.n fun (i:Nat)=>l.g i);let A10:=(L.pkB A1 p b);let A4:=(bif L.validOutline A1 then A7 else (1:Int));(A5/\l.n <= (1000000:Nat)) /\ ∀ (t:Nat->L.Pocket),let A2:=(bif bif !decide (A4=A7) then true else !L.within b A7 A11 then true else !L.anyB (L.pkN A1) fun (i:Nat)=>L.pkEq p (t i));(L.validOutline A1=true->SortedBy L.cmpFr (L.pks A1).n (L.pks A1).g t)->((!!decide (A4=A7))=true->True)/\((!bif !decide (A4=A7) then true else !L.within b A7 A11)=true->(∀ (i:Nat),let A8:=[I (t i).fr,I (t i).to_,I (t i).area];i<L.pkN (L.Sq.mk l.n fun (i:Nat)=>l.g i)->A8=A8)/\L.pkN A1 <= (1000000:Nat))/\(A2=true->A6.n=(0:Nat)/\(1:Int)=L.pocE l p b)/\(A2=false->(A5/\L.validOutline A1=true/\L.okPk (↑l.n:Int) p/\A7 <= b/\b <= A11)/\((!L.hasO A10)=true->A6.n=(0:Nat)/\(51:Int)=L.pocE l p b)/\((!L.hasO A10)=false->((L.optL A10).n=A6.n /\ ∀ (i:Nat),let A3:=(L.optL (L.pkB (L.Sq.mk l.n fun (i:Nat)=>l.g i) p b));i<A3.n -> [I (A3.g i).a,I (A3.g i).b,I (A3.g i).c] = [I (A6.g i).a,I (A6.g i).b,I (A6.g i).c])/\A7=L.pocE l p b))) (by kernel_rfl) (by
 conv=>zeta
 obtain ⟨hn,hok⟩:=(show l.n <= 1000000/\(L.validOutline l=true->L.okPks l) from hp)
 refine ⟨⟨fun _ _=>rfl,hn⟩,fun t ht=>?_⟩
 have eN:∀ hv:L.validOutline l=true,L.pkN l=(L.pks l).n:=fun hv=>by unfold L.pkN;rw [hv];rfl
 have eZ:L.validOutline l=false->L.pkN l=0:=fun hv=>by unfold L.pkN;rw [hv];rfl
 have eH:(L.anyB (L.pkN l) fun i=>L.pkEq p (t i))=L.pkHas l p:=by
  unfold L.pkHas
  cases hv:L.validOutline l with
  | true=>rw [eN hv];exact anyB_perm (q:=fun x=>L.pkEq p x) (ht hv).perm
  | false=>rw [eZ hv];rfl
 have hl:L.pkN l <= 1000000:=by
  cases hv:L.validOutline l with
  | true=>rw [eN hv];have:=pks_len hv;omega
  | false=>rw [eZ hv];exact Nat.zero_le _
 rw [eH]
 refine ⟨fun _=>trivial,fun h=>⟨fun _ _=>rfl,hl⟩,fun h=>?_,fun h=>?_⟩
 ·have e:L.pocE l p b=1:=by unfold L.pocE;rw [h];rfl
  have e2:L.pocR l p b=L.optL none:=by unfold L.pocR;rw [e];rfl
  rw [e,e2];exact ⟨rfl,rfl⟩
 ·have hv : L.validOutline l = true := by
   cases hv:L.validOutline l with
   | true=>rfl
   | false=>rw [hv] at h;cases h
  have hw:L.within b 0 4096=true:=by
   cases hw:L.within b 0 4096 with
   | true=>rfl
   | false=>rw [hv,hw] at h;cases h
  have hh:L.pkHas l p=true:=by
   cases hh:L.pkHas l p with
   | true=>rfl
   | false=>rw [hv,hw,hh] at h;cases h
  have hb:0 <= b/\b <= 4096:=by
   unfold L.within at hw
   rw [Bool.and_eq_true,decide_eq_true_eq,decide_eq_true_eq] at hw
   exact ⟨by omega,by omega⟩
  have hk:L.okPk l.n p:=by
   have hh:=hh
   unfold L.pkHas at hh
   rw [anyB_iff,eN hv] at hh
   obtain ⟨i,hi,h⟩:=hh
   rw [pkEq_eq h]
   exact hok hv i hi
  have e0:L.pocE l p b=bif !L.hasO (L.pkB l p b) then 51 else 0:=by unfold L.pocE;rw [h];rfl
  refine ⟨⟨fun _ _=>rfl,hv,hk,hb⟩,fun h2=>?_,fun h2=>?_⟩
  ·have h2:(!L.hasO (L.pkB l p b))=true:=h2
   rw [h2] at e0
   have e2:L.pocR l p b=L.optL none:=by unfold L.pocR;rw [e0];rfl
   rw [e0,e2];exact ⟨rfl,rfl⟩
  ·have h2:(!L.hasO (L.pkB l p b))=false:=h2
   rw [h2] at e0
   have e2:L.pocR l p b=L.optL (L.pkB l p b):=by unfold L.pocR;rw [e0];rfl
   rw [e0,e2];exact ⟨⟨rfl,fun _ _=>rfl⟩,rfl⟩)
theorem c_Pocket_ok:SpecOk Tryz.prog 47 c_Pocket_S:=fnX Tryz.func47 (c:=bodyOf Tryz.f47) (by kernel_rfl) mixed (fun args p r hs hp=>by
 unfold c_Pocket_s at hs
 split at hs
 ·cases hs;exact ⟨_,_,c_Pocket_vc _ _ _ hp.2,(.p (.sl hp.1) (.same _ (.same _ .nil))),⟨show SpecsL Tryz.prog _ from (SpecsL.cons p_Pockets_ok p_Pockets_en (SpecsL.cons c_within_ok c_within_en (SpecsL.cons s_conPk_ok s_conPk_en (SpecsL.cons c_pocket_ok c_pocket_en SpecsL.nil)))),rfl,⟨show ItersL Tryz.prog _ from ItersL.nil,(TrsOk.none (fun _=>rfl))⟩⟩⟩
 ·cases hs)
theorem c_Pocket_en:Enters Tryz.prog 47:=fun args w=>by kernel_rfl
end Go.Proofs.YtpgaejicfbpcmaaGreat
namespace Go.Proofs.YtpgaejicfbpcmaaGreat
open Go.SE Go.RowKit
set_option maxRecDepth 100000
set_option maxHeartbeats 4000000
set_option linter.unusedVariables false
attribute [local irreducible] vc
def L.lenI (l:List Int):Nat:=l.length
def L.isLt (a b:Nat):Bool:=decide (a<b)
def L.sqI (l:List Int):L.Sq Int:=⟨l.length,fun i=>l.getD i 0⟩
structure L.AS where
 fd:Bool
 ls:Int
 bt:List Int
def L.wider (g:Int) (i:Nat):Int:=L.ior g (L.ishl 1 i)
def L.asNo (w:L.Sq L.Want) (s:L.Sq L.Sheet) (G:Nat->Int) (i k:Nat):Bool:=bif !decide ((s.g k).colour=(w.g i).colour) then true else !L.roomB w (s.g k).grain (L.wider (G k) i) ⟨(s.g k).w,(s.g k).h⟩
def L.asM (s:L.Sq L.Sheet) (G:Nat->Int) (k:Nat):Int:=bif decide (G k=0) then (s.g k).w * (s.g k).h else 0
def L.asG (G:Nat->Int) (k i:Nat):Nat->Int:=fun j=>if j=k then L.wider (G k) i else G j
def L.snocI (l:List Int) (k:Int):List Int:=l ++ [k]
def L.asP (w:L.Sq L.Want) (s:L.Sq L.Sheet):Nat->Nat->List Int->Int->(Nat->Int)->L.AS->L.AS
 | 0,_,_,_,_,st=>st
 | f+1,i,A,sum,G,st=>if (st.fd && decide (st.ls <= sum))=true then st else if i=w.n then ⟨true,sum,A⟩ else
   (List.range s.n).foldl (fun st k=>bif L.asNo w s G i k then st else L.asP w s f (i+1) (L.snocI A k) (sum+L.asM s G k) (L.asG G k i) st) st
def L.putF (w:L.Sq L.Want) (s:L.Sq L.Sheet) (i:Nat) (A:List Int) (sum:Int) (G:Nat->Int) (st:L.AS):L.AS:=L.asP w s (w.n+1 - i) i A sum G st
def L.putK (w:L.Sq L.Want) (s:L.Sq L.Sheet) (i:Nat) (A:List Int) (sum:Int) (G:Nat->Int) (st:L.AS) (k:Nat):L.AS:=(List.range k).foldl (fun st k=>bif L.asNo w s G i k then st else L.putF w s (i+1) (L.snocI A k) (sum+L.asM s G k) (L.asG G k i) st) st
theorem putK_succ (w:L.Sq L.Want) (s:L.Sq L.Sheet) (i:Nat) (A:List Int) (sum:Int) (G:Nat->Int) (st:L.AS) (k:Nat):L.putK w s i A sum G st (k+1)=bif L.asNo w s G i k then L.putK w s i A sum G st k else L.putF w s (i+1) (L.snocI A k) (sum+L.asM s G k) (L.asG G k i) (L.putK w s i A sum G st k):=by
 unfold L.putK
 rw [List.range_succ,List.foldl_append];rfl
theorem putF_cut (w:L.Sq L.Want) (s:L.Sq L.Sheet) {i:Nat} (A:List Int) {sum:Int} (G:Nat->Int) {st:L.AS} (hi:i <= w.n) (h:(st.fd && decide (st.ls <= sum))=true):L.putF w s i A sum G st=st:=by
 unfold L.putF
 obtain ⟨f,e⟩:∃ f,w.n+1 - i=f+1:=⟨w.n - i,by omega⟩
 rw [e,L.asP,if_pos h]
theorem putF_end (w:L.Sq L.Want) (s:L.Sq L.Sheet) (A:List Int) {sum:Int} (G:Nat->Int) {st:L.AS} (h:(st.fd && decide (st.ls <= sum))=false):L.putF w s w.n A sum G st=⟨true,sum,A⟩:=by
 unfold L.putF
 rw [show w.n+1 - w.n=0+1 by omega,L.asP,if_neg (by rw [h];decide),if_pos rfl]
theorem putF_go (w:L.Sq L.Want) (s:L.Sq L.Sheet) {i:Nat} (A:List Int) {sum:Int} (G:Nat->Int) {st:L.AS} (hi:i<w.n) (h:(st.fd && decide (st.ls <= sum))=false):L.putF w s i A sum G st=L.putK w s i A sum G st s.n:=by
 unfold L.putF L.putK
 rw [show w.n+1 - i=(w.n - i)+1 by omega,L.asP,if_neg (by rw [h];decide),if_neg (by omega)]
 unfold L.putF
 rw [show w.n+1 - (i+1)=w.n - i by omega]
def chkW1 (i g:Nat):Bool:=decide (L.wider g i=g+2 ^ i) && (decide (L.iandNot (g+2 ^ i) (L.ishl 1 i)=g) && decide (0 <= L.ishl 1 i) && decide (L.ishl 1 i <= 16))
theorem chkW_all:((List.range 4).all fun i=>(List.range (2 ^ i)).all (chkW1 i))=true:=by kernel_rfl
theorem wider_of {i:Nat} (hi:i<4) {g:Int} (h0:0 <= g) (h1:g<2 ^ i):L.wider g i=g+2 ^ i/\L.iandNot (g+2 ^ i) (L.ishl 1 i)=g/\0 <= L.ishl 1 i/\L.ishl 1 i <= 16:=by
 obtain ⟨n,rfl⟩:=Int.eq_ofNat_of_zero_le h0
 have hn:n<2 ^ i:=by exact_mod_cast h1
 have:=List.all_eq_true.1 (List.all_eq_true.1 chkW_all i (List.mem_range.2 hi)) n (List.mem_range.2 hn)
 unfold chkW1 at this
 simp only [Bool.and_eq_true,decide_eq_true_eq] at this
 exact ⟨this.1,this.2.1.1,this.2.1.2,this.2.2⟩
theorem vSheet_b5 {s:L.Sheet} (h:L.vSheet s=true):1 <= s.w/\s.w <= 4096/\1 <= s.h/\s.h <= 4096:=by
 unfold L.vSheet at h
 cases h1:L.within s.id 1 65535
 ·rw [h1] at h;cases h
 cases h2:L.within s.colour 1 16
 ·rw [h1,h2] at h;cases h
 cases h3:L.within s.w 1 4096
 ·rw [h1,h2,h3] at h;cases h
 cases h4:L.within s.h 1 4096
 ·rw [h1,h2,h3,h4] at h;cases h
 unfold L.within at h3 h4
 rw [Bool.and_eq_true,decide_eq_true_eq,decide_eq_true_eq] at h3 h4
 omega
def L.okG (n i:Nat) (G:Nat->Int):Prop:=∀ k,k<n->0 <= G k/\G k<2 ^ i
theorem wider_all {n i:Nat} (hn:n <= 4) (hi:i<n) {g:Int} (h0:0 <= g) (h1:g<2 ^ i):0 <= L.wider g i/\L.wider g i <= L.all n:=by
 obtain ⟨e,_⟩:=wider_of (show i<4 by omega) h0 h1
 rw [e,all_eq hn]
 have hp:(2:Int) ^ i+2 ^ i <= 2 ^ n:=by
  have:(2:Int) ^ (i+1) <= 2 ^ n:=by exact_mod_cast Nat.pow_le_pow_right (show 0<2 by decide) hi
  rw [Int.pow_succ] at this
  omega
 have h2:(0:Int)<2 ^ i:=Int.pow_pos (by decide)
 omega
theorem putK_0 (w:L.Sq L.Want) (s:L.Sq L.Sheet) (i:Nat) (A:List Int) (sum:Int) (G:Nat->Int) (st:L.AS):L.putK w s i A sum G st 0=st:=rfl
theorem okG_next {n i k:Nat} {G:Nat->Int} (hi:i<4) (h:L.okG n i G) (hk:k<n):L.okG n (i+1) (L.asG G k i):=fun j hj=>by
 have h2:(0:Int)<2 ^ i:=Int.pow_pos (by decide)
 have hp:(2:Int) ^ (i+1)=2 ^ i+2 ^ i:=by rw [Int.pow_succ];omega
 unfold L.asG
 by_cases e:j=k
 ·rw [if_pos e,(wider_of hi (h k hk).1 (h k hk).2).1]
  have:=h k hk
  omega
 ·rw [if_neg e]
  have:=h j hj
  omega
def L.atI (A:List Int) (X:Nat->Int) (j:Nat):Int:=if j<A.length then A.getD j 0 else X j
section
attribute [local irreducible] L.putK L.putF L.asP L.roomB L.tabF L.tab L.all L.part L.iandNot L.ior L.ishl
def s_cloneI_p (l:(L.Sq Int)):Prop:=l.n <= 1000000
def s_cloneI_q (l:(L.Sq Int)):Nat->Prop:=fun _=>True
def s_cloneI_n (l:(L.Sq Int)):Nat->Nat:=fun _=>l.n
def s_cloneI_g (l:(L.Sq Int)):Nat->Nat->List SV:=fun _ i=>[.int .i64 (l.g i)]
def s_cloneI_s:List EV->Option (Prop × (Nat->Prop) × (Nat->Nat) × (Nat->Nat->List SV))
 | [.p (.sl 1 l_n l_g)]=>some ((∀ i,i<l_n->l_g i = [.int .i64 ((intOf (l_g i)))])/\s_cloneI_p (⟨l_n,fun i=>intOf (l_g i)⟩:(L.Sq Int)),s_cloneI_q (⟨l_n,fun i=>intOf (l_g i)⟩:(L.Sq Int)),s_cloneI_n (⟨l_n,fun i=>intOf (l_g i)⟩:(L.Sq Int)),s_cloneI_g (⟨l_n,fun i=>intOf (l_g i)⟩:(L.Sq Int)))
 | _=>none
abbrev s_cloneI_S:SE.Spec:=(specF Nat 0 3 1 s_cloneI_s)
def s_cloneI_C:Cfg:={ cC with muts:=[5] }
theorem s_cloneI_vc (l:(L.Sq Int)) (hp:s_cloneI_p l):vc Tryz.prog (s_cloneI_C) (bodyOf Tryz.f128) (st0 Tryz.f128 [.p (.sl 1 l.n (fun i=>[.int .i64 ((l.g i))]))]) (retFresh Tryz.prog Tryz.f128 (Nat) (s_cloneI_q l) 3 1 (s_cloneI_n l) (s_cloneI_g l)) :=
 @Eq.mpr _ (∀ (b:Bool),(b = !false->l.n=(0:Nat))->(b=true -> ∃ (t:Nat),l.n=(0:Nat)/\True)/\(b=false->(nat_lit 0+l.n) * nat_lit 8 <= (140737488355328:Nat) /\ ∃ (t:Nat),(nat_lit 0+l.n=l.n /\ ∀ (i:Nat),i<nat_lit 0+l.n->appGet (nat_lit 0) (rowsOf [] (nat_lit 1)) (fun (i:Nat)=>[SV.int .i64 (l.g i)]) i = [SV.int .i64 (l.g i)])/\True)) (by kernel_rfl) (by
 have hn:l.n <= 1000000:=hp
 refine fun b hb=>⟨fun h=>⟨(0:Nat),hb h,trivial⟩,fun h=>⟨show (0+l.n) * 8 <= 140737488355328 by omega,(0:Nat),⟨Nat.zero_add _,fun i hi=>?_⟩,trivial⟩⟩
 unfold appGet;rw [if_neg (Nat.not_lt_zero _)];rfl)
theorem s_cloneI_ok:SpecOk Tryz.prog 128 s_cloneI_S:=freshX Tryz.func128 (c:=bodyOf Tryz.f128) (by kernel_rfl) mixed (fun args p q n g hs hp=>by
 unfold s_cloneI_s at hs
 split at hs
 ·cases hs;exact ⟨_,_,s_cloneI_vc _ hp.2,(.p (.sl hp.1) .nil),⟨show SpecsL Tryz.prog _ from SpecsL.nil,rfl,⟨show ItersL Tryz.prog _ from ItersL.nil,(TrsOk.none (fun _=>rfl))⟩⟩⟩
 ·cases hs)
theorem s_cloneI_en:Enters Tryz.prog 128:=fun args w=>by kernel_rfl
abbrev c_roomF_fc:FamC:={ T:=L.Sq L.Want × Int × Int × L.Size,args:=fun t=>[.int .i64 t.2.2.1,.agg [.int .i64 t.2.2.2.w,.int .i64 t.2.2.2.h]],t:=162,kt:=3,vt:=27,head:=fun t=>(fun w gr=>[(.sl 4 w.n (fun i=>[.int .i64 ((w.g i).id),.int .i64 ((w.g i).colour),.int .i64 ((w.g i).grain),.sl 2 (w.g i).ol.n (fun i1=>[.int .i64 (((w.g i).ol.g i1).x),.int .i64 (((w.g i).ol.g i1).y)])])),.int .i64 gr]) t.1 t.2.1,val:=fun t=>L.memo (L.tabF t.1 t.2.1),pre:=fun t=>L.okW t.1/\0 <= t.2.2.1/\t.2.2.1 <= L.all t.1.n,res:=fun t=>.bool (L.roomB t.1 t.2.1 t.2.2.1 t.2.2.2) }
theorem c_roomF_fcok:FamCOk Tryz.prog 69 c_roomF_fc:=fam_of_mk 1000 1001 (by decide) c_room_mok (fun t d=>(t.1,t.2.1,d,t.2.2.1,t.2.2.2)) (fun _ _ u=>u) rfl rfl rfl (fun _ _=>rfl) (fun _ _=>rfl) (fun _ _ _=>rfl) (fun _ _ h=>h) (fun _ _ _=>rfl)
theorem c_roomF_en:Enters Tryz.prog 69:=c_room_en
abbrev c_as1_mk:Mk:={ T:=(L.Sq L.Want) × (L.Sq L.Sheet) × (Nat) × (List Int) × (Nat->Int) × (Int) × (Nat->Int) × (L.AS),U:=Nat->Int,args:=fun t=>(fun w s i A X sum G st=>[.p (.int .i64 (i:Int)),.rpre 1012 i,.p (.int .i64 sum)] ++ [.loc 1000 0,.loc 1001 0,.p (.ref [(.sl 4 w.n (fun i=>[.int .i64 ((w.g i).id),.int .i64 ((w.g i).colour),.int .i64 ((w.g i).grain),.sl 2 (w.g i).ol.n (fun i1=>[.int .i64 (((w.g i).ol.g i1).x),.int .i64 (((w.g i).ol.g i1).y)])]))] 0),.loc 1002 0,.p (.ref [(.sl 5 s.n (fun i=>[.int .i64 ((s.g i).id),.int .i64 ((s.g i).colour),.int .i64 ((s.g i).w),.int .i64 ((s.g i).h),.int .i64 ((s.g i).grain)]))] 0),.loc 1003 0,.loc 1004 0,.loc 1005 0]) t.1 t.2.1 t.2.2.1 t.2.2.2.1 t.2.2.2.2.1 t.2.2.2.2.2.1 t.2.2.2.2.2.2.1 t.2.2.2.2.2.2.2,lkeys:=[1000,1001,1002,1003,1004,1005,1010,1020,1021,1022,1023,1024,1025,1026,1027,1011,1012],keys:=[],lent:=fun t=>(fun w s i A X sum G st=>[(1000,.blk 4 [.p (.bool (st).fd)]),(1001,.blk 3 [.p (.int .i64 (st).ls)]),(1002,.blk 62 [.p (.sl 1 (L.sqI (st).bt).n (fun j=>[.int .i64 ((L.sqI (st).bt).g j)]))]),(1003,.blk 183 [.row 1010]),(1004,.blk 62 [.row 1011]),(1005,.blk 184 [.cl 127 [.loc 1000 0,.loc 1001 0,.p (.ref [(.sl 4 w.n (fun i=>[.int .i64 ((w.g i).id),.int .i64 ((w.g i).colour),.int .i64 ((w.g i).grain),.sl 2 (w.g i).ol.n (fun i1=>[.int .i64 (((w.g i).ol.g i1).x),.int .i64 (((w.g i).ol.g i1).y)])]))] 0),.loc 1002 0,.p (.ref [(.sl 5 s.n (fun i=>[.int .i64 ((s.g i).id),.int .i64 ((s.g i).colour),.int .i64 ((s.g i).w),.int .i64 ((s.g i).h),.int .i64 ((s.g i).grain)]))] 0),.loc 1003 0,.loc 1004 0,.loc 1005 0]]),(1010,.prow 104 s.n [1020,1021,1022,1023,1024,1025,1026,1027]),(1020,.oblk (L.isLt 0 s.n) 162 [.p ((.sl 4 w.n (fun i=>[.int .i64 ((w.g i).id),.int .i64 ((w.g i).colour),.int .i64 ((w.g i).grain),.sl 2 (w.g i).ol.n (fun i1=>[.int .i64 (((w.g i).ol.g i1).x),.int .i64 (((w.g i).ol.g i1).y)])]))),.p (.int .i64 (s.g 0).grain),.mapv 1021]),(1021,.omq (L.isLt 0 s.n) 3 27 (L.memo (L.tabF w (s.g 0).grain))),(1022,.oblk (L.isLt 1 s.n) 162 [.p ((.sl 4 w.n (fun i=>[.int .i64 ((w.g i).id),.int .i64 ((w.g i).colour),.int .i64 ((w.g i).grain),.sl 2 (w.g i).ol.n (fun i1=>[.int .i64 (((w.g i).ol.g i1).x),.int .i64 (((w.g i).ol.g i1).y)])]))),.p (.int .i64 (s.g 1).grain),.mapv 1023]),(1023,.omq (L.isLt 1 s.n) 3 27 (L.memo (L.tabF w (s.g 1).grain))),(1024,.oblk (L.isLt 2 s.n) 162 [.p ((.sl 4 w.n (fun i=>[.int .i64 ((w.g i).id),.int .i64 ((w.g i).colour),.int .i64 ((w.g i).grain),.sl 2 (w.g i).ol.n (fun i1=>[.int .i64 (((w.g i).ol.g i1).x),.int .i64 (((w.g i).ol.g i1).y)])]))),.p (.int .i64 (s.g 2).grain),.mapv 1025]),(1025,.omq (L.isLt 2 s.n) 3 27 (L.memo (L.tabF w (s.g 2).grain))),(1026,.oblk (L.isLt 3 s.n) 162 [.p ((.sl 4 w.n (fun i=>[.int .i64 ((w.g i).id),.int .i64 ((w.g i).colour),.int .i64 ((w.g i).grain),.sl 2 (w.g i).ol.n (fun i1=>[.int .i64 (((w.g i).ol.g i1).x),.int .i64 (((w.g i).ol.g i1).y)])]))),.p (.int .i64 (s.g 3).grain),.mapv 1027]),(1027,.omq (L.isLt 3 s.n) 3 27 (L.memo (L.tabF w (s.g 3).grain))),(1011,.row 3 1 s.n (fun k=>[.int .i64 (G k)])),(1012,.row 3 1 w.n (fun j=>[.int .i64 (L.atI A X j)]))]) t.1 t.2.1 t.2.2.1 t.2.2.2.1 t.2.2.2.2.1 t.2.2.2.2.2.1 t.2.2.2.2.2.2.1 t.2.2.2.2.2.2.2,pre:=fun t=>(fun w s i A X sum G st=>L.okW w/\s.n <= 4/\(∀ k,k<s.n->L.vSheet (s.g k)=true)/\i <= w.n/\L.lenI A=i/\L.okG s.n i G/\0 <= (sum:Int)/\(sum:Int) <= (i:Int) * 16777216) t.1 t.2.1 t.2.2.1 t.2.2.2.1 t.2.2.2.2.1 t.2.2.2.2.2.1 t.2.2.2.2.2.2.1 t.2.2.2.2.2.2.2,post:=fun t u=>(fun w s i A X sum G st=>fun u=>True) t.1 t.2.1 t.2.2.1 t.2.2.2.1 t.2.2.2.2.1 t.2.2.2.2.2.1 t.2.2.2.2.2.2.1 t.2.2.2.2.2.2.2 u,lent':=fun t u=>(fun w s i A X sum G st=>fun u=>[(1000,.blk 4 [.p (.bool (L.putF w s i A sum G st).fd)]),(1001,.blk 3 [.p (.int .i64 (L.putF w s i A sum G st).ls)]),(1002,.blk 62 [.p (.sl 1 (L.sqI (L.putF w s i A sum G st).bt).n (fun j=>[.int .i64 ((L.sqI (L.putF w s i A sum G st).bt).g j)]))]),(1003,.blk 183 [.row 1010]),(1004,.blk 62 [.row 1011]),(1005,.blk 184 [.cl 127 [.loc 1000 0,.loc 1001 0,.p (.ref [(.sl 4 w.n (fun i=>[.int .i64 ((w.g i).id),.int .i64 ((w.g i).colour),.int .i64 ((w.g i).grain),.sl 2 (w.g i).ol.n (fun i1=>[.int .i64 (((w.g i).ol.g i1).x),.int .i64 (((w.g i).ol.g i1).y)])]))] 0),.loc 1002 0,.p (.ref [(.sl 5 s.n (fun i=>[.int .i64 ((s.g i).id),.int .i64 ((s.g i).colour),.int .i64 ((s.g i).w),.int .i64 ((s.g i).h),.int .i64 ((s.g i).grain)]))] 0),.loc 1003 0,.loc 1004 0,.loc 1005 0]]),(1010,.prow 104 s.n [1020,1021,1022,1023,1024,1025,1026,1027]),(1020,.oblk (L.isLt 0 s.n) 162 [.p ((.sl 4 w.n (fun i=>[.int .i64 ((w.g i).id),.int .i64 ((w.g i).colour),.int .i64 ((w.g i).grain),.sl 2 (w.g i).ol.n (fun i1=>[.int .i64 (((w.g i).ol.g i1).x),.int .i64 (((w.g i).ol.g i1).y)])]))),.p (.int .i64 (s.g 0).grain),.mapv 1021]),(1021,.omq (L.isLt 0 s.n) 3 27 (L.memo (L.tabF w (s.g 0).grain))),(1022,.oblk (L.isLt 1 s.n) 162 [.p ((.sl 4 w.n (fun i=>[.int .i64 ((w.g i).id),.int .i64 ((w.g i).colour),.int .i64 ((w.g i).grain),.sl 2 (w.g i).ol.n (fun i1=>[.int .i64 (((w.g i).ol.g i1).x),.int .i64 (((w.g i).ol.g i1).y)])]))),.p (.int .i64 (s.g 1).grain),.mapv 1023]),(1023,.omq (L.isLt 1 s.n) 3 27 (L.memo (L.tabF w (s.g 1).grain))),(1024,.oblk (L.isLt 2 s.n) 162 [.p ((.sl 4 w.n (fun i=>[.int .i64 ((w.g i).id),.int .i64 ((w.g i).colour),.int .i64 ((w.g i).grain),.sl 2 (w.g i).ol.n (fun i1=>[.int .i64 (((w.g i).ol.g i1).x),.int .i64 (((w.g i).ol.g i1).y)])]))),.p (.int .i64 (s.g 2).grain),.mapv 1025]),(1025,.omq (L.isLt 2 s.n) 3 27 (L.memo (L.tabF w (s.g 2).grain))),(1026,.oblk (L.isLt 3 s.n) 162 [.p ((.sl 4 w.n (fun i=>[.int .i64 ((w.g i).id),.int .i64 ((w.g i).colour),.int .i64 ((w.g i).grain),.sl 2 (w.g i).ol.n (fun i1=>[.int .i64 (((w.g i).ol.g i1).x),.int .i64 (((w.g i).ol.g i1).y)])]))),.p (.int .i64 (s.g 3).grain),.mapv 1027]),(1027,.omq (L.isLt 3 s.n) 3 27 (L.memo (L.tabF w (s.g 3).grain))),(1011,.row 3 1 s.n (fun k=>[.int .i64 (G k)])),(1012,.row 3 1 w.n (fun j=>[.int .i64 (L.atI A u j)]))]) t.1 t.2.1 t.2.2.1 t.2.2.2.1 t.2.2.2.2.1 t.2.2.2.2.2.1 t.2.2.2.2.2.2.1 t.2.2.2.2.2.2.2 u,own:=fun t u=>(fun w s i A X sum G st=>fun u=>[]) t.1 t.2.1 t.2.2.1 t.2.2.2.1 t.2.2.2.2.1 t.2.2.2.2.2.1 t.2.2.2.2.2.2.1 t.2.2.2.2.2.2.2 u,res:=fun t u=>(fun w s i A X sum G st=>fun u=>.p (.tup [])) t.1 t.2.1 t.2.2.1 t.2.2.2.1 t.2.2.2.2.1 t.2.2.2.2.2.1 t.2.2.2.2.2.2.1 t.2.2.2.2.2.2.2 u }
abbrev c_as1_mu:c_as1_mk.T->Nat:=fun t=>(fun w s i A X sum G st=>w.n - i) t.1 t.2.1 t.2.2.1 t.2.2.2.1 t.2.2.2.2.1 t.2.2.2.2.2.1 t.2.2.2.2.2.2.1 t.2.2.2.2.2.2.2
theorem c_as1_vc (rn:Nat) (w:L.Sq L.Want) (s:L.Sq L.Sheet) (i:Nat) (A:List Int) (X:Nat->Int) (sum:Int) (G:Nat->Int) (st:L.AS) (hp:c_as1_mk.pre (w,s,i,A,X,sum,G,st)) (hmu:w.n - i<rn+1):vc Tryz.prog ({ muts:=[],frz:=lookN [],specs:=lookS [(128,s_cloneI_S)],loops:=lookL [(4,{ T:=Nat × (Nat->Int),keep:=[0,1,2,3,4,5,6,7,8,9,10,30],keepO:=[1003,1004,1005,1010,1020,1021,1022,1023,1024,1025,1026,1027,1011],chg:=fun t=>[(31,.p (.int .i64 (t.1:Int)))],own:=fun t=>[(1000,.blk 4 [.p (.bool ((L.putK w s i A sum G st t.1)).fd)]),(1001,.blk 3 [.p (.int .i64 ((L.putK w s i A sum G st t.1)).ls)]),(1002,.blk 62 [.p (.sl 1 (L.sqI ((L.putK w s i A sum G st t.1)).bt).n (fun j=>[.int .i64 ((L.sqI ((L.putK w s i A sum G st t.1)).bt).g j)]))]),(1012,.row 3 1 w.n (fun j=>[.int .i64 (L.atI A t.2 j)]))],inv:=fun t=>t.1 <= s.n,mu:=fun t=>s.n - t.1 })],iters:=lookI [],rfs:=lookR [],nils:=lookM [],mks:=lookK [(127,Mk.lt c_as1_mk c_as1_mu rn)],ren:=fun k=>k,fams:=lookF [(69,c_roomF_fc)],joins:=lookL [(10,{ T:=Nat,keep:=[0,1,2,3,4,5,6,7,8,9,10,14,30,31],keepO:=[1003,1004,1005,1010,1020,1021,1022,1023,1024,1025,1026,1027,1000,1001,1002,1011,1012],chg:=fun k=>[(15,.p (.int .i64 (L.asM s G k)))],own:=fun _=>[],inv:=fun _=>True,mu:=fun _=>0,tie:=fun k=>[(14,.int .i64 (k:Int))] })],anys:=[1011] }) (bodyOf Tryz.f127) (stTr Tryz.f127 (c_as1_mk.args (w,s,i,A,X,sum,G,st)) (c_as1_mk.lent (w,s,i,A,X,sum,G,st))) (retMk Tryz.prog Tryz.f127 c_as1_mk (w,s,i,A,X,sum,G,st)) :=
  @Eq.mpr _ (let I:=SV.int .i64;let T:=Int.toNat;let A107:=(↑w.n:Int);let A96:=(nat_lit 1005);let A95:=(nat_lit 1004);let A94:=(nat_lit 1003);let A93:=(nat_lit 1002);let A92:=(nat_lit 1001);let A91:=(nat_lit 1000);let A90:=(4:Nat);let A66:=(127:Nat);let A59:=(nat_lit 4);let A58:=(L.sqI st.bt);let A57:=(1:Int);let A55:=(bif st.fd then
 decide (st.ls <= sum) else false);let A36:=(nat_lit 127);let A34:=(0:Int);let A31:=(↑i:Int);let A30:=(↑s.n:Int);let A26:=(L.putF w s i A sum G st);let A56:=(L.sqI A26.bt);let A25:=(L.ishl A57 A31);let A24:=(s.n=s.n /\ ∀ (i:Nat),i<s.n -> [I (G i)] = [I (G i)]);let A17:=(3:Nat);let A37:=(s.g A17);let A43:=(L.tabF w A37.grain);let A23
:=(∀ (x:Int),L.memo A43 x=L.memo A43 x);let A16:=(nat_lit 0);let A15:=(1:Nat);let A38:=(s.g A15);let A44:=(L.tabF w A38.grain);let A21:=(∀ (x:Int),L.memo A44 x=L.memo A44 x);let A13:=(0:Nat);let A61:=(A13<nat_lit 1/\i+nat_lit 1 <= w.n);let A39:=(s.g A13);let A45:=(L.tabF w A39.grain);let A20:=(∀ (x:Int),L.memo A45 x=L.memo A45 x);let A12:=(2
:Nat);let A40:=(s.g A12);let A46:=(L.tabF w A40.grain);let A22:=(∀ (x:Int),L.memo A46 x=L.memo A46 x);let A4:=[SV.sl (nat_lit 5) s.n fun (i:Nat)=>[I (s.g i).id,I (s.g i).colour,I (s.g i).w,I (s.g i).h,I (s.g i).grain]];let A3:=[SV.sl A59 w.n fun (i:Nat)=>[I (w.g i).id,I (w.g i).colour,I (w.g i).grain,SV.sl A12 (w.g i).ol.n fun (i1:Nat)=>[I
 ((w.g i).ol.g i1).x,I ((w.g i).ol.g i1).y]]];let A2:=(w.n=w.n /\ ∀ (i:Nat),let A35:=[I (w.g i).id,I (w.g i).colour,I (w.g i).grain,SV.sl A12 (w.g i).ol.n fun (i1:Nat)=>[I ((w.g i).ol.g i1).x,I ((w.g i).ol.g i1).y]];i<w.n->A35=A35);let A1:=[EV.loc A91 A16,EV.loc A92 A16,EV.p (SV.ref A3 A16),EV.loc A93 A16,EV.p (SV.ref A4
 A16),EV.loc A94 A16,EV.loc A95 A16,EV.loc A96 A16];(A55=true -> ∃ (u:Nat->Int),st.fd=A26.fd/\st.ls=A26.ls/\(A58.n=A56.n /\ ∀ (i_1:Nat),i_1<A58.n -> [I (A58.g i_1)] = [I (A56.g i_1)])/\EV.cl A36 A1=EV.cl A66 A1/\s.n=s.n/\L.isLt A13 s.n=L.isLt A13 s.n/\A2/\A39.grain=A39.grain/\L.isLt A13 s.n=L.isLt A13 s.n/\A20/\L.isLt A15 s.n
 = L.isLt A15 s.n/\A2/\A38.grain=A38.grain/\L.isLt A15 s.n=L.isLt A15 s.n/\A21/\L.isLt A12 s.n=L.isLt A12 s.n/\A2/\A40.grain=A40.grain/\L.isLt A12 s.n=L.isLt A12 s.n/\A22/\L.isLt A17 s.n=L.isLt A17 s.n/\A2/\A37.grain=A37.grain/\L.isLt A17 s.n=L.isLt A17 s.n/\A23/\A24/\(w.n=w.n /\ ∀ (i:Nat),i<w.n -> [I (L.atI A X i)] = [I (L.atI A u i)])/\True)/\(A55 =
 false->(decide (A31=A107)=true->i <= w.n/\((∀ (i_1:Nat),i_1<i -> [I (L.atI A X i_1)] = [I (L.atI A X i_1)])/\i <= (1000000:Nat)) /\ ∀ (t:Nat),True->(∀ (i_1:Nat),i_1<i->(true && true)=true) /\ ∃ (u:Nat->Int),true=A26.fd/\sum=A26.ls/\(i=A56.n /\ ∀ (i_1:Nat),i_1<i -> [I (L.atI A X i_1)] = [I (A56.g i_1)])/\EV.cl A36
 A1=EV.cl A66 A1/\s.n=s.n/\L.isLt A13 s.n=L.isLt A13 s.n/\A2/\A39.grain=A39.grain/\L.isLt A13 s.n=L.isLt A13 s.n/\A20/\L.isLt A15 s.n=L.isLt A15 s.n/\A2/\A38.grain=A38.grain/\L.isLt A15 s.n=L.isLt A15 s.n/\A21/\L.isLt A12 s.n=L.isLt A12 s.n/\A2/\A40.grain=A40.grain/\L.isLt A12 s.n=L.isLt A12 s.n/\A22/\L.isLt A17 s.n=L.isLt A17 s.n/\A2/\A37.grain =
 A37.grain/\L.isLt A17 s.n=L.isLt A17 s.n/\A23/\A24/\(w.n=w.n /\ ∀ (i:Nat),i<w.n -> [I (L.atI A X i)] = [I (L.atI A u i)])/\True)/\(decide (A31=A107)=false->(∃ (g:Nat × (Nat->Int)),let A51:=(L.putK w s i A sum G st g.1);A34=(↑g.1:Int)/\st.fd=A51.fd/\st.ls=A51.ls/\(A58.n=(L.sqI A51.bt).n /\ ∀ (i_1:Nat),i_1<A58.n -> [I (A58.g i_1)] = [I ((L.sqI
 A51.bt).g i_1)])/\(w.n=w.n /\ ∀ (i:Nat),i<w.n -> [I (L.atI A X i)] = [I (L.atI A g.2 i)])/\g.1 <= s.n) /\ ∀ (g:Nat × (Nat->Int)),let A53:=(w.n=w.n /\ ∀ (i:Nat),i<w.n -> [I (L.atI A g.2 i)] = [I (L.atI A g.2 i)]);let A11:=(↑g.1:Int);let A80:=[I (L.ior (G (T A11)) A25)];let A54:=(s.g (T A11));let A47:=(A34 <= A11/\A11<A30);let A10:=(L.putK w s i A sum G st
 g.1);let A27:=(L.sqI A10.bt);let A52:=(A27.n=A27.n /\ ∀ (i_1:Nat),i_1<A27.n -> [I (A27.g i_1)] = [I (A27.g i_1)]);let A5:=(!!decide (A54.colour=(w.g (T A31)).colour));let A89:=(A5=true->T A11<s.n);let A42:=(A5=true->A34 <= A11/\A11<A30);g.1 <= s.n->(decide (A11<A30)=true->A47/\(A34 <= A31/\A31<A107)/\A42/\A89/\A42/\A89
 /\ (A5=true->A34 <= A31)/\(A5=true->InK .i64 A25)/\A42/\A42 /\ ∃ (t:L.Sq L.Want × Int × Int × L.Size),let A60:=(L.tabF t.1 t.2.1);let A41:=(bif !decide (A54.colour=(w.g (T A31)).colour) then true else !L.roomB t.1 t.2.1 t.snd.2.1 t.snd.2.2);let A14:=[SV.sl A90 t.1.n fun (i:Nat)=>let A71:=(t.1.g i);[I A71.id,I A71.colour,I
 A71.grain,SV.sl A12 A71.ol.n fun (i1:Nat)=>[I (A71.ol.g i1).x,I (A71.ol.g i1).y]],I t.2.1];(A5=true->T A11<A13+A15+A15+A15+A15)/\(A5=true->T A11=A13->L.isLt A13 s.n=true/\L.isLt A13 s.n=true /\ [SV.sl A59 w.n fun (i:Nat)=>[I (w.g i).id,I (w.g i).colour,I (w.g i).grain,SV.sl A12 (w.g i).ol.n fun (i1:Nat)=>[I ((w.g i).ol.g
 i1).x,I ((w.g i).ol.g i1).y]],I A39.grain]=A14 /\ ∀ (x:Int),L.memo A45 x=L.memo A60 x)/\(A5=true->T A11=A13+A15->L.isLt A15 s.n=true/\L.isLt A15 s.n=true /\ [SV.sl A59 w.n fun (i:Nat)=>[I (w.g i).id,I (w.g i).colour,I (w.g i).grain,SV.sl A12 (w.g i).ol.n fun (i1:Nat)=>[I ((w.g i).ol.g i1).x,I ((w.g i).ol.g i1).y]],I A38.grain]=A14 /\ ∀ (x
:Int),L.memo A44 x=L.memo A60 x)/\(A5=true->T A11=A13+A15+A15->L.isLt A12 s.n=true/\L.isLt A12 s.n=true /\ [SV.sl A59 w.n fun (i:Nat)=>[I (w.g i).id,I (w.g i).colour,I (w.g i).grain,SV.sl A12 (w.g i).ol.n fun (i1:Nat)=>[I ((w.g i).ol.g i1).x,I ((w.g i).ol.g i1).y]],I A40.grain]=A14 /\ ∀ (x:Int),L.memo A46 x=L.memo A60 x)/\(A5 =
 true->T A11=A13+A15+A15+A15->L.isLt A17 s.n=true/\L.isLt A17 s.n=true /\ [SV.sl A59 w.n fun (i:Nat)=>[I (w.g i).id,I (w.g i).colour,I (w.g i).grain,SV.sl A12 (w.g i).ol.n fun (i1:Nat)=>[I ((w.g i).ol.g i1).x,I ((w.g i).ol.g i1).y]],I A37.grain]=A14 /\ ∀ (x:Int),L.memo A43 x=L.memo A60 x)/\(A5=true->L.ior (G (T A11)) A25 =
 t.snd.2.1)/\(A5=true->SV.agg [I A54.w,I A54.h]=SV.agg [I t.snd.2.2.w,I t.snd.2.2.h])/\(A5=true->L.okW t.1/\A34 <= t.snd.2.1/\t.snd.2.1 <= L.all t.1.n)/\(A41=true->InK .i64 (A11+A57) /\ ∃ (g':Nat × (Nat->Int)),let A48:=(L.putK w s i A sum G st g'.1);A11+A57=(↑g'.1:Int)/\A30=A30/\A31=A31/\i=i/\sum=sum/\nat_lit 0 =
 nat_lit 0/\nat_lit 0=nat_lit 0/\SV.ref A3 A16=SV.ref A3 A16/\nat_lit 0=nat_lit 0/\SV.ref A4 A16=SV.ref A4 A16/\nat_lit 0=nat_lit 0/\nat_lit 0=nat_lit 0/\nat_lit 0=nat_lit 0/\A10.fd=A48.fd/\A10.ls=A48.ls/\(A27.n=(L.sqI A48.bt).n /\ ∀ (i_1:Nat),i_1<A27.n -> [I (A27.g i_1)] = [I ((L.sqI A48.bt).g i_1)])/\(w.n=w.n /\ ∀ (i:Nat),i<w.n -> [I
 (L.atI A g.2 i)] = [I (L.atI A g'.2 i)])/\EV.cl A36 A1=EV.cl A36 A1/\s.n=s.n/\L.isLt A13 s.n=L.isLt A13 s.n/\A2/\A39.grain=A39.grain/\L.isLt A13 s.n=L.isLt A13 s.n/\A20/\L.isLt A15 s.n=L.isLt A15 s.n/\A2/\A38.grain=A38.grain/\L.isLt A15 s.n=L.isLt A15 s.n/\A21/\L.isLt A12 s.n=L.isLt A12 s.n/\A2/\A40.grain=A40.grain/\L.isLt A12 s.n=L.isLt A12 s.n /\
 A22/\L.isLt A17 s.n=L.isLt A17 s.n/\A2/\A37.grain=A37.grain/\L.isLt A17 s.n=L.isLt A17 s.n/\A23/\A24/\g'.1 <= s.n/\s.n - g'.1<s.n - g.1)/\(A41=false->(A47/\T A11<s.n/\(decide (G (T A11)=A34)=true->A47/\A47/\InK .i64 (A54.w * A54.h) /\ ∃ (g_1:Nat),A54.w * A54.h=L.asM s G g_1/\A11=A11/\A11=A11/\A30=A30/\A31=A31/\i=i
 /\ sum=sum/\nat_lit 0=nat_lit 0/\nat_lit 0=nat_lit 0/\SV.ref A3 A16=SV.ref A3 A16/\nat_lit 0=nat_lit 0/\SV.ref A4 A16=SV.ref A4 A16/\nat_lit 0=nat_lit 0/\nat_lit 0=nat_lit 0/\nat_lit 0=nat_lit 0/\A10.fd=A10.fd/\A10.ls=A10.ls/\A52/\A53/\EV.cl A36 A1=EV.cl A36 A1/\s.n=s.n/\L.isLt A13 s.n=L.isLt A13 s.n/\A2/\A39.grain =
 A39.grain/\L.isLt A13 s.n=L.isLt A13 s.n/\A20/\L.isLt A15 s.n=L.isLt A15 s.n/\A2/\A38.grain=A38.grain/\L.isLt A15 s.n=L.isLt A15 s.n/\A21/\L.isLt A12 s.n=L.isLt A12 s.n/\A2/\A40.grain=A40.grain/\L.isLt A12 s.n=L.isLt A12 s.n/\A22/\L.isLt A17 s.n=L.isLt A17 s.n/\A2/\A37.grain=A37.grain/\L.isLt A17 s.n=L.isLt A17 s.n/\A23/\A24/\A11=(↑g_1:Int)/\True) /\
 (decide (G (T A11)=A34)=false -> ∃ (g_1:Nat),A34=L.asM s G g_1/\A11=A11/\A11=A11/\A30=A30/\A31=A31/\i=i/\sum=sum/\nat_lit 0=nat_lit 0/\nat_lit 0=nat_lit 0/\SV.ref A3 A16=SV.ref A3 A16/\nat_lit 0=nat_lit 0/\SV.ref A4 A16=SV.ref A4 A16/\nat_lit 0=nat_lit 0/\nat_lit 0=nat_lit 0/\nat_lit 0=nat_lit 0/\A10.fd =
 A10.fd/\A10.ls=A10.ls/\A52/\A53/\EV.cl A36 A1=EV.cl A36 A1/\s.n=s.n/\L.isLt A13 s.n=L.isLt A13 s.n/\A2/\A39.grain=A39.grain/\L.isLt A13 s.n=L.isLt A13 s.n/\A20/\L.isLt A15 s.n=L.isLt A15 s.n/\A2/\A38.grain=A38.grain/\L.isLt A15 s.n=L.isLt A15 s.n/\A21/\L.isLt A12 s.n=L.isLt A12 s.n/\A2/\A40.grain=A40.grain/\L.isLt A12 s.n=L.isLt A12 s.n/\A22
 /\ L.isLt A17 s.n=L.isLt A17 s.n/\A2/\A37.grain=A37.grain/\L.isLt A17 s.n=L.isLt A17 s.n/\A23/\A24/\A11=(↑g_1:Int)/\True)) /\ ∀ (g_1:Nat),A11=(↑g_1:Int)/\True->A47/\T A11<s.n/\A34 <= A31/\InK .i64 A25/\A47/\T A11<s.n/\InK .i64 (A31+A57)/\InK .i64 (sum+L.asM s G g_1)/\(A61 /\ ∃ (t:L.Sq L.Want × L.Sq L.Sheet ×
 Nat × List Int × (Nat->Int) × Int × (Nat->Int) × L.AS),let A79:=(t.2.1.g A17);let A102:=(L.tabF t.1 A79.grain);let A78:=(t.2.1.g A12);let A101:=(L.tabF t.1 A78.grain);let A77:=(t.2.1.g A15);let A100:=(L.tabF t.1 A77.grain);let A76:=(t.2.1.g A13);let A99:=(L.tabF t.1 A76.grain);let A63:=(A34 <= A11/\A11<(↑t.2.1.n:Int));let A62:=(L.sqI
 t.snd.snd.snd.snd.snd.2.2.bt);let A32:=(SV.ref [SV.sl (nat_lit 5) t.2.1.n fun (i:Nat)=>let A67:=(t.2.1.g i);[I A67.id,I A67.colour,I A67.w,I A67.h,I A67.grain]] A16);let A28:=(SV.ref [SV.sl A59 t.1.n fun (i:Nat)=>let A72:=(t.1.g i);[I A72.id,I A72.colour,I A72.grain,SV.sl A12 A72.ol.n fun (i1:Nat)=>[I (A72.ol.g i1).x,I (A72.ol.g i1).y]]]
 A16);let A18:=(L.putF t.1 t.2.1 t.snd.2.1 t.snd.snd.2.1 t.snd.snd.snd.snd.2.1 t.snd.snd.snd.snd.snd.2.1 t.snd.snd.snd.snd.snd.2.2);let A97:=(L.sqI A18.bt);let A8:=(w.n=t.1.n /\ ∀ (i:Nat),let A73:=(t.1.g i);i<w.n -> [I (w.g i).id,I (w.g i).colour,I (w.g i).grain,SV.sl A12 (w.g i).ol.n fun (i1:Nat)=>[I ((w.g i).ol.g i1).x,I ((w.g i).ol.g i1).y]] = [I A73.id,I
 A73.colour,I A73.grain,SV.sl A12 A73.ol.n fun (i1:Nat)=>[I (A73.ol.g i1).x,I (A73.ol.g i1).y]]);let A6:=(t.1.n=w.n /\ ∀ (i:Nat),let A74:=(t.1.g i);i<t.1.n -> [I A74.id,I A74.colour,I A74.grain,SV.sl A12 A74.ol.n fun (i1:Nat)=>[I (A74.ol.g i1).x,I (A74.ol.g i1).y]] = [I (w.g i).id,I (w.g i).colour,I (w.g i).grain,SV.sl A12 (w.g i).ol.n fun (i1:Nat) =>
 [I ((w.g i).ol.g i1).x,I ((w.g i).ol.g i1).y]]);A31+A57=(↑t.snd.2.1:Int)/\i+nat_lit 1=t.snd.2.1/\sum+L.asM s G g_1=t.snd.snd.snd.snd.2.1/\nat_lit 0=A13/\nat_lit 0=A13/\SV.ref A3 A16=SV.ref [SV.sl A90 t.1.n fun (i:Nat)=>let A75:=(t.1.g i);[I A75.id,I A75.colour,I A75.grain,SV.sl A12 A75.ol.n fun (i1:Nat)=>[I (A75.ol.g i1).x,I (A75.ol.g
 i1).y]]] A13/\nat_lit 0=A13/\SV.ref A4 A16=SV.ref [SV.sl (5:Nat) t.2.1.n fun (i:Nat)=>let A68:=(t.2.1.g i);[I A68.id,I A68.colour,I A68.w,I A68.h,I A68.grain]] A13/\nat_lit 0=A13/\nat_lit 0=A13/\nat_lit 0=A13/\A10.fd=t.snd.snd.snd.snd.snd.2.2.fd/\A10.ls=t.snd.snd.snd.snd.snd.2.2.ls/\(A27.n=A62.n /\ ∀ (i_1:Nat),i_1<A27.n -> [I (A27.g i_1)] =
 [I (A62.g i_1)])/\EV.cl A36 A1=EV.cl A66 [EV.loc A91 A16,EV.loc A92 A16,EV.p A28,EV.loc A93 A16,EV.p A32,EV.loc A94 A16,EV.loc A95 A16,EV.loc A96 A16]/\s.n=t.2.1.n/\L.isLt A13 s.n=L.isLt A13 t.2.1.n/\A8/\A39.grain=A76.grain/\L.isLt A13 s.n=L.isLt A13 t.2.1.n/\(∀ (x:Int),L.memo A45 x=L.memo A99 x)/\L.isLt A15
 s.n=L.isLt A15 t.2.1.n/\A8/\A38.grain=A77.grain/\L.isLt A15 s.n=L.isLt A15 t.2.1.n/\(∀ (x:Int),L.memo A44 x=L.memo A100 x)/\L.isLt A12 s.n=L.isLt A12 t.2.1.n/\A8/\A40.grain=A78.grain/\L.isLt A12 s.n=L.isLt A12 t.2.1.n/\(∀ (x:Int),L.memo A46 x=L.memo A101 x)/\L.isLt A17 s.n=L.isLt A17 t.2.1.n/\A8/\A37.grain=A79.grain/\L.isLt A17 s.n=L.isLt A17 t.2.1.n/\(∀
 (x:Int),L.memo A43 x=L.memo A102 x)/\(s.n=t.2.1.n /\ ∀ (i_1:Nat),i_1<s.n->setRow (fun (k:Nat)=>[I (G k)]) (T A11) A16 A80 i_1 = [I (t.snd.snd.snd.snd.snd.2.1 i_1)])/\(w.n=t.1.n /\ ∀ (i_1:Nat),i_1<w.n->(if i <= i_1/\i_1<i+nat_lit 1 then [I A11] else [I (L.atI A g.2 i_1)]) = [I (L.atI t.snd.snd.2.1 t.snd.snd.snd.2.1 i_1)])/\((L.okW t.1/\t.2.1.n <= A90/\(∀ (k :
 Nat),k<t.2.1.n->L.vSheet (t.2.1.g k)=true)/\t.snd.2.1 <= t.1.n/\L.lenI t.snd.snd.2.1=t.snd.2.1/\L.okG t.2.1.n t.snd.2.1 t.snd.snd.snd.snd.snd.2.1/\A34 <= t.snd.snd.snd.snd.2.1/\t.snd.snd.snd.snd.2.1 <= (↑t.snd.2.1:Int) * (16777216:Int))/\t.1.n - t.snd.2.1<rn) /\ ∀ (u:Nat->Int),True->A63/\T A11<t.2.1.n/\A34 <= A31/\InK .i64 A25/\A63/\T A11<t.2.1.n /\
 InK .i64 (A11+A57) /\ ∃ (g':Nat × (Nat->Int)),let A49:=(L.putK w s i A sum G st g'.1);A11+A57=(↑g'.1:Int)/\A30=A30/\A31=A31/\i=i/\sum=sum/\nat_lit 0=nat_lit 0/\nat_lit 0=nat_lit 0/\SV.ref A3 A16=SV.ref A3 A16/\nat_lit 0=nat_lit 0/\SV.ref A4 A16=SV.ref A4 A16/\nat_lit 0=nat_lit 0/\nat_lit 0=nat_lit 0/\nat_lit 0
 = nat_lit 0/\A18.fd=A49.fd/\A18.ls=A49.ls/\(A97.n=(L.sqI A49.bt).n /\ ∀ (i_1:Nat),i_1<A97.n -> [I (A97.g i_1)] = [I ((L.sqI A49.bt).g i_1)])/\(t.1.n=w.n /\ ∀ (i:Nat),i<t.1.n -> [I (L.atI t.snd.snd.2.1 u i)] = [I (L.atI A g'.2 i)])/\EV.cl A36 [EV.loc (1000:Nat) A16,EV.loc (1001:Nat) A16,EV.p A28,EV.loc (1002:Nat) A16,EV.p A32,
 EV.loc (1003:Nat) A16,EV.loc (1004:Nat) A16,EV.loc (1005:Nat) A16]=EV.cl A36 A1/\t.2.1.n=s.n/\L.isLt A13 t.2.1.n=L.isLt A13 s.n/\A6/\A76.grain=A39.grain/\L.isLt A13 t.2.1.n=L.isLt A13 s.n/\(∀ (x:Int),L.memo A99 x=L.memo A45 x)/\L.isLt A15 t.2.1.n=L.isLt A15 s.n/\A6/\A77.grain=A38.grain/\L.isLt A15 t.2.1.n=L.isLt A15 s.n/\(∀ (x:Int),
 L.memo A100 x=L.memo A44 x)/\L.isLt A12 t.2.1.n=L.isLt A12 s.n/\A6/\A78.grain=A40.grain/\L.isLt A12 t.2.1.n=L.isLt A12 s.n/\(∀ (x:Int),L.memo A101 x=L.memo A46 x)/\L.isLt A17 t.2.1.n=L.isLt A17 s.n/\A6/\A79.grain=A37.grain/\L.isLt A17 t.2.1.n=L.isLt A17 s.n/\(∀ (x:Int),L.memo A102 x=L.memo A43 x)/\(t.2.1.n=s.n /\ ∀ (i_1:Nat),i_1<t.2.1.n->setRow (fun
 (k:Nat)=>[I (t.snd.snd.snd.snd.snd.2.1 k)]) (T A11) A16 [I (L.iandNot (t.snd.snd.snd.snd.snd.2.1 (T A11)) A25)] i_1 = [I (G i_1)])/\g'.1 <= s.n/\s.n - g'.1<s.n - g.1)/\A61 /\ ∃ (t:L.Sq L.Want × L.Sq L.Sheet × Nat × List Int × (Nat->Int) × Int × (Nat->Int) × L.AS),let A88:=(t.2.1.g A17);let A106:=(L.tabF t.1 A88.grain);let A87:=(t.2.1.g A12);let A105:=(L.tabF t.1
 A87.grain);let A86:=(t.2.1.g A15);let A104:=(L.tabF t.1 A86.grain);let A85:=(t.2.1.g A13);let A103:=(L.tabF t.1 A85.grain);let A65:=(A34 <= A11/\A11<(↑t.2.1.n:Int));let A64:=(L.sqI t.snd.snd.snd.snd.snd.2.2.bt);let A33:=(SV.ref [SV.sl (nat_lit 5) t.2.1.n fun (i:Nat)=>let A69:=(t.2.1.g i);[I A69.id,I A69.colour,I A69.w,I A69.h,I A69.grain]] A16);let
 A29:=(SV.ref [SV.sl A59 t.1.n fun (i:Nat)=>let A81:=(t.1.g i);[I A81.id,I A81.colour,I A81.grain,SV.sl A12 A81.ol.n fun (i1:Nat)=>[I (A81.ol.g i1).x,I (A81.ol.g i1).y]]] A16);let A19:=(L.putF t.1 t.2.1 t.snd.2.1 t.snd.snd.2.1 t.snd.snd.snd.snd.2.1 t.snd.snd.snd.snd.snd.2.1 t.snd.snd.snd.snd.snd.2.2);let A98:=(L.sqI A19.bt);let A9:=(w.n=t.1.n /\ ∀ (i :
 Nat),let A82:=(t.1.g i);i<w.n -> [I (w.g i).id,I (w.g i).colour,I (w.g i).grain,SV.sl A12 (w.g i).ol.n fun (i1:Nat)=>[I ((w.g i).ol.g i1).x,I ((w.g i).ol.g i1).y]] = [I A82.id,I A82.colour,I A82.grain,SV.sl A12 A82.ol.n fun (i1:Nat)=>[I (A82.ol.g i1).x,I (A82.ol.g i1).y]]);let A7:=(t.1.n=w.n /\ ∀ (i:Nat),let A83:=(t.1.g i);i<t.1.n -> [I A83.id,I
 A83.colour,I A83.grain,SV.sl A12 A83.ol.n fun (i1:Nat)=>[I (A83.ol.g i1).x,I (A83.ol.g i1).y]] = [I (w.g i).id,I (w.g i).colour,I (w.g i).grain,SV.sl A12 (w.g i).ol.n fun (i1:Nat)=>[I ((w.g i).ol.g i1).x,I ((w.g i).ol.g i1).y]]);A31+A57=(↑t.snd.2.1:Int)/\i+nat_lit 1=t.snd.2.1/\sum+L.asM s G g_1=t.snd.snd.snd.snd.2.1/\nat_lit 0=A13/\nat_lit 0=A13 /\
 SV.ref A3 A16=SV.ref [SV.sl A90 t.1.n fun (i:Nat)=>let A84:=(t.1.g i);[I A84.id,I A84.colour,I A84.grain,SV.sl A12 A84.ol.n fun (i1:Nat)=>[I (A84.ol.g i1).x,I (A84.ol.g i1).y]]] A13/\nat_lit 0=A13/\SV.ref A4 A16=SV.ref [SV.sl (5:Nat) t.2.1.n fun (i:Nat)=>let A70:=(t.2.1.g i);[I A70.id,I A70.colour,I A70.w,I A70.h,I
 A70.grain]] A13/\nat_lit 0=A13/\nat_lit 0=A13/\nat_lit 0=A13/\A10.fd=t.snd.snd.snd.snd.snd.2.2.fd/\A10.ls=t.snd.snd.snd.snd.snd.2.2.ls/\(A27.n=A64.n /\ ∀ (i_1:Nat),i_1<A27.n -> [I (A27.g i_1)] = [I (A64.g i_1)])/\EV.cl A36 A1=EV.cl A66 [EV.loc A91 A16,EV.loc A92 A16,EV.p A29,EV.loc A93 A16,EV.p A33,EV.loc A94 A16,
 EV.loc A95 A16,EV.loc A96 A16]/\s.n=t.2.1.n/\L.isLt A13 s.n=L.isLt A13 t.2.1.n/\A9/\A39.grain=A85.grain/\L.isLt A13 s.n=L.isLt A13 t.2.1.n/\(∀ (x:Int),L.memo A45 x=L.memo A103 x)/\L.isLt A15 s.n=L.isLt A15 t.2.1.n/\A9/\A38.grain=A86.grain/\L.isLt A15 s.n=L.isLt A15 t.2.1.n/\(∀ (x:Int),L.memo A44 x=L.memo A104 x)/\L.isLt A12 s.n=L.isLt A12 t.2.1.n
 /\ A9/\A40.grain=A87.grain/\L.isLt A12 s.n=L.isLt A12 t.2.1.n/\(∀ (x:Int),L.memo A46 x=L.memo A105 x)/\L.isLt A17 s.n=L.isLt A17 t.2.1.n/\A9/\A37.grain=A88.grain/\L.isLt A17 s.n=L.isLt A17 t.2.1.n/\(∀ (x:Int),L.memo A43 x=L.memo A106 x)/\(s.n=t.2.1.n /\ ∀ (i_1:Nat),i_1<s.n->setRow (fun (k:Nat)=>[I (G k)]) (T A11) A16 A80 i_1 = [I
 (t.snd.snd.snd.snd.snd.2.1 i_1)])/\(w.n=t.1.n /\ ∀ (i_1:Nat),i_1<w.n->(if i <= i_1/\i_1<i+nat_lit 1 then [I A11] else [I (L.atI A g.2 i_1)]) = [I (L.atI t.snd.snd.2.1 t.snd.snd.snd.2.1 i_1)])/\((L.okW t.1/\t.2.1.n <= A90/\(∀ (k:Nat),k<t.2.1.n->L.vSheet (t.2.1.g k)=true)/\t.snd.2.1 <= t.1.n/\L.lenI t.snd.snd.2.1=t.snd.2.1/\L.okG t.2.1.n t.snd.2.1
 t.snd.snd.snd.snd.snd.2.1/\A34 <= t.snd.snd.snd.snd.2.1/\t.snd.snd.snd.snd.2.1 <= (↑t.snd.2.1:Int) * (16777216:Int))/\t.1.n - t.snd.2.1<rn) /\ ∀ (u:Nat->Int),True->A65/\T A11<t.2.1.n/\A34 <= A31/\InK .i64 A25/\A65/\T A11<t.2.1.n/\InK .i64 (A11+A57) /\ ∃ (g':Nat × (Nat->Int)),let A50:=(L.putK w s i A sum G st g'.1);A11+A57=(↑g'.1 :
 Int)/\A30=A30/\A31=A31/\i=i/\sum=sum/\nat_lit 0=nat_lit 0/\nat_lit 0=nat_lit 0/\SV.ref A3 A16=SV.ref A3 A16/\nat_lit 0=nat_lit 0/\SV.ref A4 A16=SV.ref A4 A16/\nat_lit 0=nat_lit 0/\nat_lit 0=nat_lit 0/\nat_lit 0=nat_lit 0/\A19.fd=A50.fd/\A19.ls=A50.ls/\(A98.n=(L.sqI A50.bt).n /\ ∀ (i_1:Nat),i_1<A98.n -> [I (A98.g i_1)] = [I
 ((L.sqI A50.bt).g i_1)])/\(t.1.n=w.n /\ ∀ (i:Nat),i<t.1.n -> [I (L.atI t.snd.snd.2.1 u i)] = [I (L.atI A g'.2 i)])/\EV.cl A36 [EV.loc (1000:Nat) A16,EV.loc (1001:Nat) A16,EV.p A29,EV.loc (1002:Nat) A16,EV.p A33,EV.loc (1003:Nat) A16,EV.loc (1004:Nat) A16,EV.loc (1005:Nat) A16]=EV.cl A36 A1/\t.2.1.n=s.n /\
 L.isLt A13 t.2.1.n=L.isLt A13 s.n/\A7/\A85.grain=A39.grain/\L.isLt A13 t.2.1.n=L.isLt A13 s.n/\(∀ (x:Int),L.memo A103 x=L.memo A45 x)/\L.isLt A15 t.2.1.n=L.isLt A15 s.n/\A7/\A86.grain=A38.grain/\L.isLt A15 t.2.1.n=L.isLt A15 s.n/\(∀ (x:Int),L.memo A104 x=L.memo A44 x)/\L.isLt A12 t.2.1.n=L.isLt A12 s.n/\A7/\A87.grain=A40.grain/\L.isLt A12 t.2.1.n=L.isLt A12
 s.n/\(∀ (x:Int),L.memo A105 x=L.memo A46 x)/\L.isLt A17 t.2.1.n=L.isLt A17 s.n/\A7/\A88.grain=A37.grain/\L.isLt A17 t.2.1.n=L.isLt A17 s.n/\(∀ (x:Int),L.memo A106 x=L.memo A43 x)/\(t.2.1.n=s.n /\ ∀ (i_1:Nat),i_1<t.2.1.n->setRow (fun (k:Nat)=>[I (t.snd.snd.snd.snd.snd.2.1 k)]) (T A11) A16 [I (L.iandNot (t.snd.snd.snd.snd.snd.2.1 (T A11)) A25)] i_1 = [I
 (G i_1)])/\g'.1 <= s.n/\s.n - g'.1<s.n - g.1))/\(decide (A11<A30)=false -> ∃ (u:Nat->Int),A10.fd=A26.fd/\A10.ls=A26.ls/\(A27.n=A56.n /\ ∀ (i_1:Nat),i_1<A27.n -> [I (A27.g i_1)] = [I (A56.g i_1)])/\EV.cl A36 A1=EV.cl A66 A1/\s.n=s.n/\L.isLt A13 s.n=L.isLt A13 s.n/\A2/\A39.grain=A39.grain/\L.isLt A13 s.n=L.isLt A13 s.n/\A20/\L.isLt
 A15 s.n=L.isLt A15 s.n/\A2/\A38.grain=A38.grain/\L.isLt A15 s.n=L.isLt A15 s.n/\A21/\L.isLt A12 s.n=L.isLt A12 s.n/\A2/\A40.grain=A40.grain/\L.isLt A12 s.n=L.isLt A12 s.n/\A22/\L.isLt A17 s.n=L.isLt A17 s.n/\A2/\A37.grain=A37.grain/\L.isLt A17 s.n=L.isLt A17 s.n/\A23/\A24/\(w.n=w.n /\ ∀ (i:Nat),i<w.n -> [I (L.atI A g.2 i)] = [I (L.atI A u i)])/\True)))) (by kernel_rfl) (by
  conv=>zeta
  have hp:L.okW w/\s.n <= 4/\(∀ k,k<s.n->L.vSheet (s.g k)=true)/\i <= w.n/\L.lenI A=i/\L.okG s.n i G/\0 <= sum/\sum <= (i:Int) * 16777216:=hp
  have hmu:w.n - i<rn+1:=hmu
  obtain ⟨hok,hs4,hsv,hi,hA,hG,hs0,hs1⟩:=hp
  have hA2:A.length=i:=hA
  have hw4:=hok.1
  have ei:((i:Int)).toNat=i:=Int.toNat_natCast i
  have atA:∀ (X:Nat->Int) j,j<i->L.atI A X j=A.getD j 0:=fun X j hj=>by unfold L.atI;rw [if_pos (by omega)]
  refine ⟨fun h1=>?_,fun h1=>⟨fun h2=>?_,fun h2=>?_⟩⟩
  ·rw [band] at h1
   rw [putF_cut w s A G hi h1]
   exact ⟨X,(by (try dsimp only);(repeat' with_reducible apply And.intro) <;> first | with_reducible rfl | with_reducible exact fun _=>rfl | with_reducible exact fun _ _=>rfl | with_reducible exact trivial | exact rfl | (intro _;exact rfl) | (intro _ _;exact rfl) | exact trivial | (intro _ h_;exact absurd h_ (Nat.not_lt_zero _)))⟩
  ·rw [band] at h1
   have h2:(i:Int)=(w.n:Int):=of_decide_eq_true h2
   obtain rfl:i=w.n:=by omega
   rw [putF_end w s A G h1]
   have c1:w.n <= 1000000:=by omega
   exact ⟨Nat.le_refl _,⟨fun _ _=>rfl,c1⟩,fun _ _=>⟨fun _ _=>rfl,X,(by (try dsimp only);(repeat' with_reducible apply And.intro) <;> first | with_reducible rfl | with_reducible exact hA.symm | with_reducible exact fun _=>rfl | with_reducible exact fun _ _=>rfl | with_reducible exact trivial | (intro j hj;exact congrArg (fun x=>[SV.int .i64 x]) (atA X j hj)) | exact rfl | (intro _;exact rfl) | (intro _ _;exact rfl) | exact hA.symm | exact trivial | (intro _ h_;exact absurd h_ (Nat.not_lt_zero _)))⟩⟩
  ·rw [band] at h1
   have h2:¬ (i:Int)=(w.n:Int):=of_decide_eq_false h2
   have hlt:i<w.n:=by omega
   have hi4:i<4:=by omega
   rw [putF_go w s A G hlt h1]
   refine ⟨⟨(0,X),(by (try dsimp only);(repeat' with_reducible apply And.intro) <;> first | with_reducible rfl | with_reducible exact Nat.zero_le _ | with_reducible exact congrArg L.AS.fd (putK_0 w s i A sum G st).symm | with_reducible exact congrArg L.AS.ls (putK_0 w s i A sum G st).symm | with_reducible exact fun _=>rfl | with_reducible exact fun _ _=>rfl | with_reducible exact trivial | (intro j _;exact congrArg (fun x:L.AS=>[SV.int .i64 ((L.sqI x.bt).g j)]) (putK_0 w s i A sum G st).symm) | exact rfl | (intro _;exact rfl) | (intro _ _;exact rfl) | exact Nat.zero_le _ | exact congrArg L.AS.fd (putK_0 w s i A sum G st).symm | exact congrArg L.AS.ls (putK_0 w s i A sum G st).symm | exact congrArg (fun x:L.AS=>(L.sqI x.bt).n) (putK_0 w s i A sum G st).symm | exact trivial | (intro _ h_;exact absurd h_ (Nat.not_lt_zero _)))⟩,fun g hg=>?_⟩
   obtain ⟨k,Y⟩:=g
   dsimp only at hg ⊢
   have ek:((k:Int)).toNat=k:=Int.toNat_natCast k
   rw [ei,ek]
   refine ⟨fun hc=>?_,fun hc=>?_⟩
   ·have hc:(k:Int)<(s.n:Int):=of_decide_eq_true hc
    have hk:k<s.n:=by omega
    obtain ⟨g0,g1⟩:=hG k hk
    obtain ⟨wd1,wd2,wd3,wd4⟩:=wider_of hi4 g0 g1
    obtain ⟨wa1,wa2⟩:=wider_all hw4 hlt g0 g1
    have c0:0 <= (k:Int)/\(k:Int)<(s.n:Int):=⟨Int.natCast_nonneg _,hc⟩
    have ci:0 <= (i:Int):=Int.natCast_nonneg _
    have ci2:0 <= (i:Int)/\(i:Int)<(w.n:Int):=by omega
    have k1:InK .i64 (L.ishl 1 (i:Int)):=jK
    have k2:InK .i64 ((k:Int)+1):=jK
    have k3:InK .i64 ((i:Int)+1):=jK
    have kk:k+1 <= s.n:=hk
    have mm:s.n - (k+1)<s.n - k:=by omega
    have cn:(k:Int)+1=((k+1:Nat):Int):=by omega
    refine ⟨c0,ci2,fun _=>c0,fun _=>hk,fun _=>c0,fun _=>hk,fun _=>ci,fun _=>k1,fun _=>c0,fun _=>c0,(w,(s.g k).grain,L.wider (G k) i,⟨(s.g k).w,(s.g k).h⟩),fun _=>(by omega),?_,?_,?_,?_,fun _=>rfl,fun _=>rfl,fun _=>⟨hok,wa1,wa2⟩,fun h=>?_,fun h=>?_⟩
    ·intro _ e;subst e;exact ⟨decide_eq_true hk,decide_eq_true hk,rfl,fun _=>rfl⟩
    ·intro _ e;subst e;exact ⟨decide_eq_true hk,decide_eq_true hk,rfl,fun _=>rfl⟩
    ·intro _ e;subst e;exact ⟨decide_eq_true hk,decide_eq_true hk,rfl,fun _=>rfl⟩
    ·intro _ e;subst e;exact ⟨decide_eq_true hk,decide_eq_true hk,rfl,fun _=>rfl⟩
    ·have h:L.asNo w s G i k=true:=h
     have e2:L.putK w s i A sum G st k=L.putK w s i A sum G st (k+1):=by rw [putK_succ,h];rfl
     exact ⟨k2,(k+1,Y),(by (try dsimp only);(repeat' with_reducible apply And.intro) <;> first | with_reducible rfl | with_reducible assumption | with_reducible exact congrArg L.AS.fd e2 | with_reducible exact congrArg L.AS.ls e2 | with_reducible exact fun _=>rfl | with_reducible exact fun _ _=>rfl | with_reducible exact trivial | (intro j _;exact congrArg (fun x:L.AS=>[SV.int .i64 ((L.sqI x.bt).g j)]) e2) | exact rfl | (intro _;exact rfl) | (intro _ _;exact rfl) | exact cn | exact kk | exact mm | exact congrArg L.AS.fd e2 | exact congrArg L.AS.ls e2 | exact congrArg (fun x:L.AS=>(L.sqI x.bt).n) e2 | exact trivial | (intro _ h_;exact absurd h_ (Nat.not_lt_zero _)))⟩
    ·have h:L.asNo w s G i k=false:=h
     have e3:L.putF w s (i+1) (L.snocI A k) (sum+L.asM s G k) (L.asG G k i) (L.putK w s i A sum G st k)=L.putK w s i A sum G st (k+1):=by rw [putK_succ,h];rfl
     obtain ⟨v1,v2,v3,v4⟩:=vSheet_b5 (hsv k hk)
     have ar0:0 <= (s.g k).w * (s.g k).h:=Int.mul_nonneg (by omega) (by omega)
     have ar1:(s.g k).w * (s.g k).h <= 4096 * 4096:=Int.mul_le_mul (by omega) (by omega) (by omega) (by omega)
     have k4:InK .i64 ((s.g k).w * (s.g k).h):=jK
     have am:0 <= L.asM s G k/\L.asM s G k <= 16777216:=by
      unfold L.asM
      cases decide (G k=0) <;> simp only [cond_true,cond_false] <;> omega
     refine ⟨⟨c0,hk,fun hz=>?_,fun hz=>?_⟩,fun k2' hk2=>?_⟩
     ·have em:(s.g k).w * (s.g k).h=L.asM s G k:=by unfold L.asM;rw [hz];rfl
      exact ⟨c0,c0,k4,k,(by (try dsimp only);(repeat' with_reducible apply And.intro) <;> first | with_reducible rfl | with_reducible assumption | with_reducible exact fun _=>rfl | with_reducible exact fun _ _=>rfl | with_reducible exact trivial | exact rfl | (intro _;exact rfl) | (intro _ _;exact rfl) | exact em | exact trivial | (intro _ h_;exact absurd h_ (Nat.not_lt_zero _)))⟩
     ·have em:0=L.asM s G k:=by unfold L.asM;rw [hz];rfl
      exact ⟨k,(by (try dsimp only);(repeat' with_reducible apply And.intro) <;> first | with_reducible rfl | with_reducible assumption | with_reducible exact fun _=>rfl | with_reducible exact fun _ _=>rfl | with_reducible exact trivial | exact rfl | (intro _;exact rfl) | (intro _ _;exact rfl) | exact em | exact trivial | (intro _ h_;exact absurd h_ (Nat.not_lt_zero _)))⟩
     ·obtain rfl:k2'=k:=by have:=hk2.1;omega
      have k5:InK .i64 (sum+L.asM s G k2'):=jK
      have i1:i+1 <= w.n:=hlt
      have l1:L.lenI (L.snocI A k2')=i+1:=by show (A ++ [(k2':Int)]).length=i+1;simp [hA2]
      have hG1:=okG_next hi4 hG hk
      have s0:0 <= sum+L.asM s G k2':=by omega
      have s1:sum+L.asM s G k2' <= ((i+1:Nat):Int) * 16777216:=by push_cast;omega
      have m1:w.n - (i+1)<rn:=by omega
      have p0:0<1:=Nat.one_pos
      have row1:∀ j,j<s.n->setRow (fun k=>[SV.int .i64 (G k)]) k2' 0 [SV.int .i64 (L.ior (G k2') (L.ishl 1 (i:Int)))] j = [SV.int .i64 (L.asG G k2' i j)]:=fun j _=>by
       unfold setRow L.asG
       by_cases e:j=k2'
       ·rw [if_pos e,if_pos e];rfl
       ·rw [if_neg e,if_neg e]
      have row2:∀ j,j<s.n->setRow (fun k=>[SV.int .i64 (L.asG G k2' i k)]) k2' 0 [SV.int .i64 (L.iandNot (L.asG G k2' i k2') (L.ishl 1 (i:Int)))] j = [SV.int .i64 (G j)]:=fun j _=>by
       unfold setRow
       by_cases e:j=k2'
       ·subst e
        rw [if_pos rfl]
        have:L.asG G j i j=G j+2 ^ i:=by unfold L.asG;rw [if_pos rfl];exact wd1
        rw [this,wd2];rfl
       ·rw [if_neg e]
        have:L.asG G k2' i j=G j:=by unfold L.asG;rw [if_neg e]
        dsimp only
        rw [this]
      have getS:∀ j,j<i->(L.snocI A k2').getD j 0=A.getD j 0:=fun j hj=>by
       unfold L.snocI
       rw [List.getD_eq_getElem?_getD,List.getD_eq_getElem?_getD,List.getElem?_append_left (by omega)]
      have len2:(L.snocI A k2').length=i+1:=l1
      have at1:∀ j,j<w.n->(if i <= j/\j<i+1 then [SV.int .i64 (k2':Int)] else [SV.int .i64 (L.atI A Y j)]) = [SV.int .i64 (L.atI (L.snocI A k2') Y j)]:=fun j _=>by
       by_cases e:j<i
       ·rw [if_neg (by omega),atA Y j e]
        unfold L.atI
        rw [if_pos (by omega),getS j e]
       ·by_cases e2:j=i
        ·subst e2
         rw [if_pos (by omega)]
         unfold L.atI
         rw [if_pos (by omega)]
         have:(L.snocI A k2').getD j 0=(k2':Int):=by
          unfold L.snocI
          rw [List.getD_eq_getElem?_getD,List.getElem?_append_right (by omega),show j - A.length=0 by omega];rfl
         rw [this]
        ·rw [if_neg (by omega)]
         unfold L.atI
         rw [if_neg (by omega),if_neg (by omega)]
      have at2:∀ (u:Nat->Int) j,j<w.n -> [SV.int .i64 (L.atI (L.snocI A k2') u j)] = [SV.int .i64 (L.atI A (fun j=>L.atI (L.snocI A k2') u j) j)]:=fun u j _=>by
       by_cases e:j<i
       ·rw [atA _ j e]
        unfold L.atI
        rw [if_pos (by omega),getS j e]
       ·conv=>rhs;unfold L.atI
        rw [if_neg (by omega)]
        unfold L.atI
        rfl
      repeat' with_reducible apply And.intro
      all_goals first | exact c0.1 | exact c0.2 | exact hk | exact ci | exact k1 | exact k3 | exact k5 | exact p0 | exact i1 | exact ⟨(w,s,i+1,L.snocI A k2',Y,sum+L.asM s G k2',L.asG G k2' i,L.putK w s i A sum G st k2'),(by (try dsimp only);(repeat' with_reducible apply And.intro) <;> first | with_reducible rfl | with_reducible assumption | with_reducible exact fun _=>rfl | with_reducible exact fun _ _=>rfl | with_reducible exact trivial | (intro u _;exact ⟨c0,hk,ci,k1,c0,hk,k2,(k2'+1,fun j=>L.atI (L.snocI A k2') u j),(by (try dsimp only);(repeat' with_reducible apply And.intro) <;> first | with_reducible rfl | with_reducible assumption | with_reducible exact at2 u | with_reducible exact congrArg L.AS.fd e3 | with_reducible exact congrArg L.AS.ls e3 | with_reducible exact fun _=>rfl | with_reducible exact fun _ _=>rfl | with_reducible exact trivial | (intro j _;exact congrArg (fun x:L.AS=>[SV.int .i64 ((L.sqI x.bt).g j)]) e3) | exact rfl | (intro _;exact rfl) | (intro _ _;exact rfl) | exact cn | exact kk | exact mm | exact row2 | exact at2 u | exact congrArg L.AS.fd e3 | exact congrArg L.AS.ls e3 | exact congrArg (fun x:L.AS=>(L.sqI x.bt).n) e3 | exact trivial | (intro _ h_;exact absurd h_ (Nat.not_lt_zero _)))⟩) | exact rfl | (intro _;exact rfl) | (intro _ _;exact rfl) | exact hok | exact hs4 | exact hsv | exact i1 | exact l1 | exact hG1 | exact s0 | exact s1 | exact m1 | exact row1 | exact at1 | exact trivial | (intro _ h_;exact absurd h_ (Nat.not_lt_zero _)))⟩
   ·have hc:¬ (k:Int)<(s.n:Int):=of_decide_eq_false hc
    obtain rfl:k=s.n:=by omega
    exact ⟨Y,(by (try dsimp only);(repeat' with_reducible apply And.intro) <;> first | with_reducible rfl | with_reducible exact fun _=>rfl | with_reducible exact fun _ _=>rfl | with_reducible exact trivial | exact rfl | (intro _;exact rfl) | (intro _ _;exact rfl) | exact trivial | (intro _ h_;exact absurd h_ (Nat.not_lt_zero _)))⟩)
theorem c_as1_en:Enters Tryz.prog 127:=fun args w=>by kernel_rfl
theorem c_as1_mok:MkOk Tryz.prog 127 c_as1_mk:=mk_rec c_as1_mu ⟨fun t=>rfl,fun t u=>rfl,fun t u=>rfl,fun t u=>⟨rfl,rfl,rfl⟩,.inl rfl,fun k h=>(by cases h)⟩ (fun rn ih=>mk_ok (n:=11) Tryz.func127 (c:=bodyOf Tryz.f127) (by kernel_rfl) mixed ⟨fun t=>rfl,fun t=>rfl,fun t u=>rfl,fun t u=>rfl,fun t u=>rfl,fun t u=>⟨rfl,rfl⟩,by kernel_rfl,by kernel_rfl⟩ (fun ⟨w,s,i,A,X,sum,G,st⟩ hp=>⟨_,c_as1_vc rn w s i A X sum G st hp.1 hp.2,⟨show SpecsL Tryz.prog _ from (SpecsL.cons s_cloneI_ok s_cloneI_en SpecsL.nil),rfl,⟨show ItersL Tryz.prog _ from ItersL.nil,⟨TrsOk.no1 (fun _=>rfl),⟨show MksL Tryz.prog _ from (MksL.cons ih c_as1_en MksL.nil),show FamsL Tryz.prog _ from (FamsL.cons c_roomF_fcok c_roomF_en FamsL.nil)⟩⟩⟩⟩⟩))
end
end Go.Proofs.YtpgaejicfbpcmaaGreat
namespace Go.Proofs.YtpgaejicfbpcmaaGreat
open Go.SE Go.RowKit
set_option maxRecDepth 100000
set_option maxHeartbeats 4000000
set_option linter.unusedVariables false
attribute [local irreducible] vc
def L.as0:L.AS:=⟨false,0,[]⟩
theorem isLt_succ (j g:Nat):(L.isLt j g || decide (g=j))=L.isLt j (g+1):=by
 unfold L.isLt
 by_cases h1:j<g
 ·rw [decide_eq_true h1,decide_eq_true (show j<g+1 by omega)];rfl
 ·by_cases h2:g=j
  ·rw [decide_eq_true h2,decide_eq_true (show j<g+1 by omega),Bool.or_true]
  ·rw [decide_eq_false h1,decide_eq_false h2,decide_eq_false (show ¬ j<g+1 by omega)];rfl
theorem isLt_self (j:Nat):L.isLt j j=false:=decide_eq_false (Nat.lt_irrefl j)
theorem isLt_0 (j:Nat):false=L.isLt j 0:=(decide_eq_false (Nat.not_lt_zero j)).symm
def L.asgF (w:L.Sq L.Want) (s:L.Sq L.Sheet):L.AS:=L.putF w s 0 [] 0 (fun _=>0) L.as0
section
attribute [local irreducible] L.putK L.putF L.asP L.roomB L.tabF L.tab L.all L.part L.iandNot L.ior L.ishl L.isLt
abbrev c_assign_mk:Mk:={ T:=(L.Sq L.Want) × (L.Sq L.Sheet),U:=Nat,args:=fun t=>(fun w s=>[.p ((.sl 4 w.n (fun i=>[.int .i64 ((w.g i).id),.int .i64 ((w.g i).colour),.int .i64 ((w.g i).grain),.sl 2 (w.g i).ol.n (fun i1=>[.int .i64 (((w.g i).ol.g i1).x),.int .i64 (((w.g i).ol.g i1).y)])]))),.p ((.sl 5 s.n (fun i=>[.int .i64 ((s.g i).id),.int .i64 ((s.g i).colour),.int .i64 ((s.g i).w),.int .i64 ((s.g i).h),.int .i64 ((s.g i).grain)])))]) t.1 t.2,lkeys:=[],keys:=[],lent:=fun t=>(fun w s=>[]) t.1 t.2,pre:=fun t=>(fun w s=>L.okW w/\s.n <= 4/\(∀ k,k<s.n->L.vSheet (s.g k)=true)) t.1 t.2,post:=fun t u=>(fun w s=>fun uu=>True) t.1 t.2 u,lent':=fun t u=>(fun w s=>fun uu=>[]) t.1 t.2 u,own:=fun t u=>(fun w s=>fun uu=>[]) t.1 t.2 u,res:=fun t u=>(fun w s=>fun uu=>.p (.tup [.sl 1 (L.sqI (L.asgF w s).bt).n (fun i=>[.int .i64 ((L.sqI (L.asgF w s).bt).g i)]),.int .i64 (L.asgF w s).ls,.bool (L.asgF w s).fd])) t.1 t.2 u }
theorem c_assign_vc (w:L.Sq L.Want) (s:L.Sq L.Sheet) (hp:c_assign_mk.pre (w,s)):vc Tryz.prog ({ muts:=[7,8,9,10,12,13,16,35,40],frz:=lookN [],specs:=lookS [],loops:=lookL [(5,{ T:=Nat,keep:=[2,3,7,8,9,10,18],keepO:=[7,8,9,10,16],chg:=fun k=>[(19,.p (.int .i64 (k:Int)))],own:=fun k=>[(17,.oblk (L.isLt 0 (k)) 162 [.p ((.sl 4 w.n (fun i=>[.int .i64 ((w.g i).id),.int .i64 ((w.g i).colour),.int .i64 ((w.g i).grain),.sl 2 (w.g i).ol.n (fun i1=>[.int .i64 (((w.g i).ol.g i1).x),.int .i64 (((w.g i).ol.g i1).y)])]))),.p (.int .i64 (s.g 0).grain),.mapv 18]),(18,.omq (L.isLt 0 (k)) 3 27 (L.memo (L.tabF w (s.g 0).grain))),(20,.oblk (L.isLt 1 (k)) 162 [.p ((.sl 4 w.n (fun i=>[.int .i64 ((w.g i).id),.int .i64 ((w.g i).colour),.int .i64 ((w.g i).grain),.sl 2 (w.g i).ol.n (fun i1=>[.int .i64 (((w.g i).ol.g i1).x),.int .i64 (((w.g i).ol.g i1).y)])]))),.p (.int .i64 (s.g 1).grain),.mapv 21]),(21,.omq (L.isLt 1 (k)) 3 27 (L.memo (L.tabF w (s.g 1).grain))),(23,.oblk (L.isLt 2 (k)) 162 [.p ((.sl 4 w.n (fun i=>[.int .i64 ((w.g i).id),.int .i64 ((w.g i).colour),.int .i64 ((w.g i).grain),.sl 2 (w.g i).ol.n (fun i1=>[.int .i64 (((w.g i).ol.g i1).x),.int .i64 (((w.g i).ol.g i1).y)])]))),.p (.int .i64 (s.g 2).grain),.mapv 24]),(24,.omq (L.isLt 2 (k)) 3 27 (L.memo (L.tabF w (s.g 2).grain))),(25,.oblk (L.isLt 3 (k)) 162 [.p ((.sl 4 w.n (fun i=>[.int .i64 ((w.g i).id),.int .i64 ((w.g i).colour),.int .i64 ((w.g i).grain),.sl 2 (w.g i).ol.n (fun i1=>[.int .i64 (((w.g i).ol.g i1).x),.int .i64 (((w.g i).ol.g i1).y)])]))),.p (.int .i64 (s.g 3).grain),.mapv 26]),(26,.omq (L.isLt 3 (k)) 3 27 (L.memo (L.tabF w (s.g 3).grain)))],inv:=fun k=>k <= s.n,mu:=fun k=>s.n - k })],iters:=lookI [],rfs:=lookR [],nils:=lookM [],mks:=lookK [(62,c_shapesOf_mk),(127,c_as1_mk)],ren:=fun k=>if k=9 then 27 else if k=7 then 28 else if k=1000 then 9 else if k=1001 then 8 else if k=1002 then 7 else if k=1003 then 10 else if k=1004 then 12 else if k=1005 then 13 else if k=1010 then 16 else if k=1011 then 35 else if k=1012 then 40 else if k=1020 then 17 else if k=1021 then 18 else if k=1022 then 20 else if k=1023 then 21 else if k=1024 then 23 else if k=1025 then 24 else if k=1026 then 25 else if k=1027 then 26 else k,anys:=[1007,1012],pres:=[40],prows:=lookP [(16,{ bs:=[17,18,20,21,23,24,25,26],t:=162,kt:=3,vt:=27,head:=fun j=>[(.sl 4 w.n (fun i=>[.int .i64 ((w.g i).id),.int .i64 ((w.g i).colour),.int .i64 ((w.g i).grain),.sl 2 (w.g i).ol.n (fun i1=>[.int .i64 (((w.g i).ol.g i1).x),.int .i64 (((w.g i).ol.g i1).y)])])),.int .i64 (s.g j).grain],val:=fun j=>L.memo (L.tabF w (s.g j).grain) })] }) (bodyOf Tryz.f78) (stTr Tryz.f78 (c_assign_mk.args (w,s)) (c_assign_mk.lent (w,s))) (retMk Tryz.prog Tryz.f78 c_assign_mk (w,s)) :=
  @Eq.mpr _ (let I:=SV.int .i64;let T:=Int.toNat;let A59:=(4:Nat);let A58:=(1:Int);let A57:=(140737488355328:Int);let A34:=(↑w.n:Int);let A31:=(L.asgF w s);let A39:=(L.sqI A31.bt);let A23:=(0:Int);let A28:=(A23 <= A23/\A23 <= A34/\A34 * (↑(nat_lit 8):Int) <= A57);let A16:=(3:Nat);let A32:=(s.g A16);let A20:=(L.tabF w A32.grain);let A37:=(∀
 (x:Int),L.memo A20 x=L.memo A20 x);let A15:=(↑s.n:Int);let A30:=(A23 <= A15/\A15 <= A15/\A15 * (↑(nat_lit 8):Int) <= A57);let A13:=(nat_lit 0);let A12:=(2:Nat);let A33:=(s.g A12);let A19:=(L.tabF w A33.grain);let A36:=(∀ (x:Int),L.memo A19 x=L.memo A19 x);let A9:=(1:Nat);let A22:=(L.tabF w (s.g A9).grain);let A35:=(∀ (x:Int),L.memo A22 x=L.memo
 A22 x);let A8:=(0:Nat);let A54:=(s.g (A8+A9+A9+A9));let A18:=(L.tabF w (s.g A8).grain);let A29:=(∀ (x:Int),L.memo A18 x=L.memo A18 x);let A7:=[SV.sl (nat_lit 5) s.n fun (i:Nat)=>[I (s.g i).id,I (s.g i).colour,I (s.g i).w,I (s.g i).h,I (s.g i).grain]];let A2:=[SV.sl (nat_lit 4) w.n fun (i:Nat)=>[I (w.g i).id,I (w.g i).colour,I (w.g i).grain,
 SV.sl A12 (w.g i).ol.n fun (i1:Nat)=>[I ((w.g i).ol.g i1).x,I ((w.g i).ol.g i1).y]]];let A17:=[EV.loc (nat_lit 9) A13,EV.loc (nat_lit 8) A13,EV.p (SV.ref A2 A13),EV.loc (nat_lit 7) A13,EV.p (SV.ref A7 A13),EV.loc (nat_lit 10) A13,EV.loc (nat_lit 12) A13,EV.loc (nat_lit 13) A13];let A1:=(w.n=w.n /\ ∀ (i:Nat),let
 A26:=[I (w.g i).id,I (w.g i).colour,I (w.g i).grain,SV.sl A12 (w.g i).ol.n fun (i1:Nat)=>[I ((w.g i).ol.g i1).x,I ((w.g i).ol.g i1).y]];i<w.n->A26=A26);A30/\A12 * T A15 <= A8+A9+A9+A9+A9+A9+A9+A9+A9/\(∃ (g:Nat),A23=(↑g:Int)/\false=L.isLt A8 g/\A1/\(s.g A8).grain=(s.g A8).grain/\false=L.isLt A8 g/\A29/\false=L.isLt A9 g/\A1
 /\ (s.g (A8+A9)).grain=(s.g A9).grain/\false=L.isLt A9 g/\(∀ (x:Int),L.memo (L.tabF w (s.g (A8+A9)).grain) x=L.memo A22 x)/\false=L.isLt A12 g/\A1/\(s.g (A8+A9+A9)).grain=A33.grain/\false=L.isLt A12 g/\(∀ (x:Int),L.memo (L.tabF w (s.g (A8+A9+A9)).grain) x=L.memo A19 x)/\false=L.isLt A16 g/\A1/\A54.grain=A32.grain/\false =
 L.isLt A16 g/\(∀ (x:Int),L.memo (L.tabF w A54.grain) x=L.memo A20 x)/\g <= s.n) /\ ∀ (g:Nat),let A14:=(↑g:Int);let A38:=(A23 <= A14/\A14<(↑(T A15):Int));let A27:=(L.isLt A8 g || decide (T A14=A8));let A25:=(L.isLt A9 g || decide (T A14=A8+A9));let A24:=(L.isLt A12 g || decide (T A14=A8+A9+A9));let A21:=(L.isLt A16 g ||
 decide (T A14=A8+A9+A9+A9));g <= s.n->(decide (A14<A15)=true->(A23 <= A14/\A14<A15)/\(∃ (t:L.Sq L.Want × Int × (Int->L.Sq L.Size)),let A3:=(t.1.n=w.n /\ ∀ (i:Nat),let A44:=(t.1.g i);i<t.1.n -> [I A44.id,I A44.colour,I A44.grain,SV.sl A12 A44.ol.n fun (i1:Nat)=>[I (A44.ol.g i1).x,I (A44.ol.g i1).y]] = [I (w.g i).id,I (w.g
 i).colour,I (w.g i).grain,SV.sl A12 (w.g i).ol.n fun (i1:Nat)=>[I ((w.g i).ol.g i1).x,I ((w.g i).ol.g i1).y]]);(w.n=t.1.n /\ ∀ (i:Nat),let A45:=(t.1.g i);i<w.n -> [I (w.g i).id,I (w.g i).colour,I (w.g i).grain,SV.sl A12 (w.g i).ol.n fun (i1:Nat)=>[I ((w.g i).ol.g i1).x,I ((w.g i).ol.g i1).y]] = [I A45.id,I A45.colour,I A45.grain,SV.sl A12 A45.ol.n fun (i1
:Nat)=>[I (A45.ol.g i1).x,I (A45.ol.g i1).y]])/\(s.g (T A14)).grain=t.2.1/\True /\ ∀ (u:Nat),True->A38/\T A14<T A15/\(T A14=A8->L.isLt A8 g=false/\L.isLt A8 g=false/\(∀ (x:Int),false=true->L.memo t.2.2 x=L.memo A18 x)/\A3/\t.2.1=(s.g A8).grain)/\(T A14=A8+A9->L.isLt A9 g=false/\L.isLt A9 g=false/\(∀ (x:Int),false
 = true->L.memo t.2.2 x=L.memo A22 x)/\A3/\t.2.1=(s.g A9).grain)/\(T A14=A8+A9+A9->L.isLt A12 g=false/\L.isLt A12 g=false/\(∀ (x:Int),false=true->L.memo t.2.2 x=L.memo A19 x)/\A3/\t.2.1=A33.grain)/\(T A14=A8+A9+A9+A9->L.isLt A16 g=false/\L.isLt A16 g=false/\(∀ (x:Int),false=true->L.memo t.2.2 x =
 L.memo A20 x)/\A3/\t.2.1=A32.grain)/\InK .i64 (A14+A58) /\ ∃ (g':Nat),A14+A58=(↑g':Int)/\A15=A15/\nat_lit 0=nat_lit 0/\nat_lit 0=nat_lit 0/\nat_lit 0=nat_lit 0/\nat_lit 0=nat_lit 0/\SV.ref A7 A13=SV.ref A7 A13/\SV.ref A2 A13=SV.ref A2 A13/\A27=L.isLt A8 g'/\A1/\(s.g A8).grain=(s.g A8).grain/\A27=L.isLt A8 g' /\
 A29/\A25=L.isLt A9 g'/\A1/\(s.g A9).grain=(s.g A9).grain/\A25=L.isLt A9 g'/\A35/\A24=L.isLt A12 g'/\A1/\A33.grain=A33.grain/\A24=L.isLt A12 g'/\A36/\A21=L.isLt A16 g'/\A1/\A32.grain=A32.grain/\A21=L.isLt A16 g'/\A37/\T A15=T A15/\false=false/\A23=A23/\Value.slice Option.none A8 A8=Value.slice Option.none A8 A8/\g' <= s.n/\s.n - g'<s.n
 - g) /\ ∃ (t:L.Sq L.Want × Int × (Int->L.Sq L.Size)),let A4:=(t.1.n=w.n /\ ∀ (i:Nat),let A46:=(t.1.g i);i<t.1.n -> [I A46.id,I A46.colour,I A46.grain,SV.sl A12 A46.ol.n fun (i1:Nat)=>[I (A46.ol.g i1).x,I (A46.ol.g i1).y]] = [I (w.g i).id,I (w.g i).colour,I (w.g i).grain,SV.sl A12 (w.g i).ol.n fun (i1:Nat)=>[I ((w.g i).ol.g i1).x,I ((w.g i).ol.g i1).y]]);(w.n
 = t.1.n /\ ∀ (i:Nat),let A47:=(t.1.g i);i<w.n -> [I (w.g i).id,I (w.g i).colour,I (w.g i).grain,SV.sl A12 (w.g i).ol.n fun (i1:Nat)=>[I ((w.g i).ol.g i1).x,I ((w.g i).ol.g i1).y]] = [I A47.id,I A47.colour,I A47.grain,SV.sl A12 A47.ol.n fun (i1:Nat)=>[I (A47.ol.g i1).x,I (A47.ol.g i1).y]])/\(s.g (T A14)).grain=t.2.1/\True /\ ∀ (u:Nat),True->A38/\T A14<T A15
 /\ (T A14=A8->L.isLt A8 g=false/\L.isLt A8 g=false/\(∀ (x:Int),false=true->L.memo t.2.2 x=L.memo A18 x)/\A4/\t.2.1=(s.g A8).grain)/\(T A14=A8+A9->L.isLt A9 g=false/\L.isLt A9 g=false/\(∀ (x:Int),false=true->L.memo t.2.2 x=L.memo A22 x)/\A4/\t.2.1=(s.g A9).grain)/\(T A14=A8+A9+A9->L.isLt A12 g=false /\
 L.isLt A12 g=false/\(∀ (x:Int),false=true->L.memo t.2.2 x=L.memo A19 x)/\A4/\t.2.1=A33.grain)/\(T A14=A8+A9+A9+A9->L.isLt A16 g=false/\L.isLt A16 g=false/\(∀ (x:Int),false=true->L.memo t.2.2 x=L.memo A20 x)/\A4/\t.2.1=A32.grain)/\InK .i64 (A14+A58) /\ ∃ (g':Nat),A14+A58=(↑g':Int)/\A15=A15 /\
 nat_lit 0=nat_lit 0/\nat_lit 0=nat_lit 0/\nat_lit 0=nat_lit 0/\nat_lit 0=nat_lit 0/\SV.ref A7 A13=SV.ref A7 A13/\SV.ref A2 A13=SV.ref A2 A13/\A27=L.isLt A8 g'/\A1/\(s.g A8).grain=(s.g A8).grain/\A27=L.isLt A8 g'/\A29/\A25=L.isLt A9 g'/\A1/\(s.g A9).grain=(s.g A9).grain/\A25=L.isLt A9 g'/\A35/\A24=L.isLt A12 g'/\A1/\A33.grain =
 A33.grain/\A24=L.isLt A12 g'/\A36/\A21=L.isLt A16 g'/\A1/\A32.grain=A32.grain/\A21=L.isLt A16 g'/\A37/\T A15=T A15/\false=false/\A23=A23/\Value.slice Option.none A8 A8=Value.slice Option.none A8 A8/\g' <= s.n/\s.n - g'<s.n - g)/\(decide (A14<A15)=false->A30/\(A28 /\ ∃ (t:L.Sq L.Want × L.Sq L.Sheet × Nat × List Int × (Nat->Int) ×
 Int × (Nat->Int) × L.AS),let A10:=(L.putF t.1 t.2.1 t.snd.2.1 t.snd.snd.2.1 t.snd.snd.snd.snd.2.1 t.snd.snd.snd.snd.snd.2.1 t.snd.snd.snd.snd.snd.2.2);let A55:=(L.sqI A10.bt);let A5:=(w.n=t.1.n /\ ∀ (i:Nat),let A48:=(t.1.g i);i<w.n -> [I (w.g i).id,I (w.g i).colour,I (w.g i).grain,SV.sl A12 (w.g i).ol.n fun (i1:Nat)=>[I ((w.g i).ol.g i1).x,I ((w.g i).ol.g i1).y]] =
 [I A48.id,I A48.colour,I A48.grain,SV.sl A12 A48.ol.n fun (i1:Nat)=>[I (A48.ol.g i1).x,I (A48.ol.g i1).y]]);A23=(↑t.snd.2.1:Int)/\nat_lit 0=t.snd.2.1/\A23=t.snd.snd.snd.snd.2.1/\nat_lit 0=A8/\nat_lit 0=A8/\SV.ref A2 A13=SV.ref [SV.sl A59 t.1.n fun (i:Nat)=>let A49:=(t.1.g i);[I A49.id,I A49.colour,I A49.grain,SV.sl A12 A49.ol.n fun
 (i1:Nat)=>[I (A49.ol.g i1).x,I (A49.ol.g i1).y]]] A8/\nat_lit 0=A8/\SV.ref A7 A13=SV.ref [SV.sl (5:Nat) t.2.1.n fun (i:Nat)=>let A40:=(t.2.1.g i);[I A40.id,I A40.colour,I A40.w,I A40.h,I A40.grain]] A8/\nat_lit 0=A8/\nat_lit 0=A8/\nat_lit 0=A8/\false=t.snd.snd.snd.snd.snd.2.2.fd/\A23=t.snd.snd.snd.snd.snd.2.2.ls/\(L.sqI
 t.snd.snd.snd.snd.snd.2.2.bt).n=A8/\EV.cl (nat_lit 127) A17=EV.cl (127:Nat) [EV.loc (9:Nat) A13,EV.loc (8:Nat) A13,EV.p (SV.ref [SV.sl (nat_lit 4) t.1.n fun (i:Nat)=>let A50:=(t.1.g i);[I A50.id,I A50.colour,I A50.grain,SV.sl A12 A50.ol.n fun (i1:Nat)=>[I (A50.ol.g i1).x,I (A50.ol.g i1).y]]] A13),EV.loc (7:Nat) A13,
 EV.p (SV.ref [SV.sl (nat_lit 5) t.2.1.n fun (i:Nat)=>let A41:=(t.2.1.g i);[I A41.id,I A41.colour,I A41.w,I A41.h,I A41.grain]] A13),EV.loc (10:Nat) A13,EV.loc (12:Nat) A13,EV.loc (13:Nat) A13]/\T A15=t.2.1.n/\L.isLt A8 g=L.isLt A8 t.2.1.n/\A5/\(s.g A8).grain=(t.2.1.g A8).grain/\L.isLt A8 g=L.isLt A8 t.2.1.n/\(∀ (x:Int),L.memo
 A18 x=L.memo (L.tabF t.1 (t.2.1.g A8).grain) x)/\L.isLt A9 g=L.isLt A9 t.2.1.n/\A5/\(s.g A9).grain=(t.2.1.g A9).grain/\L.isLt A9 g=L.isLt A9 t.2.1.n/\(∀ (x:Int),L.memo A22 x=L.memo (L.tabF t.1 (t.2.1.g A9).grain) x)/\L.isLt A12 g=L.isLt A12 t.2.1.n/\A5/\A33.grain=(t.2.1.g A12).grain/\L.isLt A12 g=L.isLt A12 t.2.1.n/\(∀ (x:Int),L.memo A19 x=L.memo (L.tabF t.1
 (t.2.1.g A12).grain) x)/\L.isLt A16 g=L.isLt A16 t.2.1.n/\A5/\A32.grain=(t.2.1.g A16).grain/\L.isLt A16 g=L.isLt A16 t.2.1.n/\(∀ (x:Int),L.memo A20 x=L.memo (L.tabF t.1 (t.2.1.g A16).grain) x)/\(T A15=t.2.1.n /\ ∀ (i:Nat),i<T A15 -> [I A23] = [I (t.snd.snd.snd.snd.snd.2.1 i)])/\(T A34=t.1.n /\ ∀ (i:Nat),i<T A34 -> [I A23] = [I (L.atI t.snd.snd.2.1 t.snd.snd.snd.2.1 i)])
 /\ (L.okW t.1/\t.2.1.n <= A59/\(∀ (k:Nat),k<t.2.1.n->L.vSheet (t.2.1.g k)=true)/\t.snd.2.1 <= t.1.n/\L.lenI t.snd.snd.2.1=t.snd.2.1/\L.okG t.2.1.n t.snd.2.1 t.snd.snd.snd.snd.snd.2.1/\A23 <= t.snd.snd.snd.snd.2.1/\t.snd.snd.snd.snd.2.1 <= (↑t.snd.2.1:Int) * (16777216:Int)) /\ ∀ (u:Nat->Int),True -> ∃ (u:Nat),(A55.n=A39.n /\ ∀ (i:Nat),i<A55.n -> [I (A55.g i)] = [I
 (A39.g i)])/\A10.ls=A31.ls/\A10.fd=A31.fd/\True)/\A28 /\ ∃ (t:L.Sq L.Want × L.Sq L.Sheet × Nat × List Int × (Nat->Int) × Int × (Nat->Int) × L.AS),let A11:=(L.putF t.1 t.2.1 t.snd.2.1 t.snd.snd.2.1 t.snd.snd.snd.snd.2.1 t.snd.snd.snd.snd.snd.2.1 t.snd.snd.snd.snd.snd.2.2);let A56:=(L.sqI A11.bt);let A6:=(w.n=t.1.n /\ ∀ (i:Nat),let A51:=(t.1.g i);i<w.n -> [I (w.g i).id,I
 (w.g i).colour,I (w.g i).grain,SV.sl A12 (w.g i).ol.n fun (i1:Nat)=>[I ((w.g i).ol.g i1).x,I ((w.g i).ol.g i1).y]] = [I A51.id,I A51.colour,I A51.grain,SV.sl A12 A51.ol.n fun (i1:Nat)=>[I (A51.ol.g i1).x,I (A51.ol.g i1).y]]);A23=(↑t.snd.2.1:Int)/\nat_lit 0=t.snd.2.1/\A23=t.snd.snd.snd.snd.2.1/\nat_lit 0=A8/\nat_lit 0=A8/\SV.ref A2 A13=SV.ref
 [SV.sl A59 t.1.n fun (i:Nat)=>let A52:=(t.1.g i);[I A52.id,I A52.colour,I A52.grain,SV.sl A12 A52.ol.n fun (i1:Nat)=>[I (A52.ol.g i1).x,I (A52.ol.g i1).y]]] A8/\nat_lit 0=A8/\SV.ref A7 A13=SV.ref [SV.sl (5:Nat) t.2.1.n fun (i:Nat)=>let A42:=(t.2.1.g i);[I A42.id,I A42.colour,I A42.w,I A42.h,I A42.grain]] A8/\nat_lit 0=A8/\nat_lit 0 =
 A8/\nat_lit 0=A8/\false=t.snd.snd.snd.snd.snd.2.2.fd/\A23=t.snd.snd.snd.snd.snd.2.2.ls/\(L.sqI t.snd.snd.snd.snd.snd.2.2.bt).n=A8/\EV.cl (nat_lit 127) A17=EV.cl (127:Nat) [EV.loc (9:Nat) A13,EV.loc (8:Nat) A13,EV.p (SV.ref [SV.sl (nat_lit 4) t.1.n fun (i:Nat)=>let A53:=(t.1.g i);[I A53.id,I A53.colour,I A53.grain,
 SV.sl A12 A53.ol.n fun (i1:Nat)=>[I (A53.ol.g i1).x,I (A53.ol.g i1).y]]] A13),EV.loc (7:Nat) A13,EV.p (SV.ref [SV.sl (nat_lit 5) t.2.1.n fun (i:Nat)=>let A43:=(t.2.1.g i);[I A43.id,I A43.colour,I A43.w,I A43.h,I A43.grain]] A13),EV.loc (10:Nat) A13,EV.loc (12:Nat) A13,EV.loc (13:Nat) A13]/\T A15=t.2.1.n/\L.isLt A8 g =
 L.isLt A8 t.2.1.n/\A6/\(s.g A8).grain=(t.2.1.g A8).grain/\L.isLt A8 g=L.isLt A8 t.2.1.n/\(∀ (x:Int),L.memo A18 x=L.memo (L.tabF t.1 (t.2.1.g A8).grain) x)/\L.isLt A9 g=L.isLt A9 t.2.1.n/\A6/\(s.g A9).grain=(t.2.1.g A9).grain/\L.isLt A9 g=L.isLt A9 t.2.1.n/\(∀ (x:Int),L.memo A22 x=L.memo (L.tabF t.1 (t.2.1.g A9).grain) x)/\L.isLt A12 g=L.isLt A12 t.2.1.n/\A6 /\
 A33.grain=(t.2.1.g A12).grain/\L.isLt A12 g=L.isLt A12 t.2.1.n/\(∀ (x:Int),L.memo A19 x=L.memo (L.tabF t.1 (t.2.1.g A12).grain) x)/\L.isLt A16 g=L.isLt A16 t.2.1.n/\A6/\A32.grain=(t.2.1.g A16).grain/\L.isLt A16 g=L.isLt A16 t.2.1.n/\(∀ (x:Int),L.memo A20 x=L.memo (L.tabF t.1 (t.2.1.g A16).grain) x)/\(T A15=t.2.1.n /\ ∀ (i:Nat),i<T A15 -> [I A23] = [I
 (t.snd.snd.snd.snd.snd.2.1 i)])/\(T A34=t.1.n /\ ∀ (i:Nat),i<T A34 -> [I A23] = [I (L.atI t.snd.snd.2.1 t.snd.snd.snd.2.1 i)])/\(L.okW t.1/\t.2.1.n <= A59/\(∀ (k:Nat),k<t.2.1.n->L.vSheet (t.2.1.g k)=true)/\t.snd.2.1 <= t.1.n/\L.lenI t.snd.snd.2.1=t.snd.2.1/\L.okG t.2.1.n t.snd.2.1 t.snd.snd.snd.snd.snd.2.1/\A23 <= t.snd.snd.snd.snd.2.1/\t.snd.snd.snd.snd.2.1 <= (↑t.snd.2.1
:Int) * (16777216:Int)) /\ ∀ (u:Nat->Int),True -> ∃ (u:Nat),(A56.n=A39.n /\ ∀ (i:Nat),i<A56.n -> [I (A56.g i)] = [I (A39.g i)])/\A11.ls=A31.ls/\A11.fd=A31.fd/\True)) (by kernel_rfl) (by
 conv=>zeta
 have hp:L.okW w/\s.n <= 4/\(∀ k,k<s.n->L.vSheet (s.g k)=true):=hp
 obtain ⟨hok,hs4,hsv⟩:=hp
 have hw4:=hok.1
 have b1:0 <= (s.n:Int):=Int.natCast_nonneg _
 have b2:(s.n:Int) * 8 <= 140737488355328:=by omega
 have b3:0 <= (w.n:Int):=Int.natCast_nonneg _
 have b4:(w.n:Int) * 8 <= 140737488355328:=by omega
 have b5:2 * s.n <= 0+1+1+1+1+1+1+1+1:=by omega
 rw [Int.toNat_natCast s.n,Int.toNat_natCast w.n]
 refine ⟨⟨b1,Int.le_refl _,b2⟩,b5,⟨0,(by (try dsimp only);(repeat' with_reducible apply And.intro) <;> first | with_reducible rfl | with_reducible exact Nat.zero_le _ | with_reducible exact isLt_0 _ | with_reducible exact fun _=>rfl | with_reducible exact fun _ _=>rfl | with_reducible exact trivial | exact rfl | (intro _;exact rfl) | (intro _ _;exact rfl) | exact Nat.zero_le _ | exact isLt_0 _ | exact trivial | (intro _ h_;exact absurd h_ (Nat.not_lt_zero _)))⟩,fun g hg=>?_⟩
 rw [Int.toNat_natCast g]
 refine ⟨fun hc=>?_,fun hc=>?_⟩
 ·have hc:(g:Int)<(s.n:Int):=of_decide_eq_true hc
  have hk:g<s.n:=by omega
  have c0:0 <= (g:Int)/\(g:Int)<(s.n:Int):=⟨Int.natCast_nonneg _,hc⟩
  have k2:InK .i64 ((g:Int)+1):=jK
  have kk:g+1 <= s.n:=hk
  have mm:s.n - (g+1)<s.n - g:=by omega
  have cn:(g:Int)+1=((g+1:Nat):Int):=by omega
  repeat' with_reducible apply And.intro
  all_goals first | exact c0.1 | exact c0.2 | exact ⟨(w,(s.g g).grain,L.tabF w (s.g g).grain),(by (try dsimp only);(repeat' with_reducible apply And.intro) <;> first | with_reducible rfl | with_reducible exact fun _=>rfl | with_reducible exact fun _ _=>rfl | with_reducible exact trivial | (intro u _;exact (by (try dsimp only);(repeat' with_reducible apply And.intro) <;> first | with_reducible rfl | with_reducible assumption | with_reducible exact c0.1 | with_reducible exact c0.2 | with_reducible exact fun _=>rfl | with_reducible exact fun _ _=>rfl | with_reducible exact trivial | (intro e;exact by subst e;exact ⟨isLt_self _,isLt_self _,fun _ h=>(by cases h),⟨rfl,fun _ _=>rfl⟩,rfl⟩) | exact ⟨g+1,(by (try dsimp only);(repeat' with_reducible apply And.intro) <;> first | with_reducible rfl | with_reducible assumption | with_reducible exact isLt_succ 0 g | with_reducible exact isLt_succ 1 g | with_reducible exact isLt_succ 2 g | with_reducible exact isLt_succ 3 g | with_reducible exact fun _=>rfl | with_reducible exact fun _ _=>rfl | with_reducible exact trivial | exact rfl | (intro _;exact rfl) | (intro _ _;exact rfl) | exact cn | exact kk | exact mm | exact isLt_succ 0 g | exact isLt_succ 1 g | exact isLt_succ 2 g | exact isLt_succ 3 g | exact trivial | (intro _ h_;exact absurd h_ (Nat.not_lt_zero _)))⟩ | exact rfl | (intro _;exact rfl) | (intro _ _;exact rfl) | exact c0.1 | exact c0.2 | exact hk | exact k2 | exact trivial | (intro _ h_;exact absurd h_ (Nat.not_lt_zero _)))) | exact rfl | (intro _;exact rfl) | (intro _ _;exact rfl) | exact trivial | (intro _ h_;exact absurd h_ (Nat.not_lt_zero _)))⟩
 ·have hc:¬ (g:Int)<(s.n:Int):=of_decide_eq_false hc
  obtain rfl:g=s.n:=by omega
  have z0:(0:Int) <= 0:=Int.le_refl _
  have og:L.okG s.n 0 (fun _=>0):=fun k _=>⟨Int.le_refl _,(by show (0:Int)<2 ^ 0;decide)⟩
  have at0:∀ i,i<w.n -> [SV.int .i64 0] = [SV.int .i64 (L.atI [] (fun _=>0) i)]:=fun i _=>by
   unfold L.atI;rfl
  have s1:(0:Int) <= ((0:Nat):Int) * 16777216:=by decide
  repeat' with_reducible apply And.intro
  all_goals first | exact b1 | exact b2 | exact b3 | exact b4 | exact z0 | exact Int.le_refl _ | exact ⟨(w,s,0,[],fun _=>0,0,fun _=>0,L.as0),(by (try dsimp only);(repeat' with_reducible apply And.intro) <;> first | with_reducible rfl | with_reducible assumption | with_reducible exact Nat.zero_le _ | with_reducible exact fun _=>rfl | with_reducible exact fun _ _=>rfl | with_reducible exact trivial | (intro u _;exact ⟨(0:Nat),(by (try dsimp only);(repeat' with_reducible apply And.intro) <;> first | with_reducible rfl | with_reducible exact fun _=>rfl | with_reducible exact fun _ _=>rfl | with_reducible exact trivial | exact rfl | (intro _;exact rfl) | (intro _ _;exact rfl) | exact trivial | (intro _ h_;exact absurd h_ (Nat.not_lt_zero _)))⟩) | exact rfl | (intro _;exact rfl) | (intro _ _;exact rfl) | exact hok | exact hs4 | exact hsv | exact Nat.zero_le _ | exact og | exact z0 | exact s1 | exact at0 | exact trivial | (intro _ h_;exact absurd h_ (Nat.not_lt_zero _)))⟩)
theorem c_assign_en:Enters Tryz.prog 78:=fun args w=>by kernel_rfl
theorem c_assign_mok:MkOk Tryz.prog 78 c_assign_mk:=mk_ok (n:=2) Tryz.func78 (c:=bodyOf Tryz.f78) (by kernel_rfl) mixed ⟨fun t=>rfl,fun t=>rfl,fun t u=>rfl,fun t u=>rfl,fun t u=>rfl,fun t u=>⟨rfl,rfl⟩,by kernel_rfl,by kernel_rfl⟩ (fun ⟨w,s⟩ hp=>⟨_,c_assign_vc w s hp,⟨show SpecsL Tryz.prog _ from SpecsL.nil,rfl,⟨show ItersL Tryz.prog _ from ItersL.nil,⟨TrsOk.no1 (fun _=>rfl),⟨show MksL Tryz.prog _ from (MksL.cons c_shapesOf_mok c_shapesOf_en (MksL.cons c_as1_mok c_as1_en MksL.nil)),FamsOk.none (fun _=>rfl)⟩⟩⟩⟩⟩)
end
end Go.Proofs.YtpgaejicfbpcmaaGreat
namespace Go.Proofs.YtpgaejicfbpcmaaGreat
open Go.SE Go.RowKit
set_option maxRecDepth 100000
set_option maxHeartbeats 4000000
set_option linter.unusedVariables false
attribute [local irreducible] vc
def L.inS (n:Nat) (l:List Int):Prop:=∀ x,x ∈ l->0 <= x/\x<(n:Int)
theorem asP_in (w:L.Sq L.Want) (s:L.Sq L.Sheet):∀ (f i:Nat) (A:List Int) (sum:Int) (G:Nat->Int) (st:L.AS),L.inS s.n A->L.inS s.n st.bt->L.inS s.n (L.asP w s f i A sum G st).bt
 | 0,_,_,_,_,_,_,h=>h
 | f+1,i,A,sum,G,st,hA,h=>by
   rw [L.asP]
   split
   ·exact h
   ·split
    ·exact hA
    ·have key : ∀ (l : List Nat) (st : L.AS), (∀ k, k ∈ l -> k < s.n) -> L.inS s.n st.bt -> L.inS s.n (l.foldl (fun st k => bif L.asNo w s G i k then st else L.asP w s f (i + 1) (L.snocI A k) (sum + L.asM s G k) (L.asG G k i) st) st).bt := fun l => by
      induction l with
      | nil=>intro st _ h;exact h
      | cons k l ih =>
        intro st hl h
        rw [List.foldl_cons]
        refine ih _ (fun k hk=>hl k (List.mem_cons_of_mem _ hk)) ?_
        cases L.asNo w s G i k with
        | true=>exact h
        | false =>
          refine asP_in w s f _ _ _ _ _ (fun x hx=>?_) h
          unfold L.snocI at hx
          rcases List.mem_append.1 hx with hx | hx
          ·exact hA x hx
          ·have:=hl k (List.mem_cons_self ..)
           rw [List.mem_singleton.1 hx];omega
     exact key _ st (fun k hk=>List.mem_range.1 hk) h
theorem asgF_in (w:L.Sq L.Want) (s:L.Sq L.Sheet) {i:Nat} (hi:i<(L.sqI (L.asgF w s).bt).n):0 <= (L.sqI (L.asgF w s).bt).g i/\(L.sqI (L.asgF w s).bt).g i<(s.n:Int):=by
 have h:L.inS s.n (L.asgF w s).bt:=asP_in w s _ _ _ _ _ _ (fun x hx=>by cases hx) (fun x hx=>by cases hx)
 have hi:i<(L.asgF w s).bt.length:=hi
 have e:(L.sqI (L.asgF w s).bt).g i=(L.asgF w s).bt[i]:=by
  show (L.asgF w s).bt.getD i 0=_
  rw [List.getD_eq_getElem?_getD,List.getElem?_eq_getElem hi];rfl
 rw [e]
 exact h _ (List.getElem_mem hi)
theorem asP_len (w:L.Sq L.Want) (s:L.Sq L.Sheet):∀ (f i:Nat) (A:List Int) (sum:Int) (G:Nat->Int) (st:L.AS),A.length=i->(st.bt.length=0\/st.bt.length=w.n)->(L.asP w s f i A sum G st).bt.length=0\/(L.asP w s f i A sum G st).bt.length=w.n
 | 0,_,_,_,_,_,_,h=>h
 | f+1,i,A,sum,G,st,hA,h=>by
   rw [L.asP]
   split
   ·exact h
   ·split
    ·rename_i e;exact .inr (hA.trans e)
    ·have key : ∀ (l : List Nat) (st : L.AS), (st.bt.length = 0 \/ st.bt.length = w.n) -> ((l.foldl (fun st k => bif L.asNo w s G i k then st else L.asP w s f (i + 1) (L.snocI A k) (sum + L.asM s G k) (L.asG G k i) st) st).bt.length = 0 \/ (l.foldl (fun st k => bif L.asNo w s G i k then st else L.asP w s f (i + 1) (L.snocI A k) (sum + L.asM s G k) (L.asG G k i) st) st).bt.length = w.n) := fun l => by
      induction l with
      | nil=>intro st h;exact h
      | cons k l ih =>
        intro st h
        rw [List.foldl_cons]
        refine ih _ ?_
        cases L.asNo w s G i k with
        | true=>exact h
        | false=>exact asP_len w s f _ _ _ _ _ (by unfold L.snocI;simp [hA]) h
     exact key _ st h
theorem asgF_len (w:L.Sq L.Want) (s:L.Sq L.Sheet):(L.sqI (L.asgF w s).bt).n <= w.n:=by
 have:=asP_len w s (w.n+1 - 0) 0 [] 0 (fun _=>0) L.as0 rfl (.inl rfl)
 have:(L.asgF w s).bt.length=0\/(L.asgF w s).bt.length=w.n:=this
 show (L.asgF w s).bt.length <= w.n
 omega
def L.preS (s:L.Sq L.Sheet):Prop:=(s.n <= 4\/7<s.n)/\s.n <= 1000000
def L.agE (w:L.Sq L.Want) (s:L.Sq L.Sheet):Int:=bif !decide (L.badE w s true=0) then L.badE w s true else bif !(L.asgF w s).fd then 52 else 0
def L.agN (w:L.Sq L.Want) (s:L.Sq L.Sheet):Nat:=bif decide (L.agE w s=0) then (L.sqI (L.asgF w s).bt).n else 0
def L.agA (w:L.Sq L.Want) (s:L.Sq L.Sheet):Int:=bif decide (L.agE w s=0) then (L.asgF w s).ls else 0
def L.agI (w:L.Sq L.Want) (s:L.Sq L.Sheet) (i:Nat):Int:=(s.g ((L.sqI (L.asgF w s).bt).g i).toNat).id
theorem vSheets_o9 {s:L.Sq L.Sheet} (h:L.vSheets s=true):∀ i,i<s.n->L.vSheet (s.g i)=true:=fun i hi=>by
 have:=allB_iff.1 h i hi
 simp only [Bool.not_eq_true'] at this
 unfold L.badAt at this
 cases h1:L.vSheet (s.g i)
 ·simp only [h1] at this;cases this
 ·rfl
section
attribute [local irreducible] L.putK L.putF L.asP L.asgF L.roomB L.tabF L.tab L.all
def c_Assign_p (w:(L.Sq L.Want)) (s:(L.Sq L.Sheet)):Prop:=L.preW w/\L.preS s
def c_Assign_r (w:(L.Sq L.Want)) (s:(L.Sq L.Sheet)):SV:=.tup [.sl 1 (L.agN w s) (fun i=>[.int .i64 (L.agI w s i)]),.int .i64 (L.agA w s),.int .i64 (L.agE w s)]
def c_Assign_s:List EV->Option (Prop × SV)
 | [.p (.sl 4 w_n w_g),.p (.sl 5 s_n s_g)]=>some ((∀ i,i<w_n->okWant (w_g i))/\(∀ i,i<s_n->s_g i = [.int .i64 ((ofSheet (s_g i)).id),.int .i64 ((ofSheet (s_g i)).colour),.int .i64 ((ofSheet (s_g i)).w),.int .i64 ((ofSheet (s_g i)).h),.int .i64 ((ofSheet (s_g i)).grain)])/\c_Assign_p (⟨w_n,fun i=>ofWant (w_g i)⟩:(L.Sq L.Want)) (⟨s_n,fun i=>ofSheet (s_g i)⟩:(L.Sq L.Sheet)),c_Assign_r (⟨w_n,fun i=>ofWant (w_g i)⟩:(L.Sq L.Want)) (⟨s_n,fun i=>ofSheet (s_g i)⟩:(L.Sq L.Sheet)))
 | _=>none
abbrev c_Assign_S:SE.Spec:=(specO c_Assign_s)
def c_Assign_C:Cfg:={ cC with muts:=[40],frz:=lookN [(12,[40])],specs:=lookS [(60,c_bad_S)],mks:=lookK [(78,c_assign_mk)],ren:=fun k=>k,nilsL:=lookM [(8,[(4,40,3,1)])] }
theorem c_Assign_vc (w:(L.Sq L.Want)) (s:(L.Sq L.Sheet)) (hp:c_Assign_p w s):vc Tryz.prog ({ c_Assign_C with loops:=lookL [(8,{ T:=Nat,keep:=[1,4,5,27,28],keepO:=[],chg:=fun i=>[(29,.p (.int .i64 (i:Int)))],own:=fun i=>[(40,.row 3 1 i (fun j=>[.int .i64 (L.agI w s j)]))],inv:=fun i=>i <= (L.sqI (L.asgF w s).bt).n,mu:=fun i=>(L.sqI (L.asgF w s).bt).n - i })],rfs:=lookR [] }) (bodyOf Tryz.f27) (st0 Tryz.f27 [.p (.sl 4 w.n (fun i=>[.int .i64 ((w.g i).id),.int .i64 ((w.g i).colour),.int .i64 ((w.g i).grain),.sl 2 (w.g i).ol.n (fun i1=>[.int .i64 (((w.g i).ol.g i1).x),.int .i64 (((w.g i).ol.g i1).y)])])),.p (.sl 5 s.n (fun i=>[.int .i64 ((s.g i).id),.int .i64 ((s.g i).colour),.int .i64 ((s.g i).w),.int .i64 ((s.g i).h),.int .i64 ((s.g i).grain)]))]) (retFn Tryz.prog Tryz.f27 (c_Assign_r w s)) :=
 @Eq.mpr _ (let I:=SV.int .i64;let T:=Int.toNat;let A16:=(0:Nat);let A14:=(1000000:Nat);let A12:=(L.Sq.mk s.n fun (i:Nat)=>s.g i);let A11:=(0:Int);let A4:=(L.sqI (L.asgF w s).bt);let A2:=(L.Sq.mk w.n fun (i:Nat)=>L.Want.mk (w.g i).id (w.g i).colour (w.g i).grain (L.Sq.mk (w.g i).ol.n fun (i_1:Nat)=>(w.g i).ol.g i_1));let A3:=(!decide (L.badE A2 A12 true=A11));((∀ (i:Nat),i<w.n -> ∀ (i_1:Nat),let A9:=((w.g i).ol.g i_1);i_1<(w.g i).ol.n -> [I A9.x,I A9.y] = [I A9.x,I A9.y])/\(∀ (i:Nat),let A5:=[I (s.g i).id,I (s.g i).colour,I (s.g i).w,I (s.g i).h,I (s.g i).grain];i<s.n->A5=A5)/\w.n <= A14/\(∀ (i:Nat),i<w.n->(w.g i).ol.n <= A14)/\s.n <= A14)/\(A3=true->L.agN w s=A16/\A11=L.agA w s/\L.badE A2 A12 true=L.agE w s)/\(A3=false -> ∃ (t:L.Sq L.Want × L.Sq L.Sheet),let A7:=(L.asgF t.1 t.2);let A1:=(L.sqI A7.bt);let A10:=(↑A1.n:Int);(w.n=t.1.n /\ ∀ (i:Nat),let A13:=(t.1.g i);i<w.n -> [I (w.g i).id,I (w.g i).colour,I (w.g i).grain,SV.sl (2:Nat) (w.g i).ol.n fun (i1:Nat)=>[I ((w.g i).ol.g i1).x,I ((w.g i).ol.g i1).y]] = [I A13.id,I A13.colour,I A13.grain,SV.sl (2:Nat) A13.ol.n fun (i1:Nat)=>[I (A13.ol.g i1).x,I (A13.ol.g i1).y]])/\(s.n=t.2.n /\ ∀ (i:Nat),let A15:=(t.2.g i);i<s.n -> [I (s.g i).id,I (s.g i).colour,I (s.g i).w,I (s.g i).h,I (s.g i).grain] = [I A15.id,I A15.colour,I A15.w,I A15.h,I A15.grain])/\(L.okW t.1/\t.2.n <= (4:Nat) /\ ∀ (k:Nat),k<t.2.n->L.vSheet (t.2.g k)=true) /\ ∀ (u:Nat),True->((!A7.fd)=true->L.agN w s=A16/\A11=L.agA w s/\(52:Int)=L.agE w s)/\((!A7.fd)=false->(∃ (g:Nat),A11=(↑g:Int)/\(A16=g /\ ∀ (i:Nat),i<A16 -> [] = [I (L.agI w s i)])/\g <= A4.n) /\ ∀ (g:Nat),let A8:=(↑g:Int);g <= A4.n->(decide (A8<A10)=true->(A11 <= A8/\A8<A10)/\(A11 <= A1.g (T A8)/\A1.g (T A8)<(↑s.n:Int))/\(g+nat_lit 1) * nat_lit 8 <= (140737488355328:Nat)/\InK .i64 (A8+(1:Int)) /\ ∃ (g':Nat),A8+(1:Int)=(↑g':Int)/\A10=A10/\(A1.n=A1.n /\ ∀ (i:Nat),i<A1.n -> [I (A1.g i)] = [I (A1.g i)])/\A7.ls=A7.ls/\(s.n=s.n /\ ∀ (i:Nat),let A6:=[I (s.g i).id,I (s.g i).colour,I (s.g i).w,I (s.g i).h,I (s.g i).grain];i<s.n->A6=A6)/\(g+nat_lit 1=g' /\ ∀ (i:Nat),i<g+nat_lit 1->appGet g (fun (j:Nat)=>[I (L.agI w s j)]) (fun (x:Nat)=>[I (s.g (T (A1.g (T A8)))).id]) i = [I (L.agI w s i)])/\g' <= A4.n/\A4.n - g'<A4.n - g)/\(decide (A8<A10)=false->(g=L.agN w s /\ ∀ (i:Nat),i<g -> [I (L.agI w s i)] = [I (L.agI w s i)])/\A7.ls=L.agA w s/\A11=L.agE w s)))) (by kernel_rfl) (by
 conv=>zeta
 obtain ⟨hw,hs⟩:=(show L.preW w/\L.preS s from hp)
 have fin:∀ e,L.agE w s=e->e ≠ 0->L.agN w s=0/\0=L.agA w s/\e=L.agE w s:=fun e h h0=>⟨by unfold L.agN;rw [h,decide_eq_false h0];rfl,by unfold L.agA;rw [h,decide_eq_false h0];rfl,h.symm⟩
 refine ⟨⟨fun _ _ _ _=>rfl,fun _ _=>rfl,hw.2.1,hw.2.2,hs.2⟩,fun h=>?_,fun h=>?_⟩
 ·have h:(!decide (L.badE w s true=0))=true:=h
  exact fin _ (by unfold L.agE;rw [h];rfl) (of_decide_eq_false (notT h))
 ·have h:(!decide (L.badE w s true=0))=false:=h
  obtain ⟨-,v2,-,v4,v5⟩:=badE_0 (of_decide_eq_true (notF h))
  have ok:=okW_of hw v4
  have s4:s.n <= 4:=by have:=hs.1;omega
  refine ⟨(w,s),⟨rfl,fun _ _=>rfl⟩,⟨rfl,fun _ _=>rfl⟩,⟨ok,s4,vSheets_o9 v2⟩,fun _ _=>⟨fun h2=>?_,fun h2=>?_⟩⟩
  ·have h2:(!(L.asgF w s).fd)=true:=h2
   exact fin 52 (by unfold L.agE;rw [h,h2];rfl) (by decide)
  ·have h2:(!(L.asgF w s).fd)=false:=h2
   have e:L.agE w s=0:=by unfold L.agE;rw [h,h2];rfl
   have eN:L.agN w s=(L.sqI (L.asgF w s).bt).n:=by unfold L.agN;rw [e];rfl
   have eA:L.agA w s=(L.asgF w s).ls:=by unfold L.agA;rw [e];rfl
   rw [e,eN,eA]
   have hl:=asgF_len w s
   have hw4:=ok.1
   dsimp only
   refine ⟨⟨0,rfl,⟨rfl,fun i hi=>absurd hi (Nat.not_lt_zero _)⟩,Nat.zero_le _⟩,fun g hg=>⟨fun hc=>?_,fun hc=>?_⟩⟩
   ·have hc:(g:Int)<((L.sqI (L.asgF w s).bt).n:Int):=of_decide_eq_true hc
    have hlt:g<(L.sqI (L.asgF w s).bt).n:=by omega
    have hin:=asgF_in w s hlt
    rw [Int.toNat_natCast g]
    refine ⟨⟨Int.natCast_nonneg _,hc⟩,hin,by show (g+1) * 8 <= 140737488355328;omega,jK,g+1,by omega,rfl,⟨rfl,fun _ _=>rfl⟩,rfl,⟨rfl,fun _ _=>rfl⟩,⟨rfl,fun i hi=>?_⟩,hlt,by omega⟩
    unfold appGet
    by_cases e:i<g
    ·rw [if_pos e]
    ·rw [if_neg e]
     obtain rfl:i=g:=by omega
     rfl
   ·have hc:¬ (g:Int)<((L.sqI (L.asgF w s).bt).n:Int):=of_decide_eq_false hc
    exact ⟨⟨by omega,fun _ _=>rfl⟩,rfl,rfl⟩)
theorem c_Assign_ok:SpecOk Tryz.prog 27 c_Assign_S:=fnX Tryz.func27 (c:=bodyOf Tryz.f27) (by kernel_rfl) mixed (fun args p r hs hp=>by
 unfold c_Assign_s at hs
 split at hs
 ·cases hs;exact ⟨_,_,c_Assign_vc _ _ hp.2.2,(.p (Want_ext hp.1) (.p (.sl hp.2.1) .nil)),⟨show SpecsL Tryz.prog _ from (SpecsL.cons c_bad_ok c_bad_en SpecsL.nil),rfl,⟨show ItersL Tryz.prog _ from ItersL.nil,⟨TrsOk.no1 (fun _=>rfl),⟨show MksL Tryz.prog _ from (MksL.cons c_assign_mok c_assign_en MksL.nil),FamsOk.none (fun _=>rfl)⟩⟩⟩⟩⟩
 ·cases hs)
theorem c_Assign_en:Enters Tryz.prog 27:=fun args w=>by kernel_rfl
end
end Go.Proofs.YtpgaejicfbpcmaaGreat
namespace Go.Proofs.YtpgaejicfbpcmaaGreat
open Go.SE Go.RowKit
set_option maxRecDepth 100000
set_option maxHeartbeats 4000000
set_option linter.unusedVariables false
attribute [local irreducible] vc
def L.ptsL (l:List (Int × Int)):L.Sq L.Pt:=⟨l.length,fun i=>⟨(l.getD i (0,0)).1,(l.getD i (0,0)).2⟩⟩
def L.w1:L.Want:=⟨1,1,0,L.ptsL [(0,0),(8,0),(8,4),(4,3),(0,4)]⟩
def L.w2:L.Want:=⟨2,1,0,L.ptsL [(0,0),(6,0),(6,2),(0,2)]⟩
def L.gt (a:Nat) (b:Int):Bool:=decide (b<(a:Int))
def L.lee (a:Nat) (b:Int):Bool:=decide ((a:Int) <= b)
def L.fewN (a b:Nat):Bool:=bif bif bif bif L.gt a 4 then L.lee a 7 else false then true else L.gt a 20 then true else bif L.gt b 4 then L.lee b 7 else false then true else L.gt b 20
def L.few (w:L.Sq L.Want) (s:L.Sq L.Sheet):Bool:=bif L.fewN w.n s.n then false else L.allB w.n fun i=>!L.gt (w.g i).ol.n 60
def w_first_p :Prop:=True
def w_first_r :SV:=(.agg [.int .i64 L.w1.id,.int .i64 L.w1.colour,.int .i64 L.w1.grain,.sl 2 L.w1.ol.n (fun i=>[.int .i64 ((L.w1.ol.g i).x),.int .i64 ((L.w1.ol.g i).y)])])
def w_first_s:List EV->Option (Prop × SV)
 | []=>some (w_first_p , w_first_r )
 | _=>none
abbrev w_first_S:SE.Spec:=(specO w_first_s)
def w_first_C:Cfg:={ cC with muts:=[0] }
theorem w_first_vc  (hp:w_first_p):vc Tryz.prog (w_first_C) (bodyOf Tryz.f58) (st0 Tryz.f58 []) (retFn Tryz.prog Tryz.f58 (w_first_r )) :=
 @Eq.mpr _ (let I:=SV.int .i64;let A1:=(0:Int);(1:Int)=L.w1.id/\(1:Int)=L.w1.colour/\A1=L.w1.grain/\nat_lit 5=nat_lit 5 /\ ∀ (i:Nat),i<nat_lit 5->rowsOf [I A1,I A1,I (8:Int),I A1,I (8:Int),I (4:Int),I (4:Int),I (3:Int),I A1,I (4:Int)] (nat_lit 2) i = [I (L.w1.ol.g i).x,I (L.w1.ol.g i).y]) (by kernel_rfl) (by
 conv=>zeta
 refine ⟨rfl,rfl,rfl,rfl,fun i hi=>?_⟩
 match i,hi with
 | 0,_=>rfl
 | 1,_=>rfl
 | 2,_=>rfl
 | 3,_=>rfl
 | 4,_=>rfl)
theorem w_first_ok:SpecOk Tryz.prog 58 w_first_S:=fnX Tryz.func58 (c:=bodyOf Tryz.f58) (by kernel_rfl) mixed (fun args p r hs hp=>by
 unfold w_first_s at hs
 split at hs
 ·cases hs;exact ⟨_,_,w_first_vc  hp,.nil,⟨show SpecsL Tryz.prog _ from SpecsL.nil,rfl,⟨show ItersL Tryz.prog _ from ItersL.nil,(TrsOk.none (fun _=>rfl))⟩⟩⟩
 ·cases hs)
theorem w_first_en:Enters Tryz.prog 58:=fun args w=>by kernel_rfl
def w_second_p :Prop:=True
def w_second_r :SV:=(.agg [.int .i64 L.w2.id,.int .i64 L.w2.colour,.int .i64 L.w2.grain,.sl 2 L.w2.ol.n (fun i=>[.int .i64 ((L.w2.ol.g i).x),.int .i64 ((L.w2.ol.g i).y)])])
def w_second_s:List EV->Option (Prop × SV)
 | []=>some (w_second_p , w_second_r )
 | _=>none
abbrev w_second_S:SE.Spec:=(specO w_second_s)
def w_second_C:Cfg:={ cC with muts:=[0] }
theorem w_second_vc  (hp:w_second_p):vc Tryz.prog (w_second_C) (bodyOf Tryz.f59) (st0 Tryz.f59 []) (retFn Tryz.prog Tryz.f59 (w_second_r )) :=
 @Eq.mpr _ (let I:=SV.int .i64;let A1:=(0:Int);(2:Int)=L.w2.id/\(1:Int)=L.w2.colour/\A1=L.w2.grain/\nat_lit 4=nat_lit 4 /\ ∀ (i:Nat),i<nat_lit 4->rowsOf [I A1,I A1,I (6:Int),I A1,I (6:Int),I (2:Int),I A1,I (2:Int)] (nat_lit 2) i = [I (L.w2.ol.g i).x,I (L.w2.ol.g i).y]) (by kernel_rfl) (by
 conv=>zeta
 refine ⟨rfl,rfl,rfl,rfl,fun i hi=>?_⟩
 match i,hi with
 | 0,_=>rfl
 | 1,_=>rfl
 | 2,_=>rfl
 | 3,_=>rfl)
theorem w_second_ok:SpecOk Tryz.prog 59 w_second_S:=fnX Tryz.func59 (c:=bodyOf Tryz.f59) (by kernel_rfl) mixed (fun args p r hs hp=>by
 unfold w_second_s at hs
 split at hs
 ·cases hs;exact ⟨_,_,w_second_vc  hp,.nil,⟨show SpecsL Tryz.prog _ from SpecsL.nil,rfl,⟨show ItersL Tryz.prog _ from ItersL.nil,(TrsOk.none (fun _=>rfl))⟩⟩⟩
 ·cases hs)
theorem w_second_en:Enters Tryz.prog 59:=fun args w=>by kernel_rfl
def w_few_p (w:(L.Sq L.Want)) (s:(L.Sq L.Sheet)):Prop:=True
def w_few_r (w:(L.Sq L.Want)) (s:(L.Sq L.Sheet)):SV:=.bool (L.few w s)
def w_few_s:List EV->Option (Prop × SV)
 | [.p (.sl 4 w_n w_g),.p (.sl 5 s_n s_g)]=>some ((∀ i,i<w_n->okWant (w_g i))/\(∀ i,i<s_n->s_g i = [.int .i64 ((ofSheet (s_g i)).id),.int .i64 ((ofSheet (s_g i)).colour),.int .i64 ((ofSheet (s_g i)).w),.int .i64 ((ofSheet (s_g i)).h),.int .i64 ((ofSheet (s_g i)).grain)])/\w_few_p (⟨w_n,fun i=>ofWant (w_g i)⟩:(L.Sq L.Want)) (⟨s_n,fun i=>ofSheet (s_g i)⟩:(L.Sq L.Sheet)),w_few_r (⟨w_n,fun i=>ofWant (w_g i)⟩:(L.Sq L.Want)) (⟨s_n,fun i=>ofSheet (s_g i)⟩:(L.Sq L.Sheet)))
 | _=>none
abbrev w_few_S:SE.Spec:=(specO w_few_s)
def w_few_C:Cfg:={ muts:=[],frz:=lookN [],specs:=lookS [],loops:=fun _=>none,iters:=lookI [],rfs:=lookR [],nils:=lookM [] }
theorem w_few_vc (w:(L.Sq L.Want)) (s:(L.Sq L.Sheet)) (hp:w_few_p w s):vc Tryz.prog ({ w_few_C with loops:=lookL [(4,{ T:=Nat,keep:=[0],keepO:=[],chg:=fun i=>[(5,.p (.int .i64 (i:Int)))],own:=fun _=>[],inv:=fun i=>i <= w.n /\ ∀ j,j<i->L.gt (w.g j).ol.n 60=false,mu:=fun i=>w.n - i })],rfs:=lookR [] }) (bodyOf Tryz.f13) (st0 Tryz.f13 [.p (.sl 4 w.n (fun i=>[.int .i64 ((w.g i).id),.int .i64 ((w.g i).colour),.int .i64 ((w.g i).grain),.sl 2 (w.g i).ol.n (fun i1=>[.int .i64 (((w.g i).ol.g i1).x),.int .i64 (((w.g i).ol.g i1).y)])])),.p (.sl 5 s.n (fun i=>[.int .i64 ((s.g i).id),.int .i64 ((s.g i).colour),.int .i64 ((s.g i).w),.int .i64 ((s.g i).h),.int .i64 ((s.g i).grain)]))]) (retFn Tryz.prog Tryz.f13 (w_few_r w s)) :=
 @Eq.mpr _ (let I:=SV.int .i64;let A7:=(↑s.n:Int);let A6:=(60:Int);let A4:=(↑w.n:Int);let A1:=(bif bif bif bif decide ((4:Int)<A4) then decide (A4 <= (7:Int)) else false then true else decide ((20:Int)<A4) then true else bif decide ((4:Int)<A7) then decide (A7 <= (7:Int)) else false then true else decide ((20:Int)<A7));(A1=true->false=L.few w s)/\(A1=false->(∃ (g:Nat),(0:Int)=(↑g:Int)/\g <= w.n /\ ∀ (j:Nat),j<g->L.gt (w.g j).ol.n A6=false) /\ ∀ (g:Nat),let A3:=(↑g:Int);let A5:=(↑(w.g (Int.toNat A3)).ol.n:Int);(g <= w.n /\ ∀ (j:Nat),j<g->L.gt (w.g j).ol.n A6=false)->(decide (A3<A4)=true->((0:Int) <= A3/\A3<A4)/\(decide (A6<A5)=true->false=L.few w s)/\(decide (A6<A5)=false->InK .i64 (A3+(1:Int)) /\ ∃ (g':Nat),A3+(1:Int)=(↑g':Int)/\(w.n=w.n /\ ∀ (i:Nat),let A2:=[I (w.g i).id,I (w.g i).colour,I (w.g i).grain,SV.sl (2:Nat) (w.g i).ol.n fun (i1:Nat)=>[I ((w.g i).ol.g i1).x,I ((w.g i).ol.g i1).y]];i<w.n->A2=A2)/\(g' <= w.n /\ ∀ (j:Nat),j<g'->L.gt (w.g j).ol.n A6=false)/\w.n - g'<w.n - g))/\(decide (A3<A4)=false->true=L.few w s))) (by kernel_rfl) (by
 conv=>zeta
 refine ⟨fun h=>?_,fun h=>?_⟩
 ·have h:L.fewN w.n s.n=true:=h
  unfold L.few;rw [h];rfl
 have h:L.fewN w.n s.n=false:=h
 have hn:w.n <= 20:=by
  apply Decidable.byContradiction
  intro hn
  have e:L.gt w.n 20=true:=decide_eq_true (by omega)
  unfold L.fewN at h
  rw [e] at h
  revert h
  cases (bif L.gt w.n 4 then L.lee w.n 7 else false) <;> simp
 refine ⟨⟨(0:Nat),rfl,Nat.zero_le _,fun j hj=>absurd hj (Nat.not_lt_zero _)⟩,fun g hg=>⟨fun hc=>?_,fun hc=>?_⟩⟩
 ·have hc:(g:Int)<(w.n:Int):=of_decide_eq_true hc
  have hlt:g<w.n:=by omega
  rw [Int.toNat_natCast g]
  refine ⟨⟨Int.natCast_nonneg _,hc⟩,fun h3=>?_,fun h3=>?_⟩
  ·have h3:L.gt (w.g g).ol.n 60=true:=h3
   unfold L.few
   rw [h]
   exact (allB_false (i:=g) (f:=fun i=>!L.gt (w.g i).ol.n 60) hlt (by show (!_)=false;rw [h3];rfl)).symm
  ·have h3:L.gt (w.g g).ol.n 60=false:=h3
   refine ⟨jK,g+1,by omega,⟨rfl,fun _ _=>rfl⟩,⟨hlt,fun j hj=>?_⟩,by omega⟩
   rcases Nat.lt_succ_iff_lt_or_eq.1 hj with h' | rfl
   ·exact hg.2 j h'
   ·exact h3
 ·have hc:¬ (g:Int)<(w.n:Int):=of_decide_eq_false hc
  unfold L.few
  rw [h]
  exact (allB_iff.2 (fun i hi=>by show (!_)=true;rw [hg.2 i (by omega)];rfl)).symm)
theorem w_few_ok:SpecOk Tryz.prog 13 w_few_S:=fnX Tryz.func13 (c:=bodyOf Tryz.f13) (by kernel_rfl) mixed (fun args p r hs hp=>by
 unfold w_few_s at hs
 split at hs
 ·cases hs;exact ⟨_,_,w_few_vc _ _ hp.2.2,(.p (Want_ext hp.1) (.p (.sl hp.2.1) .nil)),⟨show SpecsL Tryz.prog _ from SpecsL.nil,rfl,⟨show ItersL Tryz.prog _ from ItersL.nil,(TrsOk.none (fun _=>rfl))⟩⟩⟩
 ·cases hs)
theorem w_few_en:Enters Tryz.prog 13:=fun args w=>by kernel_rfl
end Go.Proofs.YtpgaejicfbpcmaaGreat
namespace Go.Proofs.YtpgaejicfbpcmaaGreat
open Go.SE Go.RowKit
set_option maxRecDepth 100000
set_option maxHeartbeats 4000000
set_option linter.unusedVariables false
attribute [local irreducible] vc
def w_awake_p :Prop:=True
def w_awake_r :SV:=.bool true
def w_awake_s:List EV->Option (Prop × SV)
 | []=>some (w_awake_p , w_awake_r )
 | _=>none
abbrev w_awake_S:SE.Spec:=(specO w_awake_s)
def w_awake_C:Cfg:={ cC with specs:=lookS [(58,w_first_S),(59,w_second_S),(14,c_Sizes_S),(19,c_Lay_S),(27,c_Assign_S),(47,c_Pocket_S)] }
theorem w_awake_vc  (hp:w_awake_p):vc Tryz.prog (w_awake_C) (bodyOf Tryz.f12) (st0 Tryz.f12 []) (retFn Tryz.prog Tryz.f12 (w_awake_r )) :=
 @Eq.mpr _ (let I:=SV.int .i64;let A10:=(1:Int);let A9:=(nat_lit 4);let A7:=(L.Sq.mk (nat_lit 5) fun (i:Nat)=>L.w1.ol.g i);let A6:=(nat_lit 2);let A5:=(0:Int);let A4:=[I (9:Int),I A10,I (10:Int),I (6:Int),I A5];let A3:=(∀ (i:Nat),i<nat_lit 2->okWant (rowsOf [I L.w1.id,I L.w1.colour,I L.w1.grain,SV.sl A6 (nat_lit 5) fun (i:Nat)=>[I (L.w1.ol.g i).x,I (L.w1.ol.g i).y],I L.w2.id,I L.w2.colour,I L.w2.grain,SV.sl A6 A9 fun (i:Nat)=>[I (L.w2.ol.g i).x,I (L.w2.ol.g i).y]] A9 i));let A2:=(L.Sq.mk A6 fun (i:Nat)=>ofWant (rowsOf [I L.w1.id,I L.w1.colour,I L.w1.grain,SV.sl A6 (nat_lit 5) fun (i:Nat)=>[I (L.w1.ol.g i).x,I (L.w1.ol.g i).y],I L.w2.id,I L.w2.colour,I L.w2.grain,SV.sl A6 A9 fun (i:Nat)=>[I (L.w2.ol.g i).x,I (L.w2.ol.g i).y]] A9 i));let A1:=(A3/\L.preW A2);True/\True/\A1/\A1/\(A3/\(∀ (i:Nat),i<nat_lit 1->A4=A4)/\L.preW A2/\L.preS (L.Sq.mk (nat_lit 1) fun (i:Nat)=>L.Sheet.mk (9:Int) A10 (10:Int) (6:Int) A5))/\(A5 <= A5/\A5<(↑A6:Int))/\((∀ (i:Nat),let A8:=[I (L.w1.ol.g i).x,I (L.w1.ol.g i).y];i<nat_lit 5->A8=A8)/\nat_lit 5 <= (1000000:Nat)/\(L.validOutline A7=true->L.okPks A7))/\(true=true->A5 <= A10/\A10<(↑A9:Int))/\(false=true->false=true)/\(false=false->(A5 <= A10/\A10<(↑A6:Int))/\(true=true->A5 <= A5/\A5<(↑(nat_lit 1):Int))/\true=true)) (by kernel_rfl) (by
 conv=>zeta
 have ok:∀ (g:Nat->List SV),g 0 = [.int .i64 L.w1.id,.int .i64 L.w1.colour,.int .i64 L.w1.grain,.sl 2 5 fun (i:Nat)=>[.int .i64 (L.w1.ol.g i).x,.int .i64 (L.w1.ol.g i).y]]->g 1 = [.int .i64 L.w2.id,.int .i64 L.w2.colour,.int .i64 L.w2.grain,.sl 2 4 fun (i:Nat)=>[.int .i64 (L.w2.ol.g i).x,.int .i64 (L.w2.ol.g i).y]]->(∀ i,i<2->okWant (g i))/\L.preW ⟨2,fun i=>ofWant (g i)⟩:=fun g h0 h1=>by
  have two:∀ i:Nat,i<2->i=0\/i=1:=fun i hi=>by omega
  refine ⟨fun i hi=>?_,.inl (show 2 <= 4 by decide),show 2 <= 1000000 by decide,fun i hi=>?_⟩
  ·rcases two i hi with rfl | rfl
   ·rw [h0];exact fun _ _=>rfl
   ·rw [h1];exact fun _ _=>rfl
  ·rcases two i hi with rfl | rfl
   ·show (ofWant (g 0)).ol.n <= 1000000
    rw [h0];show 5 <= 1000000;decide
   ·show (ofWant (g 1)).ol.n <= 1000000
    rw [h1];show 4 <= 1000000;decide
 have e1:(L.pks L.w1.ol).n=1:=by kernel_rfl
 have e2:(L.pks L.w1.ol).g 0=⟨2,4,8⟩:=by kernel_rfl
 have pk:L.okPks L.w1.ol:=fun i hi=>by
  rw [e1] at hi
  obtain rfl:i=0:=by omega
  rw [e2]
  show (((0:Int) <= 2/\(2:Int)<5)/\((0:Int) <= 4/\(4:Int)<5)/\(2:Int) ≠ 4)
  decide
 refine ⟨trivial,trivial,ok _ rfl rfl,ok _ rfl rfl,⟨(ok _ rfl rfl).1,fun _ _=>rfl,(ok _ rfl rfl).2,.inl (show 1 <= 4 by decide),show 1 <= 1000000 by decide⟩,by decide,⟨fun _ _=>rfl,by decide,fun _=>pk⟩,fun _=>(by decide),fun h=>(by cases h),fun _=>⟨by decide,fun _=>(by decide),rfl⟩⟩)
theorem w_awake_ok:SpecOk Tryz.prog 12 w_awake_S:=fnX Tryz.func12 (c:=bodyOf Tryz.f12) (by kernel_rfl) mixed (fun args p r hs hp=>by
 unfold w_awake_s at hs
 split at hs
 ·cases hs;exact ⟨_,_,w_awake_vc  hp,.nil,⟨show SpecsL Tryz.prog _ from (SpecsL.cons w_first_ok w_first_en (SpecsL.cons w_second_ok w_second_en (SpecsL.cons c_Sizes_ok c_Sizes_en (SpecsL.cons c_Lay_ok c_Lay_en (SpecsL.cons c_Assign_ok c_Assign_en (SpecsL.cons c_Pocket_ok c_Pocket_en SpecsL.nil)))))),rfl,⟨show ItersL Tryz.prog _ from ItersL.nil,(TrsOk.none (fun _=>rfl))⟩⟩⟩
 ·cases hs)
theorem w_awake_en:Enters Tryz.prog 12:=fun args w=>by kernel_rfl
end Go.Proofs.YtpgaejicfbpcmaaGreat
namespace Go.Proofs.YtpgaejicfbpcmaaGreat
open Go.SE Go.RowKit
set_option maxRecDepth 100000
set_option maxHeartbeats 4000000
set_option linter.unusedVariables false
attribute [local irreducible] vc
def w_Valid_p (w:L.Want) (s:L.Sheet) (grain:Int) (t:Int) (at_:L.Pt):Prop:=w.ol.n <= 9223372036854775807
def w_Valid_r (w:L.Want) (s:L.Sheet) (grain:Int) (t:Int) (at_:L.Pt):SV:=.bool true
def w_Valid_s:List EV->Option (Prop × SV)
 | [.p (.agg [.int .i64 w_id,.int .i64 w_colour,.int .i64 w_grain,.sl 2 w_ol_n w_ol_g]),.p (.agg [.int .i64 s_id,.int .i64 s_colour,.int .i64 s_w,.int .i64 s_h,.int .i64 s_grain]),.p (.int .i64 grain),.p (.int .i64 t),.p (.agg [.int .i64 at__x,.int .i64 at__y])]=>some ((∀ i,i<w_ol_n->w_ol_g i = [.int .i64 ((ofPt (w_ol_g i)).x),.int .i64 ((ofPt (w_ol_g i)).y)])/\w_Valid_p (⟨w_id,w_colour,w_grain,(⟨w_ol_n,fun i=>ofPt (w_ol_g i)⟩:(L.Sq L.Pt))⟩:L.Want) (⟨s_id,s_colour,s_w,s_h,s_grain⟩:L.Sheet) grain t (⟨at__x,at__y⟩:L.Pt),w_Valid_r (⟨w_id,w_colour,w_grain,(⟨w_ol_n,fun i=>ofPt (w_ol_g i)⟩:(L.Sq L.Pt))⟩:L.Want) (⟨s_id,s_colour,s_w,s_h,s_grain⟩:L.Sheet) grain t (⟨at__x,at__y⟩:L.Pt))
 | _=>none
abbrev w_Valid_S:SE.Spec:=(specO w_Valid_s)
def w_Valid_C:Cfg:={ cC with specs:=lookS [(12,w_awake_S),(13,w_few_S),(25,c_Allowed_S),(38,r5_Allowed_S),(26,c_BoxOf_S),(39,r5_BoxOf_S),(40,c_ValidWant_S),(35,r5_ValidWant_S),(41,c_ValidSheet_S),(23,r5_ValidSheet_S),(34,c_Turned_S),(42,r5_Turned_S),(43,r1_SamePoints_S)] }
theorem w_Valid_vc (w:L.Want) (s:L.Sheet) (grain:Int) (t:Int) (at_:L.Pt) (hp:w_Valid_p w s grain t at_):vc Tryz.prog (w_Valid_C) (bodyOf Tryz.f8) (st0 Tryz.f8 [.p (.agg [.int .i64 w.id,.int .i64 w.colour,.int .i64 w.grain,.sl 2 w.ol.n (fun i=>[.int .i64 ((w.ol.g i).x),.int .i64 ((w.ol.g i).y)])]),.p (.agg [.int .i64 s.id,.int .i64 s.colour,.int .i64 s.w,.int .i64 s.h,.int .i64 s.grain]),.p (.int .i64 grain),.p (.int .i64 t),.p (.agg [.int .i64 at_.x,.int .i64 at_.y])]) (retFn Tryz.prog Tryz.f8 (w_Valid_r w s grain t at_)) :=
  @Eq.mpr _ (let I:=SV.int .i64;let A8:=(0:Int);let A5:=(!L.few (L.Sq.mk (nat_lit 1) fun (i:Nat)=>L.Want.mk w.id w.colour w.grain (L.Sq.mk w.ol.n fun (i:Nat)=>w.ol.g i)) (L.Sq.mk (nat_lit 0) fun (i:Nat)=>L.Sheet.mk A8 A8 A8 A8 A8));let A4:=(∀ (i:Nat),let A10:=(L.Sq.mk w.ol.n fun (i:Nat)=>w.ol.g i);let A6:=(L.trn A10 t at_ i);i<L.tdN (L.Want.mk w.id w.colour
 w.grain A10) t at_ -> [I A6.x,I A6.y] = [I A6.x,I A6.y]);let A2:=((∀ (i:Nat),let A12:=[I (w.ol.g i).x,I (w.ol.g i).y];i<w.ol.n->A12=A12)/\w.ol.n <= (1000000:Nat));let A1:=(L.Want.mk w.id w.colour w.grain (L.Sq.mk w.ol.n fun (i:Nat)=>w.ol.g i));let A11:=(L.boxOf A1 t);let A9:=((!!L.vWant A1 == L.vWant A1)=true->True);let A7:=(L.Sq.mk (L.tdN A1 t at_) fun (i
:Nat)=>L.trn (L.Sq.mk w.ol.n fun (i:Nat)=>w.ol.g i) t at_ i);let A3:=(bif bif bif bif bif !L.vWant A1 == L.vWant A1 then true else !L.vSheet s == L.vSheet s then true else !L.alwB A1 grain t == L.alwB A1 grain t then true else !decide (L.alwE A1 grain t=L.alwE A1 grain t) then true else !(decide (A11.w=A11.w) && decide (A11.h=A11.h))
 then true else !decide (L.boxE A1 t=L.boxE A1 t));True/\((∀ (i:Nat),i<nat_lit 1 -> ∀ (i:Nat),let A13:=[I (w.ol.g i).x,I (w.ol.g i).y];i<w.ol.n->A13=A13)/\(∀ (i:Nat),i<nat_lit 0 -> [] = [I A8,I A8,I A8,I A8,I A8])/\True)/\(A5=true->true=true)/\(A5=false->A2/\A2/\A2/\A2/\A2/\A2/\A9/\A9/\(A3=true->false =
 true)/\(A3=false->A2/\A2/\((bif true then decide (L.tdE A1 t at_=L.tdE A1 t at_) else false)=true->A4/\A4/\L.tdN A1 t at_ <= (1000000:Nat))/\(bif bif true then decide (L.tdE A1 t at_=L.tdE A1 t at_) else false then L.sameP A7 A7 else false)=true))) (by kernel_rfl) (by
  conv=>zeta
  have ol:∀ i,i<1 -> ∀ j,j<w.ol.n -> [SV.int .i64 (w.ol.g j).x,SV.int .i64 (w.ol.g j).y] = [SV.int .i64 (w.ol.g j).x,SV.int .i64 (w.ol.g j).y]:=fun _ _ _ _=>rfl
  refine ⟨trivial,⟨ol,fun i hi=>absurd hi (Nat.not_lt_zero _),trivial⟩,fun _=>rfl,fun hf=>?_⟩
  have hn:w.ol.n <= 1000000:=by
   apply Decidable.byContradiction
   intro h
   have e:L.gt w.ol.n 60=true:=decide_eq_true (by omega)
   have hf:(!L.few (L.Sq.mk 1 fun _=>w) (L.Sq.mk 0 fun _=>⟨0,0,0,0,0⟩))=false:=hf
   have hf:L.few (L.Sq.mk 1 fun _=>w) (L.Sq.mk 0 fun _=>⟨0,0,0,0,0⟩)=true:=notF hf
   have e2:L.few (L.Sq.mk 1 fun _=>w) (L.Sq.mk 0 fun _=>⟨0,0,0,0,0⟩)=L.allB 1 fun _=>!L.gt w.ol.n 60:=rfl
   rw [e2] at hf
   have:=allB_iff.1 hf 0 (by decide)
   rw [e] at this
   cases this
  have k:(∀ i,i<w.ol.n -> [SV.int .i64 (w.ol.g i).x,SV.int .i64 (w.ol.g i).y] = [SV.int .i64 (w.ol.g i).x,SV.int .i64 (w.ol.g i).y])/\w.ol.n <= 1000000:=⟨fun _ _=>rfl,hn⟩
  refine ⟨k,k,k,k,k,k,fun _=>trivial,fun _=>trivial,?_⟩
  have tn:L.tdN w t at_ <= 1000000:=by
   unfold L.tdN
   cases decide (L.tdE w t at_=0)
   ·exact Nat.zero_le _
   ·exact hn
  have sr:∀ a:L.Sq L.Pt,L.sameP a a=true:=fun a=>by
   unfold L.sameP
   rw [decide_eq_true rfl]
   refine allB_iff.2 fun i _=>?_
   unfold L.same
   simp
  refine ⟨fun h=>?_,fun _=>⟨k,k,fun _=>⟨fun _ _=>rfl,fun _ _=>rfl,tn⟩,?_⟩⟩
  ·exfalso
   simp at h
  ·simp only [cond_true,decide_true]
   exact sr _)
theorem w_Valid_ok:SpecOk Tryz.prog 8 w_Valid_S:=fnX Tryz.func8 (c:=bodyOf Tryz.f8) (by kernel_rfl) mixed (fun args p r hs hp=>by
 unfold w_Valid_s at hs
 split at hs
 ·cases hs; exact ⟨_, _, w_Valid_vc _ _ _ _ _ hp.2, (.p (.agg rfl (fun i hi => by
  rcases i with _ | i
  ·exact (Ext.refl _:Ext _ _)
  rcases i with _ | i
  ·exact (Ext.refl _:Ext _ _)
  rcases i with _ | i
  ·exact (Ext.refl _:Ext _ _)
  rcases i with _ | i
  ·exact (Ext.sl hp.1:Ext _ _)
  exact absurd hi (by simp;try omega))) (.same _ (.same _ (.same _ (.same _ .nil))))),⟨show SpecsL Tryz.prog _ from (SpecsL.cons w_awake_ok w_awake_en (SpecsL.cons w_few_ok w_few_en (SpecsL.cons c_Allowed_ok c_Allowed_en (SpecsL.cons r5_Allowed_ok r5_Allowed_en (SpecsL.cons c_BoxOf_ok c_BoxOf_en (SpecsL.cons r5_BoxOf_ok r5_BoxOf_en (SpecsL.cons c_ValidWant_ok c_ValidWant_en (SpecsL.cons r5_ValidWant_ok r5_ValidWant_en (SpecsL.cons c_ValidSheet_ok c_ValidSheet_en (SpecsL.cons r5_ValidSheet_ok r5_ValidSheet_en (SpecsL.cons c_Turned_ok c_Turned_en (SpecsL.cons r5_Turned_ok r5_Turned_en (SpecsL.cons r1_SamePoints_ok r1_SamePoints_en SpecsL.nil))))))))))))),rfl,⟨show ItersL Tryz.prog _ from ItersL.nil,(TrsOk.none (fun _=>rfl))⟩⟩⟩
 ·cases hs)
end Go.Proofs.YtpgaejicfbpcmaaGreat
