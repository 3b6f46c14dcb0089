/- A symbolic walk over the model, and what it shows of functions of the program: parts of the proof that the text of the row joins. -/
import Derived.Test.YtinfalehnaejbaaGreatW4
import Derived.Test.YtinfalehnaejbaaGreatE4
import Derived.KernelRfl
namespace Go.Proofs.YtinfalehnaejbaaGreat
open Go.SE Go.RowKit
set_option maxRecDepth 100000
set_option maxHeartbeats 4000000
set_option linter.unusedVariables false
attribute [local irreducible] vc
open Conf
namespace PArea
section
variable {n:Nat} {x y:Int->Int} {D κ:Int}
theorem edge_side (C:PolyC n x y D) (hκ:Kap n x y D κ) {σ:Int} (hσ:σ=1\/σ = -1) (a:Int) (h:∀ c,0 <= σ * c3 x y a (a+1) c):κ = - σ:=by
 have P:=C.P
 have hn:=P.hn
 have ha:=act_some P a
 generalize min (y a) (y (a+1))=j at ha
 have k:=hκ a j ha
 unfold K at k
 have hD:=P.hD
 have da:=dy_ne P a
 have geo:∀ b Y,((y b <= Y/\Y <= y (b+1))\/(y (b+1) <= Y/\Y <= y b))->0 <= σ * ((y (a+1) - y a) * (X x y (mD x y D) D a Y - X x y (mD x y D) D b Y)):=fun b Y hb=>by
   have e:D * ((y (b+1) - Y) * c3 x y a (a+1) b+(Y - y b) * c3 x y a (a+1) (b+1))=(y (b+1) - y b) * ((y (a+1) - y a) * (X x y (mD x y D) D a Y - X x y (mD x y D) D b Y)):=by
     have h1:=P.hm a
     have h2:=P.hm b
     unfold X c3
     grind
   have e':D * ((y (b+1) - Y) * (σ * c3 x y a (a+1) b)+(Y - y b) * (σ * c3 x y a (a+1) (b+1)))=(y (b+1) - y b) * (σ * ((y (a+1) - y a) * (X x y (mD x y D) D a Y - X x y (mD x y D) D b Y))):=by grind
   have l1:=h b
   have l2:=h (b+1)
   have db:=dy_ne P b
   rcases hb with ⟨b1,b2⟩ | ⟨b1,b2⟩
   · have a1:=Int.mul_nonneg (show 0 <= y (b+1) - Y by omega) l1
     have a2:=Int.mul_nonneg (show 0 <= Y - y b by omega) l2
     have a3:=Int.mul_nonneg (Int.le_of_lt hD) (Int.add_nonneg a1 a2)
     exact nn_of (show 0<y (b+1) - y b by omega) (by omega)
   · have a1:=Int.mul_nonpos_of_nonpos_of_nonneg (show y (b+1) - Y <= 0 by omega) l1
     have a2:=Int.mul_nonpos_of_nonpos_of_nonneg (show Y - y b <= 0 by omega) l2
     have a3:=Int.mul_nonpos_of_nonneg_of_nonpos (Int.le_of_lt hD) (show (y (b+1) - Y) * (σ * c3 x y a (a+1) b)+(Y - y b) * (σ * c3 x y a (a+1) (b+1)) <= 0 by omega)
     refine nn_of (show 0<y b - y (b+1) by omega) ?_
     have:∀ t:Int,(y b - y (b+1)) * t = -((y (b+1) - y b) * t):=fun t=>by grind
     rw [this];omega
 have geo2:∀ b,act y b j->0 <= σ * ((y (a+1) - y a) * (V x y (mD x y D) D a j - V x y (mD x y D) D b j)):=fun b hb=>by
   have g1:=geo b j (by unfold act at hb;omega)
   have g2:=geo b (j+1) (by unfold act at hb;omega)
   have e:σ * ((y (a+1) - y a) * (V x y (mD x y D) D a j - V x y (mD x y D) D b j))=σ * ((y (a+1) - y a) * (X x y (mD x y D) D a j - X x y (mD x y D) D b j))+σ * ((y (a+1) - y a) * (X x y (mD x y D) D a (j+1) - X x y (mD x y D) D b (j+1))):=by unfold V;grind
   rw [e];omega
 -- all others on the left,or none
 have west:(∀ b,act y b j->V x y (mD x y D) D b j <= V x y (mD x y D) D a j)->κ = - q y j a:=fun hw=>by
   have:=sm_one (n:=n) (by omega) (f:=fun b=>q y j b * ind (V x y (mD x y D) D b j<V x y (mD x y D) D a j)) (g:=q y j) (fun s u h=>by
     show q y j s * ind (V x y (mD x y D) D s j<_)=_
     rw [q_per P j s u h,V_per P h]) (q_per P j) a (fun b hb=>by
     show q y j b * ind (V x y (mD x y D) D b j<V x y (mD x y D) D a j)=q y j b
     by_cases h:act y b j
     · have:=V_ne P ha h hb
       have:=hw b h
       rw [ind_t (by omega),Int.mul_one]
     · rw [q_no h,Int.zero_mul])
   have this:W n x y (mD x y D) D a j - sm (q y j) n=q y j a * ind (V x y (mD x y D) D a j<V x y (mD x y D) D a j) - q y j a:=this
   rw [q_sum P,ind_f (by omega)] at this
   omega
 have east:(∀ b,act y b j->V x y (mD x y D) D a j <= V x y (mD x y D) D b j)->κ=q y j a:=fun he=>by
   rw [W_low P he] at k;omega
 rcases ha with ⟨b1,b2⟩ | ⟨b1,b2⟩
 · have q1:=q_up (a:=a) b1 b2
   rcases hσ with rfl | rfl
   · rw [west (fun b hb => by
       have g:=geo2 b hb
       rw [Int.one_mul] at g
       have:=nn_of (show 0<y (a+1) - y a by omega) g
       omega),q1]
   · rw [east (fun b hb => by
       have g:=geo2 b hb
       have e : -1 * ((y (a+1) - y a) * (V x y (mD x y D) D a j - V x y (mD x y D) D b j))=(y (a+1) - y a) * (V x y (mD x y D) D b j - V x y (mD x y D) D a j):=by grind
       rw [e] at g
       have:=nn_of (show 0<y (a+1) - y a by omega) g
       omega),q1];rfl
 · have q1:=q_dn (a:=a) b1 b2
   rcases hσ with rfl | rfl
   · rw [east (fun b hb => by
       have g:=geo2 b hb
       have e:1 * ((y (a+1) - y a) * (V x y (mD x y D) D a j - V x y (mD x y D) D b j))=(y a - y (a+1)) * (V x y (mD x y D) D b j - V x y (mD x y D) D a j):=by grind
       rw [e] at g
       have:=nn_of (show 0<y a - y (a+1) by omega) g
       omega),q1]
   · rw [west (fun b hb => by
       have g:=geo2 b hb
       have e : -1 * ((y (a+1) - y a) * (V x y (mD x y D) D a j - V x y (mD x y D) D b j))=(y a - y (a+1)) * (V x y (mD x y D) D a j - V x y (mD x y D) D b j):=by grind
       rw [e] at g
       have:=nn_of (show 0<y a - y (a+1) by omega) g
       omega),q1]
def Ext (x y:Int->Int) (r:Int):Prop:=∃ s,y s ≠ y r /\ ∀ j,0 <= c3 x y r s j
theorem chain_clean (C:PolyC n x y D) {p:Int} {d:Nat} (h2:2 <= d) (hd:d+2 <= n) (hl:∀ j,0 <= c3 x y p (p+d) j)
   (hs:∀ k,k % (n:Int) ≠ p % (n:Int)->k % (n:Int) ≠ (p+d) % (n:Int)->c3 x y p (p+d) k=0->¬ (min (y p) (y (p+d)) <= y k/\y k <= max (y p) (y (p+d)))):Clean x y p d/\Clean x y (p+d) (n - d):=by
 have P:=C.P
 have flip:∀ k,c3 x y (p+d) p k = - c3 x y p (p+d) k:=fun k=>c3_neg x y p (p+d) k
 have ne:∀ r:Int,0<r->r<n->r ≠ d->(p+r) % (n:Int) ≠ p % (n:Int)/\(p+r) % (n:Int) ≠ (p+d) % (n:Int):=fun r r0 r1 hr=>by
   refine ⟨(mod_ne (by omega) (by omega)).symm,?_⟩
   rcases Int.lt_or_lt_of_ne hr with g | g
   · exact mod_ne (by omega) (by omega)
   · exact (mod_ne (by omega) (by omega)).symm
 have hpq:y p ≠ y (p+d):=P.hy _ _ (mod_ne (by omega) (by omega))
 refine ⟨⟨fun r r0 r1 h1 h2 h=>?_,fun r r0 r1 h=>?_,fun h=>?_,fun h=>?_⟩,?_⟩
 · obtain ⟨n1,n2⟩:=ne r (by omega) (by omega) (by omega)
   exact hs _ n1 n2 (by have:=flip (p+r);omega) ⟨by omega,by omega⟩
 · have a1:=hl (p+r)
   have a2:=hl (p+r+1)
   have:=Int.mul_nonneg_of_nonpos_of_nonpos (a:=c3 x y (p+d) p (p+r)) (b:=c3 x y (p+d) p (p+r+1)) (by rw [flip];omega) (by rw [flip];omega)
   omega
 · obtain ⟨n1,n2⟩:=ne ((d:Int) - 1) (by omega) (by omega) (by omega)
   have ek:p+((d:Int) - 1)=p+d - 1:=by omega
   rw [ek] at n1 n2
   have:=hs _ n1 n2 (by rw [c3_cyc,flip] at h;omega)
   have m1:=P.hy _ _ n1
   have m2:=P.hy _ _ n2
   by_cases g:(y (p+d - 1)<y p/\y p<y (p+d))\/(y (p+d)<y p/\y p<y (p+d - 1))
   · exact (on3 P (b:=p+d - 1) (c:=p) (by rw [show p+d - 1+1=p+d by omega];exact h) (by rw [show p+(d:Int) - 1+1=p+d by omega];exact g)).elim
   · omega
 · obtain ⟨n1,n2⟩:=ne 1 (by omega) (by omega) (by omega)
   have:=hs _ n1 n2 (by have:=flip (p+1);omega)
   have m1:=P.hy _ _ n1
   have m2:=P.hy _ _ n2
   by_cases g:(y p<y (p+d)/\y (p+d)<y (p+1))\/(y (p+1)<y (p+d)/\y (p+d)<y p)
   · exact (on3 P (b:=p) (c:=p+d) (by rw [<- c3_cyc];exact h) g).elim
   · omega
 · have ed:p+(d:Int)+((n - d:Nat):Int)=p+n:=by omega
   have xv:x (p+n)=x p:=P.px _ _ (by rw [Int.add_emod_right])
   have yv:y (p+n)=y p:=P.py _ _ (by rw [Int.add_emod_right])
   have ca:∀ a b,c3 x y (p+n) a b=c3 x y p a b:=fun a b=>by unfold c3;rw [xv,yv]
   have cb:∀ a b,c3 x y a (p+n) b=c3 x y a p b:=fun a b=>by unfold c3;rw [xv,yv]
   refine ⟨fun r r0 r1 h1 h2 h=>?_,fun r r0 r1 h=>?_,fun h=>?_,fun h=>?_⟩
   · rw [ed,yv] at h1 h2
     rw [ed,ca] at h
     obtain ⟨n1,n2⟩:=ne ((d:Int)+r) (by omega) (by omega) (by omega)
     rw [<- Int.add_assoc] at n1 n2
     exact hs _ n1 n2 h ⟨by omega,by omega⟩
   · rw [ed,ca,ca] at h
     have:=Int.mul_nonneg (hl (p+d+r)) (hl (p+d+r+1))
     omega
   · rw [ed,cb] at h
     rw [ed,yv]
     obtain ⟨n1,n2⟩:=ne ((n:Int) - 1) (by omega) (by omega) (by omega)
     rw [show p+((n:Int) - 1)=p+n - 1 by omega] at n1 n2
     have:=hs _ n1 n2 (by rw [c3_cyc] at h;exact h)
     have m1:=P.hy _ _ n1
     have m2:=P.hy _ _ n2
     by_cases g:(y (p+n - 1)<y (p+d)/\y (p+d)<y p)\/(y p<y (p+d)/\y (p+d)<y (p+n - 1))
     · exact (on3 P (b:=p+n - 1) (c:=p+d) (by rw [show p+n - 1+1=p+n by omega,cb];exact h) (by rw [show p+(n:Int) - 1+1=p+n by omega,yv];exact g)).elim
     · omega
   · rw [ed,ca] at h
     rw [ed,yv]
     obtain ⟨n1,n2⟩:=ne ((d:Int)+1) (by omega) (by omega) (by omega)
     rw [<- Int.add_assoc] at n1 n2
     have:=hs _ n1 n2 h
     have m1:=P.hy _ _ n1
     have m2:=P.hy _ _ n2
     by_cases g:(y (p+d)<y p/\y p<y (p+d+1))\/(y (p+d+1)<y p/\y p<y (p+d))
     · exact (on3 P (b:=p+d) (c:=p) (by rw [<- c3_cyc];exact h) g).elim
     · omega
theorem chain_free (C:PolyC n x y D) (hκ:Kap n x y D (-1)) {p:Int} {d:Nat} (h1:1 <= d) (hd:d<n) (hl:∀ j,0 <= c3 x y p (p+d) j)
   (hs:∀ k,k % (n:Int) ≠ p % (n:Int)->k % (n:Int) ≠ (p+d) % (n:Int)->c3 x y p (p+d) k=0->¬ (min (y p) (y (p+d)) <= y k/\y k <= max (y p) (y (p+d)))):d+1<n /\ ∀ r:Int,0<r->r<d->¬ Ext x y (p+r):=by
 have P:=C.P
 have flip:∀ k,c3 x y (p+d) p k = - c3 x y p (p+d) k:=fun k=>c3_neg x y p (p+d) k
 -- the way back is no edge
 have hlast:d+1<n:=by
   rcases Nat.lt_or_ge (d+1) n with g | g
   · exact g
   exfalso
   have e1:(p+d+1) % (n:Int)=p % (n:Int):=by rw [show p+(d:Int)+1=p+n by omega,Int.add_emod_right]
   have:=edge_side C hκ (.inr rfl) (p+d) (fun c=>by
     rw [c3_per C rfl e1 rfl,flip]
     have:=hl c
     omega)
   omega
 refine ⟨hlast,fun r r0 r1 hE=>?_⟩
 have h2:2 <= d:=by omega
 obtain ⟨Q1,Q2⟩:=chain_clean C h2 (by omega) hl hs
 have A:=part_poly C h2 (by omega) Q1
 have B:=part_poly C (a:=p+d) (d:=n - d) (by omega) (by omega) Q2
 have hA:Kap (d+1) (pt x p d) (pt y p d) D 1:=by
   obtain ⟨κ,_,h⟩:=Kex A
   have:=edge_side A h (.inr rfl) (d:Int) (fun c=>by
     obtain ⟨t,t0,t1,et⟩:=red d c
     rw [c3_per A rfl (b':=0) (by rw [show (d:Int)+1=((d+1:Nat):Int) by omega,Int.emod_self,Int.zero_emod]) et,c3_pt x y p (by omega) (by omega) (by omega) (by omega) t0 t1,Int.add_zero,flip]
     have:=hl (p+t)
     omega)
   rw [this] at h;exact h
 have ev:(p+(d:Int)+((n - d:Nat):Int)) % (n:Int)=p % (n:Int):=by rw [show p+(d:Int)+((n - d:Nat):Int)=p+n by omega,Int.add_emod_right]
 have ea:∀ f:Int->Int,(∀ u v:Int,u % (n:Int)=v % (n:Int)->f u=f v)->pt f (p+d+((n - d:Nat):Int)) d=pt f p d:=fun f hf=>funext fun i=>by
   unfold pt pos
   exact hf _ _ (succ_mod ev _)
 have A':PolyC (d+1) (pt x (p+d+((n - d:Nat):Int)) d) (pt y (p+d+((n - d:Nat):Int)) d) D:=by rw [ea x C.P.px,ea y C.P.py];exact A
 have hA':Kap (d+1) (pt x (p+d+((n - d:Nat):Int)) d) (pt y (p+d+((n - d:Nat):Int)) d) D 1:=by rw [ea x C.P.px,ea y C.P.py];exact hA
 have o:=other_side C hκ (p+d) (d:=n - d) (d':=d) (by omega) (by omega) (by omega) A' hA' r0 r1
 have er:(p+(d:Int)+((n - d:Nat):Int)+r) % (n:Int)=(p+r) % (n:Int):=succ_mod ev r
 rw [C.P.px _ _ er,C.P.py _ _ er] at o
 obtain ⟨κ,hκ1,hB⟩:=Kex B
 have o1:=WY_or B hB (y (p+r)) (D * x (p+r))
 have o2:=WY_or B hB (y (p+r)) (D * x (p+r)+1)
 obtain ⟨s,hys,hE⟩:=hE
 have nr:∀ t:Int,0 <= t->t <= ((n - d:Nat):Int)->y (p+d+t) ≠ y (p+r):=fun t t0 t1=>by
   refine P.hy _ _ ?_
   by_cases g:t=((n - d:Nat):Int)
   · rw [g,ev];exact mod_ne (by omega) (by omega)
   · exact (mod_ne (by omega) (by omega)).symm
 have z:=half B (px:=x (p+r)) (Y:=y (p+r)) (α:=-(y s - y (p+r))) (β:=x s - x (p+r)) (by omega) (fun c=>by
   have:=hE (pos (p+d) (n - d) c)
   unfold c3 at this
   show 0 <= -(y s - y (p+r)) * (x (pos (p+d) (n - d) c) - x (p+r))+(x s - x (p+r)) * (y (pos (p+d) (n - d) c) - y (p+r))
   rw [Int.neg_mul];omega) (fun b hb hX=>by
   obtain ⟨t,t0,t1,et⟩:=red (n - d) b
   have hb:=(act_per B.P et).1 hb
   rw [X_per B.P et] at hX
   have rg:=Rgen B.P t (x (p+r)) (y (p+r))
   rw [hX,Int.sub_self,Int.mul_zero] at rg
   have z:(pt x (p+d) (n - d) (t+1) - pt x (p+d) (n - d) t) * (y (p+r) - pt y (p+d) (n - d) t) - (pt y (p+d) (n - d) (t+1) - pt y (p+d) (n - d) t) * (x (p+r) - pt x (p+d) (n - d) t)=0:=by
     rcases Int.mul_eq_zero.1 rg.symm with g | g
     · have:=P.hD;omega
     · exact g
   by_cases g:t=((n - d:Nat):Int)
   · rw [g] at z hb
     have ep:∀ f:Int->Int,(∀ u v:Int,u % (n:Int)=v % (n:Int)->f u=f v)->pt f (p+d) (n - d) ((n - d:Nat):Int)=f p/\pt f (p+d) (n - d) (((n - d:Nat):Int)+1)=f (p+d):=fun f hf=>by
       rw [pt_at f (p+d) (by omega) (Int.le_refl _),pt_end]
       exact ⟨hf _ _ ev,rfl⟩
     rw [(ep x P.px).1,(ep x P.px).2,(ep y P.py).1,(ep y P.py).2] at z
     unfold act at hb
     rw [(ep y P.py).1,(ep y P.py).2] at hb
     exact hs (p+r) (mod_ne (by omega) (by omega)).symm (mod_ne (by omega) (by omega)) z ⟨by omega,by omega⟩
   · rw [pt_at x (p+d) t0 t1,pt_at y (p+d) t0 t1,pt_at x (p+d) (show 0 <= t+1 by omega) (by omega),pt_at y (p+d) (show 0 <= t+1 by omega) (by omega),<- Int.add_assoc] at z
     unfold act at hb
     rw [pt_at y (p+d) t0 t1,pt_at y (p+d) (show 0 <= t+1 by omega) (by omega),<- Int.add_assoc] at hb
     have m1:=nr t t0 t1
     have m2:=nr (t+1) (by omega) (by omega)
     rw [<- Int.add_assoc] at m2
     exact on3 P (b:=p+d+t) (c:=p+r) z (by omega))
 rcases hκ1 with rfl | rfl <;> omega
end
end PArea
namespace PArea
section
variable {n:Nat} {x y:Int->Int} {D κ:Int}
def nx (m k:Nat):Nat:=if k+1=m then 0 else k+1
structure Hl (n m:Nat) (x y:Int->Int) (c:Nat->Int):Prop where
 m3:3 <= m
 rng:∀ k,k<m->0 <= c k/\c k<n
 inj:∀ i k,i<m->k<m->c i=c k->i=k
 lf:∀ k,k<m -> ∀ j,0 <= c3 x y (c k) (c (nx m k)) j
 sg:∀ k,k<m -> ∀ j,c3 x y (c k) (c (nx m k)) j=0->min (y (c k)) (y (c (nx m k))) <= y j/\y j <= max (y (c k)) (y (c (nx m k)))
theorem nx_lt {m k:Nat} (h:k<m):nx m k<m:=by unfold nx;split <;> omega
theorem nx_ne {m k:Nat} (h3:2 <= m):nx m k ≠ k:=by unfold nx;split <;> omega
def adv (n m:Nat) (c:Nat->Int) (k:Nat):Nat:=((c (nx m k) - c k) % (n:Int)).toNat
theorem dist_of (hn:3 <= n) {z q:Int} (h:z % (n:Int) ≠ q % (n:Int)):∃ d:Nat,1 <= d/\d<n/\(z+d) % (n:Int)=q % (n:Int):=by
 have m0:=Int.emod_nonneg (q - z) (show (n:Int) ≠ 0 by omega)
 have m1:=Int.emod_lt_of_pos (q - z) (show 0<(n:Int) by omega)
 refine ⟨((q - z) % (n:Int)).toNat,?_,by omega,by rw [Int.toNat_of_nonneg m0,Int.add_emod_emod,show z+(q - z)=q by omega]⟩
 have:(q - z) % (n:Int) ≠ 0:=fun e=>h (by
   have e2:q=z+(q - z):=by omega
   rw [e2,Int.add_emod,e,Int.add_zero,Int.emod_emod])
 omega
theorem on_rim (C:PolyC n x y D) (hκ:Kap n x y D (-1)) {p q:Int} (hpq:y p ≠ y q) (hl:∀ j,0 <= c3 x y p q j) (hsg:∀ j,c3 x y p q j=0->min (y p) (y q) <= y j/\y j <= max (y p) (y q)) (hq:Ext x y q) :
   ∀ (N:Nat) (z:Int),(y q - y z).natAbs <= N->c3 x y p q z=0->z % (n:Int) ≠ q % (n:Int) -> ∀ d:Nat,1 <= d->d<n->(z+d) % (n:Int)=q % (n:Int) -> ∀ r:Int,0<r->r<d->Ext x y (z+r)->c3 x y p q (z+r)=0
 | N,z,hN,hz,hzq,d,d1,dn,hd,r,r0,r1,hE=>by
   have P:=C.P
   have hn:=P.hn
   have yz:=P.hy _ _ hzq
   have zs:=hsg z hz
   -- what is left of the edge from z
   have lin:∀ w j,c3 x y p q w=0->(y q - y p) * c3 x y z w j=(y w - y z) * c3 x y p q j:=fun w j hw=>by
     have:(y q - y p) * c3 x y z w j=(y w - y z) * c3 x y p q j+(y j - y w) * c3 x y p q z - (y j - y z) * c3 x y p q w:=by clear hl hsg hq hE hz hw;unfold c3;grind
     rw [this,hz,hw];grind
   have left:∀ w,c3 x y p q w=0->((y z<y w/\y p<y q)\/(y w<y z/\y q<y p)) -> ∀ j,0 <= c3 x y z w j:=fun w hw hdir j=>by
     have l:=lin w j hw
     have hj:=hl j
     rcases hdir with ⟨g1,g2⟩ | ⟨g1,g2⟩
     · have:=Int.mul_nonneg (show 0 <= y w - y z by omega) hj
       exact nn_of (show 0<y q - y p by omega) (by omega)
     · have:=Int.mul_nonpos_of_nonpos_of_nonneg (show y w - y z <= 0 by omega) hj
       refine nn_of (show 0<y p - y q by omega) ?_
       have e:(y p - y q) * c3 x y z w j = -((y q - y p) * c3 x y z w j):=by grind
       omega
   have flat:∀ w j,c3 x y p q w=0->y w ≠ y z->c3 x y z w j=0->c3 x y p q j=0:=fun w j hw hne h=>by
     have l:=lin w j hw
     rw [h,Int.mul_zero] at l
     rcases Int.mul_eq_zero.1 l.symm with g | g
     · omega
     · exact g
   have qq:c3 x y p q q=0:=c3_abb x y p q
   have dirq:(y z<y q/\y p<y q)\/(y q<y z/\y q<y p):=by omega
   by_cases ex:∃ k:Nat,k<n/\(c3 x y p q k=0/\((y z<y k/\y k<y q)\/(y q<y k/\y k<y z)))
   · -- the next one on the edge
     obtain ⟨w,hw,⟨w1,w2⟩,wmin⟩:=exists_min (v:=fun k=>((y (k:Int) - y z).natAbs:Int)) ex
     have hzw:z % (n:Int) ≠ (w:Int) % (n:Int):=fun e=>by rw [P.py _ _ e] at w2;omega
     obtain ⟨d',d1',dn',hd'⟩:=dist_of hn hzw
     have hwq:(w:Int) % (n:Int) ≠ q % (n:Int):=fun e=>by rw [P.py _ _ e] at w2;omega
     have cw:∀ j,c3 x y z (z+d') j=c3 x y z w j:=fun j=>c3_per C rfl hd' rfl
     have yw:y (z+d')=y w:=P.py _ _ hd'
     have F:=chain_free C hκ d1' dn' (fun j=>by rw [cw];exact left _ w1 (by omega) j) (fun k k1 k2 hk hb=>by
       rw [cw] at hk
       rw [yw] at hb
       have hk:=flat _ k w1 (by omega) hk
       have h1:=P.hy _ _ k1
       have h2:=P.hy k w (by rw [<- hd'];exact k2)
       have m0:=Int.emod_nonneg k (show (n:Int) ≠ 0 by omega)
       have m1:=Int.emod_lt_of_pos k (show 0<(n:Int) by omega)
       have ek:k % (n:Int)=((k % (n:Int)).toNat:Int) % (n:Int):=by rw [Int.toNat_of_nonneg m0,Int.emod_emod]
       have:=wmin (k % (n:Int)).toNat (by omega) (by rw [<- c3_per C rfl rfl ek,<- P.py _ _ ek];exact ⟨hk,by omega⟩)
       rw [<- P.py _ _ ek] at this
       omega)
     -- the end lies beyond it
     have hlt:d'<d:=by
       rcases Int.lt_trichotomy (d:Int) d' with g | g | g
       · refine absurd ?_ (F.2 d (by omega) (by omega))
         obtain ⟨s,s1,s2⟩:=hq
         exact ⟨s,by rw [P.py _ _ hd];exact s1,fun j=>by rw [c3_per C hd rfl rfl];exact s2 j⟩
       · exact absurd (by rw [<- hd',<- hd,g]) hwq
       · omega
     rcases Int.lt_trichotomy r d' with g | g | g
     · exact absurd hE (F.2 r r0 g)
     · rw [g,c3_per C rfl rfl hd'];exact w1
     · have es : (z + r) % (n:Int) = ((w:Int) + (r - d')) % (n:Int) := by
         have:=succ_mod hd' (r - d')
         rwa [show z+(d':Int)+(r - d')=z+r by omega] at this
       have hEw:Ext x y ((w:Int)+(r - d')):=by
         obtain ⟨s,s1,s2⟩:=hE
         exact ⟨s,by rw [<- P.py _ _ es];exact s1,fun j=>by rw [<- c3_per C es rfl rfl];exact s2 j⟩
       have hN0:1 <= N:=by omega
       obtain ⟨N',rfl⟩:∃ N',N=N'+1:=⟨N - 1,by omega⟩
       have:=on_rim C hκ hpq hl hsg hq N' w (by omega) w1 hwq (d - d') (by omega) (by omega) (by
         have:=succ_mod hd' ((d:Int) - d')
         rw [show z+(d':Int)+((d:Int) - d')=z+d by omega,hd] at this
         rw [show (((d - d':Nat)):Int)=(d:Int) - d' by omega,<- this]) (r - d') (by omega) (by omega) hEw
       rw [c3_per C rfl rfl es];exact this
   · have cq:∀ j,c3 x y z (z+d) j=c3 x y z q j:=fun j=>c3_per C rfl hd rfl
     have yq:y (z+d)=y q:=P.py _ _ hd
     have F:=chain_free C hκ d1 dn (fun j=>by rw [cq];exact left _ qq dirq j) (fun k k1 k2 hk hb=>by
       rw [cq] at hk
       rw [yq] at hb
       have hk:=flat _ k qq (by omega) hk
       have h1:=P.hy _ _ k1
       have h2:=P.hy k q (by rw [<- hd];exact k2)
       have m0:=Int.emod_nonneg k (show (n:Int) ≠ 0 by omega)
       have m1:=Int.emod_lt_of_pos k (show 0<(n:Int) by omega)
       have ek:k % (n:Int)=((k % (n:Int)).toNat:Int) % (n:Int):=by rw [Int.toNat_of_nonneg m0,Int.emod_emod]
       exact ex ⟨(k % (n:Int)).toNat,by omega,by rw [<- c3_per C rfl rfl ek,<- P.py _ _ ek];exact ⟨hk,by omega⟩⟩)
     exact absurd hE (F.2 r r0 r1)
theorem hl_ne (C:PolyC n x y D) {m:Nat} {c:Nat->Int} (H:Hl n m x y c) {i k:Nat} (hi:i<m) (hk:k<m) (h:i ≠ k):c i % (n:Int) ≠ c k % (n:Int):=fun e=>by
 obtain ⟨a0,a1⟩:=H.rng i hi
 obtain ⟨b0,b1⟩:=H.rng k hk
 rw [Int.emod_eq_of_lt a0 a1,Int.emod_eq_of_lt b0 b1] at e
 exact h (H.inj i k hi hk e)
theorem hl_ext (C:PolyC n x y D) {m:Nat} {c:Nat->Int} (H:Hl n m x y c) {k:Nat} (hk:k<m):Ext x y (c k) :=
 ⟨c (nx m k),C.P.hy _ _ (hl_ne C H (nx_lt hk) hk (nx_ne (by have:=H.m3;omega))),H.lf k hk⟩
theorem adv_spec (C:PolyC n x y D) {m:Nat} {c:Nat->Int} (H:Hl n m x y c) {k:Nat} (hk:k<m):1 <= adv n m c k/\adv n m c k<n/\(c k+(adv n m c k:Int)) % (n:Int)=c (nx m k) % (n:Int):=by
 have hn:=C.P.hn
 have m0:=Int.emod_nonneg (c (nx m k) - c k) (show (n:Int) ≠ 0 by omega)
 have m1:=Int.emod_lt_of_pos (c (nx m k) - c k) (show 0<(n:Int) by omega)
 have ne:=hl_ne C H (nx_lt hk) hk (nx_ne (by have:=H.m3;omega))
 unfold adv
 refine ⟨?_,by omega,by rw [Int.toNat_of_nonneg m0,Int.add_emod_emod,show c k+(c (nx m k) - c k)=c (nx m k) by omega]⟩
 have:(c (nx m k) - c k) % (n:Int) ≠ 0:=fun e=>ne (by
   have e2:c (nx m k)=c k+(c (nx m k) - c k):=by omega
   rw [e2,Int.add_emod,e,Int.add_zero,Int.emod_emod])
 omega
theorem hl_free (C:PolyC n x y D) (hκ:Kap n x y D (-1)) {m:Nat} {c:Nat->Int} (H:Hl n m x y c) {k j:Nat} (hk:k<m) (hj:j<m) {r:Int} (r0:0<r) (r1:r<adv n m c k):(c k+r) % (n:Int) ≠ c j % (n:Int):=fun e=>by
 have P:=C.P
 have hn:=P.hn
 have m3:=H.m3
 obtain ⟨a1,a2,a3⟩:=adv_spec C H hk
 have nk:=nx_lt hk
 have hpq:=P.hy _ _ (hl_ne C H hk nk (fun e=>nx_ne (m:=m) (k:=k) (by omega) e.symm))
 have on:=on_rim C hκ hpq (H.lf k hk) (H.sg k hk) (hl_ext C H nk) (y (c (nx m k)) - y (c k)).natAbs (c k) (Nat.le_refl _) (c3_aba x y _ _) (hl_ne C H hk nk (fun e=>nx_ne (m:=m) (k:=k) (by omega) e.symm)) (adv n m c k) a1 a2 a3 r r0 r1 (by
   obtain ⟨s,s1,s2⟩:=hl_ext C H hj
   exact ⟨s,by rw [P.py _ _ e];exact s1,fun t=>by rw [c3_per C e rfl rfl];exact s2 t⟩)
 rw [c3_per C rfl rfl e] at on
 -- a corner of the hull lies on no other edge
 have s1:=H.sg k hk _ on
 have jk:c j % (n:Int) ≠ c k % (n:Int):=by rw [<- e];exact (mod_ne (by omega) (by omega)).symm
 have jn:c j % (n:Int) ≠ c (nx m k) % (n:Int):=by rw [<- e,<- a3];exact mod_ne (by omega) (by omega)
 have y1:=P.hy _ _ jk
 have y2:=P.hy _ _ jn
 have l1:=H.lf j hj (c k)
 have l2:=H.lf j hj (c (nx m k))
 have lf:=line_F x y (c k) (c (nx m k)) (c j) (c j) (c (nx m j))
 rw [on,c3_aba,Int.mul_zero,Int.mul_zero] at lf
 have z1:c3 x y (c j) (c (nx m j)) (c k)=0/\c3 x y (c j) (c (nx m j)) (c (nx m k))=0:=by
   have ge:∀ s t:Int,0 <= t->1 <= s->t <= s * t:=fun s t ht hs=>by
     have:=Int.mul_le_mul_of_nonneg_right (a:=1) (b:=s) (c:=t) hs ht
     omega
   rcases Int.lt_or_lt_of_ne hpq with g | g
   · have g1:=ge (y (c (nx m k)) - y (c j)) _ l1 (by omega)
     have g2:=ge (y (c j) - y (c k)) _ l2 (by omega)
     omega
   · have g1:=ge (y (c j) - y (c (nx m k))) _ l1 (by omega)
     have g2:=ge (y (c k) - y (c j)) _ l2 (by omega)
     have e1:(y (c j) - y (c (nx m k))) * c3 x y (c j) (c (nx m j)) (c k) = -((y (c (nx m k)) - y (c j)) * c3 x y (c j) (c (nx m j)) (c k)):=by grind
     have e2:(y (c k) - y (c j)) * c3 x y (c j) (c (nx m j)) (c (nx m k)) = -((y (c j) - y (c k)) * c3 x y (c j) (c (nx m j)) (c (nx m k))):=by grind
     omega
 have t1:=H.sg j hj _ z1.1
 have t2:=H.sg j hj _ z1.2
 omega
theorem hl_sum (C:PolyC n x y D) (hκ:Kap n x y D (-1)) {m:Nat} {c:Nat->Int} (H:Hl n m x y c) {f:Int->Int} (hf:per n f):sm (fun k=>sm (fun r=>f (c k.toNat+r)) (adv n m c k.toNat)) m=sm f n /\
   ((∀ k,k<m->adv n m c k=1)->m=n /\ ∀ k,k<m->c k % (n:Int)=(c 0+k) % (n:Int)):=by
 have hn:=C.P.hn
 have m3:=H.m3
 -- the unrolled places
 have main:∀ k:Nat,k <= m -> ∃ b:Nat,sm (fun k=>sm (fun r=>f (c k.toNat+r)) (adv n m c k.toNat)) k=sm (fun i=>f (c 0+i)) b/\(k<m->(c 0+b) % (n:Int)=c k % (n:Int)/\b<n)/\(k=m->b=n)/\((∀ j,j<k->adv n m c j=1)->b=k):=fun k=>by
   induction k with
   | zero =>
     exact fun _=>⟨0,rfl,fun _=>⟨by rw [show c 0+((0:Nat):Int)=c 0 by omega],by omega⟩,fun h=>by omega,fun _=>rfl⟩
   | succ k ih =>
     intro hk
     obtain ⟨b,b1,b2,_,b4⟩:=ih (by omega)
     obtain ⟨b2,b3⟩:=b2 (by omega)
     obtain ⟨a1,a2,a3⟩:=adv_spec C H (k:=k) (by omega)
     have free:=fun j hj r r0 r1=>hl_free C hκ H (k:=k) (j:=j) (by omega) hj (r:=r) r0 r1
     have eb:(c 0+((b+adv n m c k:Nat):Int)) % (n:Int)=c (nx m k) % (n:Int):=by
       rw [<- a3]
       have:=succ_mod b2 (adv n m c k:Int)
       rwa [show c 0+(b:Int)+(adv n m c k:Int)=c 0+((b+adv n m c k:Nat):Int) by omega] at this
     -- the first corner does not lie within
     have le:b+adv n m c k <= n:=by
       rcases Nat.lt_or_ge n (b+adv n m c k) with g | g
       · exfalso
         refine free 0 (by omega) ((n:Int) - b) (by omega) (by omega) ?_
         have:=succ_mod b2 ((n:Int) - b)
         rw [show c 0+(b:Int)+((n:Int) - b)=c 0+n by omega,Int.add_emod_right] at this
         exact this.symm
       · exact g
     refine ⟨b+adv n m c k,?_,fun hlt=>?_,fun he=>?_,fun h=>?_⟩
     · rw [sm,b1,sm_app]
       congr 1
       show sm (fun r=>f (c ((k:Int)).toNat+r)) (adv n m c ((k:Int)).toNat)=_
       rw [Int.toNat_natCast]
       refine sm_cong fun i _=>hf _ _ ?_
       have:=succ_mod b2 (i:Int)
       rw [show c 0+((b:Int)+(i:Int))=c 0+b+i by omega,this]
     · have hx:nx m k=k+1:=by unfold nx;rw [if_neg (by omega)]
       rw [hx] at eb
       refine ⟨eb,?_⟩
       rcases Nat.lt_or_ge (b+adv n m c k) n with g | g
       · exact g
       · exfalso
         have e:b+adv n m c k=n:=by omega
         rw [e,Int.add_emod_right] at eb
         exact hl_ne C H (i:=0) (k:=k+1) (by omega) hlt (by omega) eb
     · have hx:nx m k=0:=by unfold nx;rw [if_pos he]
       rw [hx] at eb
       rcases Nat.lt_or_ge (b+adv n m c k) n with g | g
       · exfalso
         exact mod_ne (n:=n) (u:=c 0) (v:=c 0+((b+adv n m c k:Nat):Int)) (by omega) (by omega) eb.symm
       · omega
     · rw [b4 (fun j hj=>h j (by omega)),h k (by omega)]
 obtain ⟨b,b1,_,b3,b4⟩:=main m (Nat.le_refl _)
 have bn:=b3 rfl
 subst bn
 refine ⟨?_,fun h=>?_⟩
 · rw [b1]
   have h0:=Int.emod_nonneg (c 0) (show (b:Int) ≠ 0 by omega)
   rw [<- sm_shift (c 0 % (b:Int)).toNat hf]
   refine sm_cong fun i _=>hf _ _ ?_
   rw [Int.toNat_of_nonneg h0,Int.add_emod_emod,Int.add_comm]
 · refine ⟨(b4 h).symm,fun k hk=>?_⟩
   obtain ⟨b',_,q2,_,q4⟩:=main k (by omega)
   rw [q4 (fun j hj=>h j (by omega))] at q2
   exact (q2 hk).1.symm
theorem mirror (C:PolyC n x y D) (hκ:Kap n x y D κ):PolyC n (fun a=>- x a) y D/\Kap n (fun a=>- x a) y D (-κ):=by
 have P:=C.P
 have cm:∀ a c,cr (fun a=>- x a) y a c = - cr x y a c:=fun a c=>by unfold cr;grind
 have nn:∀ p q:Int,-p * -q=p * q:=fun p q=>by grind
 have M:PolyC n (fun a=>- x a) y D:=poly_make P.hn (fun a b h=>by show - x a = - x b;rw [P.px a b h]) P.py P.hD C.dv P.hy
   (fun a b h c hc hw=>by rw [cm];have:=P.on a b h c hc hw;omega) (fun a b h=>by rw [cm,cm,cm,cm,nn,nn];exact P.no a b h) (fun a h=>P.co a (by rw [cm] at h;omega))
 refine ⟨M,?_⟩
 obtain ⟨κ',h1,h2⟩:=Kex M
 have a1:=area_sg P hκ
 have a2:=area_sg M.P h2
 have e:sm (fun b=>(- x b + - x (b+1)) * (y (b+1) - y b)) n = -1 * sm (fun b=>(x b+x (b+1)) * (y (b+1) - y b)) n:=by
   rw [<- sm_mul]
   exact sm_cong fun i _=>by grind
 have a2:κ' * sm (fun b=>(- x b + - x (b+1)) * (y (b+1) - y b)) n<0:=a2
 rw [e] at a2
 have hk:=κ_one P hκ
 have:κ' = -κ:=by
   rcases h1 with rfl | rfl <;> rcases hk with rfl | rfl <;> omega
 rw [<- this];exact h2
theorem right_turn (C:PolyC n x y D) (hκ:Kap n x y D (-1)) {p:Int} {d:Nat} (h2:2 <= d) (hd:d<n) (hl:∀ j,0 <= c3 x y p (p+d) j)
   (hs:∀ k,k % (n:Int) ≠ p % (n:Int)->k % (n:Int) ≠ (p+d) % (n:Int)->c3 x y p (p+d) k=0->¬ (min (y p) (y (p+d)) <= y k/\y k <= max (y p) (y (p+d)))):∃ r:Int,c3 x y r (r+1) (r+2)<0:=by
 obtain ⟨f1,_⟩:=chain_free C hκ (by omega) hd hl hs
 obtain ⟨Q1,_⟩:=chain_clean C h2 (by omega) hl hs
 have A:=part_poly C h2 (by omega) Q1
 have hA:Kap (d+1) (pt x p d) (pt y p d) D 1:=by
   obtain ⟨κ,_,h⟩:=Kex A
   have:=edge_side A h (.inr rfl) (d:Int) (fun c=>by
     obtain ⟨t,t0,t1,et⟩:=red d c
     rw [c3_per A rfl (b':=0) (by rw [show (d:Int)+1=((d+1:Nat):Int) by omega,Int.emod_self,Int.zero_emod]) et,c3_pt x y p (by omega) (by omega) (by omega) (by omega) t0 t1,Int.add_zero,c3_neg x y p (p+d)]
     have:=hl (p+t)
     omega)
   rw [this] at h;exact h
 obtain ⟨M,hM⟩:=mirror A hA
 obtain ⟨a,⟨E,_⟩,e1,e2⟩:=ears (d+1) (Nat.le_refl _) M hM (d:Int)
 obtain ⟨r,r0,r1,er⟩:=red d (a+1)
 have ne1:r ≠ d:=fun g=>e1 (by rw [er,g])
 have ne2:r ≠ 0:=fun g=>e2 (by rw [er,g,show (d:Int)+1=((d+1:Nat):Int) by omega,Int.emod_self,Int.zero_emod])
 have ea:a % ((d+1:Nat):Int)=(r - 1) % ((d+1:Nat):Int):=by
   have:=succ_mod er (-1)
   rwa [show a+1 + -1=a by omega,show r + -1=r - 1 by omega] at this
 have eb:(a+2) % ((d+1:Nat):Int)=(r+1) % ((d+1:Nat):Int):=by
   have:=succ_mod er 1
   rwa [show a+1+1=a+2 by omega] at this
 rw [c3_per M ea er eb,c3_mir,c3_pt x y p (by omega) (by omega) r0 r1 (by omega) (by omega)] at E
 refine ⟨p+(r - 1),?_⟩
 rw [show p+(r - 1)+1=p+r by omega,show p+(r - 1)+2=p+(r+1) by omega]
 omega
end
end PArea
namespace PArea
section
variable {n:Nat} {x y:Int->Int} {D κ:Int}
theorem line3 (x y:Int->Int) (p q z w j:Int):(y q - y p) * c3 x y z w j=(y w - y z) * c3 x y p q j+(y j - y w) * c3 x y p q z - (y j - y z) * c3 x y p q w:=by unfold c3;grind
theorem next_on (C:PolyC n x y D) {p q:Int} (hpq:y p ≠ y q) (hl:∀ j,0 <= c3 x y p q j) (hsg:∀ j,c3 x y p q j=0->min (y p) (y q) <= y j/\y j <= max (y p) (y q)) {z:Int} (hz:c3 x y p q z=0) (hzq:z % (n:Int) ≠ q % (n:Int)) :
   ∃ d:Nat,1 <= d/\d<n/\c3 x y p q (z+d)=0/\(∀ j,0 <= c3 x y z (z+d) j) /\ ∀ k,k % (n:Int) ≠ z % (n:Int)->k % (n:Int) ≠ (z+d) % (n:Int)->c3 x y z (z+d) k=0->¬ (min (y z) (y (z+d)) <= y k/\y k <= max (y z) (y (z+d))):=by
 have P:=C.P
 have hn:=P.hn
 have yz:=P.hy _ _ hzq
 have zs:=hsg z hz
 have lin:∀ w j,c3 x y p q w=0->(y q - y p) * c3 x y z w j=(y w - y z) * c3 x y p q j:=fun w j hw=>by
   rw [line3,hz,hw];omega
 have left:∀ w,c3 x y p q w=0->((y z<y w/\y p<y q)\/(y w<y z/\y q<y p)) -> ∀ j,0 <= c3 x y z w j:=fun w hw hdir j=>by
   have l:=lin w j hw
   have hj:=hl j
   rcases hdir with ⟨g1,g2⟩ | ⟨g1,g2⟩
   · have:=Int.mul_nonneg (show 0 <= y w - y z by omega) hj
     exact nn_of (show 0<y q - y p by omega) (by omega)
   · have:=Int.mul_nonpos_of_nonpos_of_nonneg (show y w - y z <= 0 by omega) hj
     refine nn_of (show 0<y p - y q by omega) ?_
     have e:(y p - y q) * c3 x y z w j = -((y q - y p) * c3 x y z w j):=by grind
     omega
 have flat:∀ w j,c3 x y p q w=0->y w ≠ y z->c3 x y z w j=0->c3 x y p q j=0:=fun w j hw hne h=>by
   have l:=lin w j hw
   rw [h,Int.mul_zero] at l
   rcases Int.mul_eq_zero.1 l.symm with g | g
   · omega
   · exact g
 have redn:∀ k:Int,∃ t:Nat,t<n/\k % (n:Int)=(t:Int) % (n:Int):=fun k=>by
   have m0:=Int.emod_nonneg k (show (n:Int) ≠ 0 by omega)
   have m1:=Int.emod_lt_of_pos k (show 0<(n:Int) by omega)
   exact ⟨(k % (n:Int)).toNat,by omega,by rw [Int.toNat_of_nonneg m0,Int.emod_emod]⟩
 have qq:c3 x y p q q=0:=c3_abb x y p q
 have ex:∃ k:Nat,k<n/\(c3 x y p q k=0/\((y z<y k/\y p<y q)\/(y k<y z/\y q<y p))):=by
   obtain ⟨t,ht,et⟩:=redn q
   exact ⟨t,ht,by rw [<- c3_per C rfl rfl et];exact qq,by rw [<- P.py _ _ et];omega⟩
 obtain ⟨w,hw,⟨w1,w2⟩,wmin⟩:=exists_min (v:=fun k=>((y (k:Int) - y z).natAbs:Int)) ex
 have hzw:z % (n:Int) ≠ (w:Int) % (n:Int):=fun e=>by rw [P.py _ _ e] at w2;omega
 obtain ⟨d,d1,dn,hd⟩:=dist_of hn hzw
 have cw:∀ j,c3 x y z (z+d) j=c3 x y z w j:=fun j=>c3_per C rfl hd rfl
 have yw:y (z+d)=y w:=P.py _ _ hd
 refine ⟨d,d1,dn,by rw [c3_per C rfl rfl hd];exact w1,fun j=>by rw [cw];exact left _ w1 w2 j,fun k k1 k2 hk hb=>?_⟩
 rw [cw] at hk
 rw [yw] at hb
 have hk:=flat _ k w1 (by omega) hk
 have h1:=P.hy _ _ k1
 have h2:=P.hy k w (by rw [<- hd];exact k2)
 obtain ⟨t,ht,et⟩:=redn k
 have:=wmin t ht (by rw [<- c3_per C rfl rfl et,<- P.py _ _ et];exact ⟨hk,by omega⟩)
 rw [<- P.py _ _ et] at this
 omega
theorem pocket_right (C:PolyC n x y D) (hκ:Kap n x y D (-1)) (sharp:∀ i,c3 x y i (i+1) (i+2) ≠ 0) {p q:Int} (hpq:y p ≠ y q) (hl:∀ j,0 <= c3 x y p q j) (hsg:∀ j,c3 x y p q j=0->min (y p) (y q) <= y j/\y j <= max (y p) (y q))
   {d:Nat} (d2:2 <= d) (dn:d<n) (hd:(p+d) % (n:Int)=q % (n:Int)):∃ r:Int,c3 x y r (r+1) (r+2)<0:=by
 have P:=C.P
 have hn:=P.hn
 have hp:c3 x y p q p=0:=c3_aba x y p q
 obtain ⟨e,e1,en,h1,h2,h3⟩:=next_on C hpq hl hsg hp (fun g=>hpq (P.py _ _ g))
 by_cases he:2 <= e
 · exact right_turn C hκ he en h2 h3
 have he:e=1:=by omega
 subst he
 have h1:c3 x y p q (p+1)=0:=h1
 have nq:(p+1) % (n:Int) ≠ q % (n:Int):=by rw [<- hd];exact mod_ne (by omega) (by omega)
 obtain ⟨f,f1,fn,g1,g2,g3⟩:=next_on C hpq hl hsg h1 nq
 by_cases hf:2 <= f
 · exact right_turn C hκ hf fn g2 g3
 have hf:f=1:=by omega
 subst hf
 have g1:c3 x y p q (p+1+1)=0:=g1
 rw [aa] at g1
 have l:=line3 x y p q p (p+1) (p+2)
 rw [hp,h1,g1] at l
 have l:(y q - y p) * c3 x y p (p+1) (p+2)=0:=by rw [l];omega
 rcases Int.mul_eq_zero.1 l with g | g
 · omega
 · exact absurd g (sharp p)
theorem hl_strict (C:PolyC n x y D) {m:Nat} {c:Nat->Int} (H:Hl n m x y c) {k j:Nat} (hk:k<m) (hj:j<m) (h1:j ≠ k) (h2:j ≠ nx m k):0<c3 x y (c k) (c (nx m k)) (c j):=by
 have P:=C.P
 have m3:=H.m3
 have nk:=nx_lt hk
 rcases Int.lt_or_le 0 (c3 x y (c k) (c (nx m k)) (c j)) with g | g
 · exact g
 exfalso
 have l0:=H.lf k hk (c j)
 have on:c3 x y (c k) (c (nx m k)) (c j)=0:=by omega
 have s1:=H.sg k hk _ on
 have hpq:=P.hy _ _ (hl_ne C H hk nk (fun e=>nx_ne (m:=m) (k:=k) (by omega) e.symm))
 have y1:=P.hy _ _ (hl_ne C H hj hk h1)
 have y2:=P.hy _ _ (hl_ne C H hj nk h2)
 have l1:=H.lf j hj (c k)
 have l2:=H.lf j hj (c (nx m k))
 have lf:=line_F x y (c k) (c (nx m k)) (c j) (c j) (c (nx m j))
 rw [on,c3_aba,Int.mul_zero,Int.mul_zero] at lf
 have z1:c3 x y (c j) (c (nx m j)) (c k)=0/\c3 x y (c j) (c (nx m j)) (c (nx m k))=0:=by
   have ge:∀ s t:Int,0 <= t->1 <= s->t <= s * t:=fun s t ht hs=>by
     have:=Int.mul_le_mul_of_nonneg_right (a:=1) (b:=s) (c:=t) hs ht
     omega
   rcases Int.lt_or_lt_of_ne hpq with g | g
   · have g1:=ge (y (c (nx m k)) - y (c j)) _ l1 (by omega)
     have g2:=ge (y (c j) - y (c k)) _ l2 (by omega)
     omega
   · have g1:=ge (y (c j) - y (c (nx m k))) _ l1 (by omega)
     have g2:=ge (y (c k) - y (c j)) _ l2 (by omega)
     have e1:(y (c j) - y (c (nx m k))) * c3 x y (c j) (c (nx m j)) (c k) = -((y (c (nx m k)) - y (c j)) * c3 x y (c j) (c (nx m j)) (c k)):=by grind
     have e2:(y (c k) - y (c j)) * c3 x y (c j) (c (nx m j)) (c (nx m k)) = -((y (c j) - y (c k)) * c3 x y (c j) (c (nx m j)) (c (nx m k))):=by grind
     omega
 have t1:=H.sg j hj _ z1.1
 have t2:=H.sg j hj _ z1.2
 omega
theorem hl_len (C:PolyC n x y D) (hκ:Kap n x y D (-1)) {m:Nat} {c:Nat->Int} (H:Hl n m x y c):m <= n:=by
 have s:=(hl_sum C hκ H (f:=fun _=>1) (fun _ _ _=>rfl)).1
 rw [sm_const,Int.mul_one] at s
 have g:∀ k,k <= m->(k:Int) <= sm (fun k=>sm (fun _=>1) (adv n m c k.toNat)) k:=fun k=>by
   induction k with
   | zero=>exact fun _=>Int.le_refl _
   | succ k ih =>
     intro hk
     have:=ih (by omega)
     rw [sm]
     show _ <= _+sm (fun _=>1) (adv n m c ((k:Int)).toNat)
     rw [sm_const,Int.mul_one,Int.toNat_natCast]
     have:=(adv_spec C H (k:=k) (by omega)).1
     omega
 have:=g m (Nat.le_refl _)
 omega
end
end PArea
theorem hull_left {l m:L.Sq L.Pt} (h:L.setOf l m):∀ k,k<(L.hull m).n->(∃ i,i<l.n/\l.g i=(L.hull m).g k) /\ ∃ s:Int,(s=1\/s = -1)/\L.slt s ((L.hull m).g k) ((L.hull m).g (PArea.nx (L.hull m).n k)) /\ ∀ i,i<l.n->L.leftOf s ((L.hull m).g k) ((L.hull m).g (PArea.nx (L.hull m).n k)) (l.g i):=by
 obtain ⟨h2,hd,hlm,hml⟩:=h
 have hs:=sorted_strict hd
 have A:=half_of (.inl rfl) (l:=L.sorted m) h2 hs
 have B:=half_of (.inr rfl) (l:=L.revd (L.sorted m)) h2 (fun i j hij hj=>slt_neg (hs (m.n - 1 - j) (m.n - 1 - i) (by have hj:j<m.n:=hj;omega) (by have hj:j<m.n:=hj;omega)))
 have hg:∀ i,i<l.n -> ∃ j,j<m.n/\(L.sorted m).g j=l.g i:=fun i hi=>by
   obtain ⟨j,hj,e⟩:=hlm i hi
   obtain ⟨k,hk,e2⟩:=sorted_all m hj
   exact ⟨k,hk,e2.trans e⟩
 have hb:∀ j,j<m.n -> ∃ i,i<l.n/\l.g i=(L.sorted m).g j:=fun j hj=>by
   obtain ⟨k,hk,e⟩:=sorted_mem m hj
   obtain ⟨i,hi,e2⟩:=hml k hk
   exact ⟨i,hi,e2.trans e.symm⟩
 have a1:=A.c1
 have b1:=B.c1
 have a0:=A.f0
 have ac:=A.fc
 have b0:=B.f0
 have bc:=B.fc
 have au:=A.up
 have bu:=B.up
 have al:=A.lf
 have bl:=B.lf
 have am:=A.mem
 have bm:=B.mem
 generalize hF1:L.fromTop (L.chainTo (L.sorted m) (L.sorted m).n)=F1 at *
 generalize hF2:L.fromTop (L.chainTo (L.revd (L.sorted m)) (L.revd (L.sorted m)).n)=F2 at *
 have hn:(L.hull m).n=((L.chainTo (L.sorted m) (L.sorted m).n).length - 1)+((L.chainTo (L.revd (L.sorted m)) (L.revd (L.sorted m)).n).length - 1):=by
   show 0+((L.chainTo (L.sorted m) (L.sorted m).n).length - 1)+_=_
   rw [Nat.zero_add];rfl
 have hgk:∀ k,(L.hull m).g k=(if k<(L.chainTo (L.sorted m) (L.sorted m).n).length - 1 then F1 k else F2 (k - ((L.chainTo (L.sorted m) (L.sorted m).n).length - 1))):=fun k=>by
   have e:(L.hull m).g k=bif decide (k<0+(L.chain (L.sorted m)).n) then (bif decide (k<0) then (⟨0,0⟩:L.Pt) else (L.chain (L.sorted m)).g (k - 0)) else (L.chain (L.revd (L.sorted m))).g (k - (0+(L.chain (L.sorted m)).n)):=rfl
   rw [e,Nat.zero_add,<- hF1,<- hF2]
   by_cases hk:k<(L.chainTo (L.sorted m) (L.sorted m).n).length - 1
   · rw [decide_eq_true (show k<(L.chain (L.sorted m)).n from hk),if_pos hk]
     rw [cond_true,decide_eq_false (Nat.not_lt_zero _)];rfl
   · rw [decide_eq_false (show ¬ k<(L.chain (L.sorted m)).n from hk),if_neg hk];rfl
 generalize (L.chainTo (L.sorted m) (L.sorted m).n).length - 1=c1 at *
 generalize (L.chainTo (L.revd (L.sorted m)) (L.revd (L.sorted m)).n).length - 1=c2 at *
 have e1:F1 c1=F2 0:=by rw [ac,b0];show _=(L.sorted m).g (m.n - 1 - 0);rfl
 have e2:F2 c2=F1 0:=by rw [a0,bc];show (L.sorted m).g (m.n - 1 - (m.n - 1))=_;rw [Nat.sub_self]
 have lB:∀ k,k<c2 -> ∀ i,i<m.n->L.leftOf (-1) (F2 k) (F2 (k+1)) ((L.sorted m).g i):=fun k hk i hi=>by
   have:=bl k hk (m.n - 1 - i) (show m.n - 1 - i<m.n by omega)
   have this:L.leftOf (-1) (F2 k) (F2 (k+1)) ((L.sorted m).g (m.n - 1 - (m.n - 1 - i))):=this
   rwa [show m.n - 1 - (m.n - 1 - i)=i by omega] at this
 intro k hk
 rw [hn] at hk
 rw [hn]
 unfold PArea.nx
 by_cases hc:k<c1
 · have ek:(L.hull m).g k=F1 k:=by rw [hgk,if_pos hc]
   have en:(L.hull m).g (if k+1=c1+c2 then 0 else k+1)=F1 (k+1):=by
     rw [if_neg (by omega),hgk]
     by_cases h':k+1<c1
     · rw [if_pos h']
     · rw [if_neg h',show k+1=c1 by omega,Nat.sub_self,e1]
   rw [ek,en]
   refine ⟨?_,1,.inl rfl,au k hc,fun i hi=>?_⟩
   · obtain ⟨j,hj,e⟩:=am k (by omega)
     obtain ⟨i,hi,e'⟩:=hb j hj
     exact ⟨i,hi,e'.trans e⟩
   · obtain ⟨j,hj,e⟩:=hg i hi
     rw [<- e];exact al k hc j hj
 · have ek:(L.hull m).g k=F2 (k - c1):=by rw [hgk,if_neg hc]
   have en:(L.hull m).g (if k+1=c1+c2 then 0 else k+1)=F2 (k - c1+1):=by
     by_cases h':k+1=c1+c2
     · rw [if_pos h',hgk,if_pos (show 0<c1 by omega),show k - c1+1=c2 by omega,e2]
     · rw [if_neg h',hgk,if_neg (by omega),show k+1 - c1=k - c1+1 by omega]
   rw [ek,en]
   refine ⟨?_,-1,.inr rfl,bu _ (by omega),fun i hi=>?_⟩
   · obtain ⟨j,hj,e⟩:=bm (k - c1) (by omega)
     obtain ⟨i,hi,e'⟩:=hb (m.n - 1 - j) (by have hj:j<m.n:=hj;omega)
     exact ⟨i,hi,e'.trans e⟩
   · obtain ⟨j,hj,e⟩:=hg i hi
     rw [<- e];exact lB _ (by omega) j hj
theorem mul_btw {u w U Wd:Int} (e:Wd * U=u * w) (hU:U ≠ 0) (hw:0 <= w/\w <= U\/U <= w/\w <= 0):0 <= Wd/\Wd <= u\/u <= Wd/\Wd <= 0:=by
 have tri:∀ U w Wd u:Int,0<U->0 <= w->w <= U->Wd * U=u * w->(0 <= Wd/\Wd <= u\/u <= Wd/\Wd <= 0):=fun U w Wd u hU h0 h1 e=>by
   rcases Int.le_total 0 u with g | g
   · refine .inl ⟨?_,?_⟩
     · rcases Int.lt_or_le Wd 0 with q | q
       · have:=Int.mul_neg_of_neg_of_pos q hU
         have:=Int.mul_nonneg g h0
         omega
       · exact q
     · rcases Int.lt_or_le u Wd with q | q
       · have a1:=Int.mul_lt_mul_of_pos_right q hU
         have a2:=Int.mul_le_mul_of_nonneg_left h1 g
         omega
       · exact q
   · refine .inr ⟨?_,?_⟩
     · rcases Int.lt_or_le Wd u with q | q
       · have a1:=Int.mul_lt_mul_of_pos_right q hU
         have a2:=Int.mul_nonneg_of_nonpos_of_nonpos g (show w - U <= 0 by omega)
         rw [Int.mul_sub] at a2
         omega
       · exact q
     · rcases Int.lt_or_le 0 Wd with q | q
       · have:=Int.mul_pos q hU
         have:=Int.mul_nonpos_of_nonpos_of_nonneg g h0
         omega
       · exact q
 rcases hw with ⟨p1,p2⟩ | ⟨p1,p2⟩
 · exact tri U w Wd u (by omega) p1 p2 e
 · exact tri (-U) (-w) Wd u (by omega) (by omega) (by omega) (by rw [Int.mul_neg,Int.mul_neg,e])
theorem seg_hy {a b q:L.Pt} {s:Int} (hs:s=1\/s = -1) (h:L.cross a b q=0) (hab:L.slt s a b) (h1:L.sle s a q) (h2:L.sle s q b):min (8000001 * a.y+a.x) (8000001 * b.y+b.x) <= 8000001 * q.y+q.x/\8000001 * q.y+q.x <= max (8000001 * a.y+a.x) (8000001 * b.y+b.x):=by
 unfold L.slt L.vp at hab
 unfold L.sle L.vn at h1 h2
 unfold L.cross at h
 have k:0 <= 8000001 * (q.y - a.y)+(q.x - a.x)/\8000001 * (q.y - a.y)+(q.x - a.x) <= 8000001 * (b.y - a.y)+(b.x - a.x)\/8000001 * (b.y - a.y)+(b.x - a.x) <= 8000001 * (q.y - a.y)+(q.x - a.x)/\8000001 * (q.y - a.y)+(q.x - a.x) <= 0:=by
   by_cases hx:b.x=a.x
   · have e1:q.x=a.x:=by rcases hs with rfl | rfl <;> omega
     rcases hs with rfl | rfl <;> omega
   · refine mul_btw (U:=b.x - a.x) (w:=q.x - a.x) (by grind) (by omega) ?_
     rcases hs with rfl | rfl <;> omega
 omega
theorem idx_pt {l:L.Sq L.Pt} {p:L.Pt} (h:∃ i,i<l.n/\l.g i=p):∃ i:Nat,i<l.n/\L.ptIdx l p=(i:Int)/\l.g i=p:=by
 obtain ⟨j,hj,rfl⟩:=h
 obtain ⟨i,hi,e,e2,_⟩:=ptIdx_of hj
 exact ⟨i,by omega,e,e2⟩
theorem out_set {l:L.Sq L.Pt} (hf:L.fine l):L.setOf l l:=⟨by have:=hf.1;omega,fun i k hi hk e=>inj_of hf.2.2.2.1 hi hk e,fun i hi=>⟨i,hi,rfl⟩,fun j hj=>⟨j,hj,rfl⟩⟩
structure L.Hd (l:L.Sq L.Pt) (D:Int):Prop where
 C:PArea.PolyC l.n (L.hx l) (L.hy l) D
 K:PArea.Kap l.n (L.hx l) (L.hy l) D (-1)
 H:PArea.Hl l.n (L.hull l).n (L.hx l) (L.hy l) (fun k=>L.pkFrom l (L.hull l) k)
 at_:∀ k,k<(L.hull l).n->L.cy l (L.pkFrom l (L.hull l) k)=(L.hull l).g k
theorem hd_of {l:L.Sq L.Pt} (hv:L.validOutline l=true):∃ D,L.Hd l D:=by
 obtain ⟨n3,n24,hsm,hbd⟩:=validOutline_of hv
 obtain ⟨hs,hc,ha⟩:=valid_parts hv
 have hf:=out_fine hv
 have hn:0<l.n:=by omega
 obtain ⟨D,hD,dv⟩:=dv_ex (fine_dist hf)
 have C:=polyC_fine hf hD dv
 obtain ⟨κ,k1,hκ⟩:=PArea.Kex C
 have sP:=PArea.area_sg C.P hκ
 rw [area_hy l hn] at sP
 obtain rfl:κ = -1:=by rcases k1 with rfl | rfl <;> omega
 have HI:=(hull_is (out_set hf)).1
 have HL:=hull_left (out_set hf)
 have idx:∀ k,k<(L.hull l).n -> ∃ i:Nat,i<l.n/\L.pkFrom l (L.hull l) k=(i:Int)/\l.g i=(L.hull l).g k:=fun k hk=>idx_pt (HL k hk).1
 have at_:∀ k,k<(L.hull l).n->L.cy l (L.pkFrom l (L.hull l) k)=(L.hull l).g k:=fun k hk=>by
   obtain ⟨i,hi,e,e2⟩:=idx k hk
   rw [e,cy_nat hi,e2]
 have hpos:=HI.pos
 have cr:∀ k,k<(L.hull l).n -> ∀ j,PArea.c3 (L.hx l) (L.hy l) (L.pkFrom l (L.hull l) k) (L.pkFrom l (L.hull l) (PArea.nx (L.hull l).n k)) j=8000001 * L.cross ((L.hull l).g k) ((L.hull l).g (PArea.nx (L.hull l).n k)) (L.cy l j):=fun k hk j=>by
   rw [c3_hx,at_ k hk,at_ _ (PArea.nx_lt hk)]
 have hyk:∀ k,k<(L.hull l).n->L.hy l (L.pkFrom l (L.hull l) k)=8000001 * ((L.hull l).g k).y+((L.hull l).g k).x:=fun k hk=>by unfold L.hy;rw [at_ k hk]
 have lf:∀ k,k<(L.hull l).n -> ∀ j,0 <= L.cross ((L.hull l).g k) ((L.hull l).g (PArea.nx (L.hull l).n k)) (L.cy l j):=fun k hk j=>by
   obtain ⟨s,_,_,h⟩:=(HL k hk).2
   rcases h (L.ix l.n j) (ix_lt hn) with g | ⟨g,_,_⟩
   · exact Int.le_of_lt g
   · exact Int.le_of_eq g.symm
 refine ⟨D,C,hκ,⟨?_,fun k hk=>?_,fun i k hi hk e=>?_,fun k hk j=>?_,fun k hk j h=>?_⟩,at_⟩
 · rcases Nat.lt_or_ge 2 (L.hull l).n with g | g
   · exact g
   exfalso
   have e2:(L.hull l).n=2:=by omega
   have n0:PArea.nx (L.hull l).n 0=1:=by rw [e2];rfl
   have n1:PArea.nx (L.hull l).n 1=0:=by rw [e2];rfl
   have z:∀ j,PArea.c3 (L.hx l) (L.hy l) (L.pkFrom l (L.hull l) 0) (L.pkFrom l (L.hull l) 1) j=0:=fun j=>by
     have q0:=lf 0 (by omega) j
     have q1:=lf 1 (by omega) j
     rw [n0] at q0
     rw [n1] at q1
     have:=cr 0 (by omega) j
     rw [n0] at this
     rw [this]
     have sw:L.cross ((L.hull l).g 1) ((L.hull l).g 0) (L.cy l j) = - L.cross ((L.hull l).g 0) ((L.hull l).g 1) (L.cy l j):=by unfold L.cross;grind
     omega
   have l3:=PArea.line3 (L.hx l) (L.hy l) (L.pkFrom l (L.hull l) 0) (L.pkFrom l (L.hull l) 1) 0 1 2
   rw [z,z,z] at l3
   have hne:L.hy l (L.pkFrom l (L.hull l) 0) ≠ L.hy l (L.pkFrom l (L.hull l) 1):=by
     obtain ⟨i,hi,e,e3⟩:=idx 0 (by omega)
     obtain ⟨k,hk,e',e4⟩:=idx 1 (by omega)
     have:i ≠ k:=fun h=>by
       have:=hull_inj HI (i:=0) (j:=1) (by omega) (by omega) (by rw [<- e3,<- e4,h])
       omega
     rw [e,e']
     refine C.P.hy _ _ ?_
     rw [Int.emod_eq_of_lt (by omega) (by omega),Int.emod_eq_of_lt (by omega) (by omega)]
     omega
   have z2:(L.hy l (L.pkFrom l (L.hull l) 1) - L.hy l (L.pkFrom l (L.hull l) 0)) * PArea.c3 (L.hx l) (L.hy l) 0 1 2=0:=by rw [l3];omega
   rcases Int.mul_eq_zero.1 z2 with w | w
   · omega
   · rw [c3_hx] at w
     have:=sharp_cy hn hc 1
     rw [show (1:Int) - 1=0 from rfl,show (1:Int)+1=2 from rfl] at this
     omega
 · obtain ⟨i,hi,e,_⟩:=idx k hk
   omega
 · obtain ⟨a,ha,e1,e2⟩:=idx i hi
   obtain ⟨b,hb,e3,e4⟩:=idx k hk
   rw [e1,e3] at e
   exact hull_inj HI hi hk (by rw [<- e2,<- e4,show a=b by omega])
 · rw [cr k hk]
   have:=lf k hk j
   omega
 · rw [cr k hk] at h
   rw [hyk k hk,hyk _ (PArea.nx_lt hk)]
   have h0:L.cross ((L.hull l).g k) ((L.hull l).g (PArea.nx (L.hull l).n k)) (L.cy l j)=0:=by omega
   obtain ⟨s,hs1,hs2,hl⟩:=(HL k hk).2
   rcases hl (L.ix l.n j) (ix_lt hn) with g | ⟨_,g1,g2⟩
   · have g:0<L.cross ((L.hull l).g k) ((L.hull l).g (PArea.nx (L.hull l).n k)) (L.cy l j):=g
     omega
   · exact seg_hy hs1 h0 hs2 g1 g2
end Go.Proofs.YtinfalehnaejbaaGreat
namespace Go.Proofs.YtinfalehnaejbaaGreat
open Go.SE Go.RowKit
set_option maxRecDepth 100000
set_option maxHeartbeats 4000000
set_option linter.unusedVariables false
attribute [local irreducible] vc
open Conf
theorem cy_hull {h:L.Sq L.Pt} {k:Nat} (hk:k<h.n):L.cy h ((k:Int)+1)=h.g (PArea.nx h.n k):=by
 rw [cy_next hk,next_at hk];rfl
theorem adv_len {l:L.Sq L.Pt} (hn:0<l.n) {k:Nat} (h0:0 <= L.pkFrom l (L.hull l) k) (h1:L.pkFrom l (L.hull l) k<(l.n:Int)) (h2:0 <= L.pkTo l (L.hull l) k) (hx:L.pkTo l (L.hull l) k=L.pkFrom l (L.hull l) (PArea.nx (L.hull l).n k)) :
   L.pkLen l.n (L.pkFrom l (L.hull l) k) (L.pkTo l (L.hull l) k)=PArea.adv l.n (L.hull l).n (fun k=>L.pkFrom l (L.hull l) k) k:=by
 unfold L.pkLen PArea.adv
 show _=((L.pkFrom l (L.hull l) (PArea.nx (L.hull l).n k) - L.pkFrom l (L.hull l) k) % (l.n:Int)).toNat
 rw [<- hx,Int.tmod_eq_emod_of_nonneg (by omega),show L.pkTo l (L.hull l) k+(l.n:Int) - L.pkFrom l (L.hull l) k=(L.pkTo l (L.hull l) k - L.pkFrom l (L.hull l) k)+(l.n:Int) by omega,Int.add_emod_right]
theorem row_area {l:L.Sq L.Pt} (hn:0<l.n) {fr to_:Int} {d:Nat} (t0:0 <= to_) (t1:to_<(l.n:Int)) (hd:d<l.n) (hl:L.pkLen l.n fr to_=d) (hf:(to_ - d) % (l.n:Int)=fr % (l.n:Int)) :
   L.areaTo (L.pkRow l fr to_) (L.pkRow l fr to_).n=L.tm (L.cy l fr) (L.cy l to_) - PArea.sm (fun r=>L.ct l (fr+r)) d:=by
 have en:(L.pkRow l fr to_).n=d+1:=by show L.pkLen l.n fr to_+1=d+1;rw [hl]
 have cg:∀ j:Nat,j <= d->L.cy (L.pkRow l fr to_) (j:Int)=L.cy l (to_ - j):=fun j hj=>by
   rw [cy_nat (by omega)]
   show l.g (L.back l.n to_ j).toNat=_
   unfold L.back
   rw [Int.tmod_eq_emod_of_nonneg (by omega)]
   have e:(to_+(l.n:Int) - (j:Int)) % (l.n:Int)=(to_ - j) % (l.n:Int):=by rw [show to_+(l.n:Int) - (j:Int)=(to_ - j)+l.n by omega,Int.add_emod_right]
   rw [e]
   have hx:=ix_emod (n:=l.n) (a:=to_ - j) hn
   rw [<- hx,Int.toNat_natCast];rfl
 have per:∀ a b:Int,a % (l.n:Int)=b % (l.n:Int)->L.cy l a=L.cy l b:=fun a b h=>cy_per hn h
 rw [area_sm (Nat.le_refl _),sm_P,en,PArea.sm]
 have last:L.ct (L.pkRow l fr to_) (d:Int)=L.tm (L.cy l fr) (L.cy l to_):=by
   unfold L.ct
   have c0:L.cy (L.pkRow l fr to_) ((d:Int)+1)=L.cy (L.pkRow l fr to_) ((0:Nat):Int):=cy_per (l:=L.pkRow l fr to_) (by omega) (by rw [en,show (d:Int)+1=((d+1:Nat):Int) by omega,Int.emod_self];rfl)
   rw [c0,cg d (Nat.le_refl _),cg 0 (Nat.zero_le _),per _ _ hf,show to_ - ((0:Nat):Int)=to_ by omega]
 rw [last]
 have rv:=PArea.rev (fun m=>- L.ct l (to_ - d+m - 1)) d
 have e1:PArea.sm (L.ct (L.pkRow l fr to_)) d=PArea.sm (fun j=>- L.ct l (to_ - d+((d:Int) - j) - 1)) d:=PArea.sm_cong fun j hj=>by
   unfold L.ct
   rw [show ((j:Int)+1)=((j+1:Nat):Int) by omega,cg j (by omega),cg (j+1) (by omega),show to_ - (d:Int)+((d:Int) - j) - 1=to_ - ((j+1:Nat):Int) by omega,show to_ - ((j+1:Nat):Int)+1=to_ - j by omega]
   unfold L.tm;omega
 have e2:PArea.sm (fun j=>- L.ct l (to_ - d+(j+1) - 1)) d=PArea.sm (fun r=>-1 * L.ct l (fr+r)) d:=PArea.sm_cong fun j _=>by
   have:=ct_perP hn (to_ - d+((j:Int)+1) - 1) (fr+j) (by
     have:=PArea.succ_mod hf (j:Int)
     rw [show to_ - (d:Int)+((j:Int)+1) - 1=to_ - d+j by omega,this])
   show - L.ct l (to_ - d+((j:Int)+1) - 1) = -1 * L.ct l (fr+j)
   rw [this];omega
 rw [e1,rv,e2,PArea.sm_mul]
 omega
theorem pk_facts {l:L.Sq L.Pt} {D:Int} (hn:0<l.n) (X:L.Hd l D) {k:Nat} (hk:k<(L.hull l).n):L.pkTo l (L.hull l) k=L.pkFrom l (L.hull l) (PArea.nx (L.hull l).n k)/\(0 <= L.pkFrom l (L.hull l) k/\L.pkFrom l (L.hull l) k<(l.n:Int))/\0 <= L.pkTo l (L.hull l) k/\L.pkTo l (L.hull l) k<(l.n:Int):=by
 have e:L.pkTo l (L.hull l) k=L.pkFrom l (L.hull l) (PArea.nx (L.hull l).n k):=by unfold L.pkTo L.pkFrom;rw [next_at hk];rfl
 have h1:=X.H.rng k hk
 have h2:=X.H.rng _ (PArea.nx_lt hk)
 exact ⟨e,h1,by rw [e];exact h2⟩
theorem pk_area {l:L.Sq L.Pt} {D:Int} (hn:0<l.n) (X:L.Hd l D) {k:Nat} (hk:k<(L.hull l).n):(L.pk l (L.hull l) k).area=L.tm ((L.hull l).g k) ((L.hull l).g (PArea.nx (L.hull l).n k)) - PArea.sm (fun r=>L.ct l (L.pkFrom l (L.hull l) k+r)) (PArea.adv l.n (L.hull l).n (fun k=>L.pkFrom l (L.hull l) k) k):=by
 obtain ⟨e,⟨a0,a1⟩,b0,b1⟩:=pk_facts hn X hk
 obtain ⟨d1,d2,d3⟩:=PArea.adv_spec X.C X.H hk
 have al:=adv_len hn a0 a1 b0 e
 have r:=row_area hn (fr:=L.pkFrom l (L.hull l) k) b0 b1 d2 al (by
   have:=PArea.succ_mod (n:=l.n) (show (L.pkFrom l (L.hull l) k+(PArea.adv l.n (L.hull l).n (fun k=>L.pkFrom l (L.hull l) k) k:Int)) % (l.n:Int)=L.pkTo l (L.hull l) k % (l.n:Int) by rw [d3,e]) (-(PArea.adv l.n (L.hull l).n (fun k=>L.pkFrom l (L.hull l) k) k:Int))
   rw [show L.pkFrom l (L.hull l) k+(PArea.adv l.n (L.hull l).n (fun k=>L.pkFrom l (L.hull l) k) k:Int) + -(PArea.adv l.n (L.hull l).n (fun k=>L.pkFrom l (L.hull l) k) k:Int)=L.pkFrom l (L.hull l) k by omega] at this
   exact this.symm)
 show L.areaTo (L.pkRow l (L.pkFrom l (L.hull l) k) (L.pkTo l (L.hull l) k)) (L.pkRow l (L.pkFrom l (L.hull l) k) (L.pkTo l (L.hull l) k)).n=_
 rw [r,X.at_ k hk,e,X.at_ _ (PArea.nx_lt hk)]
theorem isPk_iff {l:L.Sq L.Pt} {D:Int} (hn:0<l.n) (X:L.Hd l D) {k:Nat} (hk:k<(L.hull l).n):L.isPk l (L.hull l) k=false ↔ PArea.adv l.n (L.hull l).n (fun k=>L.pkFrom l (L.hull l) k) k=1:=by
 obtain ⟨e,⟨a0,a1⟩,b0,b1⟩:=pk_facts hn X hk
 obtain ⟨d1,d2,d3⟩:=PArea.adv_spec X.C X.H hk
 unfold L.isPk
 rw [Bool.not_eq_false',decide_eq_true_eq,Int.tmod_eq_emod_of_nonneg (by omega)]
 have d3:(L.pkFrom l (L.hull l) k+(PArea.adv l.n (L.hull l).n (fun k=>L.pkFrom l (L.hull l) k) k:Int)) % (l.n:Int)=L.pkTo l (L.hull l) k % (l.n:Int):=by rw [d3,e]
 rw [Int.emod_eq_of_lt b0 b1] at d3
 constructor
 · intro h
   rw [h] at d3
   rcases Nat.lt_or_ge 1 (PArea.adv l.n (L.hull l).n (fun k=>L.pkFrom l (L.hull l) k) k) with g | g
   · exact absurd d3.symm (PArea.mod_ne (by omega) (by omega))
   · omega
 · intro h
   rw [<- d3,h];rfl
theorem pk_none {l:L.Sq L.Pt} {D:Int} (hn:0<l.n) (X:L.Hd l D) {k:Nat} (hk:k<(L.hull l).n) (h:L.isPk l (L.hull l) k=false):(L.pk l (L.hull l) k).area=0:=by
 have e:=(isPk_iff hn X hk).1 h
 have d3:=(PArea.adv_spec X.C X.H hk).2.2
 rw [pk_area hn X hk,e]
 rw [e] at d3
 have c:L.cy l (L.pkFrom l (L.hull l) k+1)=(L.hull l).g (PArea.nx (L.hull l).n k):=by
   rw [<- X.at_ _ (PArea.nx_lt hk)]
   exact cy_per hn d3
 show _ - (0+L.ct l (L.pkFrom l (L.hull l) k+0))=0
 unfold L.ct
 rw [Int.add_zero,X.at_ k hk,c]
 omega
theorem sel_sum (p:Nat->Bool) (F:Nat->Int) (h:∀ k,p k=false->F k=0):∀ n,PArea.sm (fun i=>F (L.selN p n i.toNat)) (L.cnt p n)=PArea.sm (fun k=>F k.toNat) n
 | 0=>rfl
 | n+1=>by
   have ih:=sel_sum p F h n
   rw [PArea.sm,Int.toNat_natCast,<- ih]
   cases hp:p n with
   | true =>
     rw [cnt_yes hp,PArea.sm,Int.toNat_natCast,selN_new hp]
     congr 1
     refine PArea.sm_cong fun i hi=>?_
     show F (L.selN p (n+1) ((i:Int)).toNat)=F (L.selN p n ((i:Int)).toNat)
     rw [Int.toNat_natCast,selN_old (by omega)]
   | false =>
     rw [cnt_not hp,h n hp,Int.add_zero]
     refine PArea.sm_cong fun i hi=>?_
     show F (L.selN p (n+1) ((i:Int)).toNat)=F (L.selN p n ((i:Int)).toNat)
     rw [Int.toNat_natCast,selN_old (by omega)]
theorem pks_sum {l:L.Sq L.Pt} {D:Int} (hn:0<l.n) (X:L.Hd l D):PArea.sm (fun i=>((L.pks l).g i.toNat).area) (L.pks l).n=L.areaTo (L.hull l) (L.hull l).n - L.areaTo l l.n:=by
 have s:=sel_sum (fun k=>if k<(L.hull l).n then L.isPk l (L.hull l) k else false) (fun k=>if k<(L.hull l).n then (L.pk l (L.hull l) k).area else 0) (fun k hk=>by
   by_cases g:k<(L.hull l).n
   · rw [if_pos g] at hk ⊢;exact pk_none hn X g hk
   · rw [if_neg g]) (L.hull l).n
 have cn:∀ (p q:Nat->Bool) (m:Nat),(∀ k,k<m->p k=q k)->L.cnt p m=L.cnt q m /\ ∀ i,i<L.cnt p m->L.selN p m i=L.selN q m i/\L.selN p m i<m:=fun p q m=>by
   induction m with
   | zero=>exact fun _=>⟨rfl,fun i hi=>absurd hi (Nat.not_lt_zero _)⟩
   | succ m ih =>
     intro h
     obtain ⟨i1,i2⟩:=ih (fun k hk=>h k (by omega))
     have hm:=h m (by omega)
     cases hp:p m with
     | true =>
       rw [cnt_yes hp,cnt_yes (hm ▸ hp),i1]
       refine ⟨rfl,fun i hi=>?_⟩
       by_cases e:i=L.cnt q m
       · subst e
         rw [<- i1,selN_new hp,i1,selN_new (hm ▸ hp)]
         exact ⟨rfl,by omega⟩
       · obtain ⟨j1,j2⟩:=i2 i (by omega)
         rw [selN_old (by omega),selN_old e]
         exact ⟨j1,by omega⟩
     | false =>
       rw [cnt_not hp,cnt_not (hm ▸ hp)]
       refine ⟨i1,fun i hi=>?_⟩
       obtain ⟨j1,j2⟩:=i2 i hi
       rw [selN_old (by omega),selN_old (by omega)]
       exact ⟨j1,by omega⟩
 obtain ⟨q1,q2⟩:=cn (fun k=>if k<(L.hull l).n then L.isPk l (L.hull l) k else false) (L.isPk l (L.hull l)) (L.hull l).n (fun k hk=>if_pos hk)
 have e1:PArea.sm (fun i=>((L.pks l).g i.toNat).area) (L.pks l).n=PArea.sm (fun i=>(fun k=>if k<(L.hull l).n then (L.pk l (L.hull l) k).area else 0) (L.selN (fun k=>if k<(L.hull l).n then L.isPk l (L.hull l) k else false) (L.hull l).n i.toNat)) (L.cnt (fun k=>if k<(L.hull l).n then L.isPk l (L.hull l) k else false) (L.hull l).n):=by
   show PArea.sm (fun i=>((L.pks l).g i.toNat).area) (L.cnt (L.isPk l (L.hull l)) (L.hull l).n)=_
   rw [<- q1]
   refine PArea.sm_cong fun i hi=>?_
   obtain ⟨j1,j2⟩:=q2 i hi
   show (L.pk l (L.hull l) (L.selN (L.isPk l (L.hull l)) (L.hull l).n ((i:Int)).toNat)).area=if L.selN (fun k=>if k<(L.hull l).n then L.isPk l (L.hull l) k else false) (L.hull l).n ((i:Int)).toNat<(L.hull l).n then _ else 0
   rw [Int.toNat_natCast,if_pos j2,j1]
 rw [e1,s]
 have e2:PArea.sm (fun k=>(fun k=>if k<(L.hull l).n then (L.pk l (L.hull l) k).area else 0) k.toNat) (L.hull l).n=PArea.sm (fun k=>L.ct (L.hull l) k - PArea.sm (fun r=>L.ct l (L.pkFrom l (L.hull l) k.toNat+r)) (PArea.adv l.n (L.hull l).n (fun k=>L.pkFrom l (L.hull l) k) k.toNat)) (L.hull l).n:=PArea.sm_cong fun k hk=>by
   show (if ((k:Int)).toNat<(L.hull l).n then _ else 0)=_
   rw [Int.toNat_natCast,if_pos hk,pk_area hn X hk]
   unfold L.ct
   rw [cy_nat hk,cy_hull hk]
 rw [e2,PArea.sm_sub (f:=L.ct (L.hull l)),(PArea.hl_sum X.C X.K X.H (f:=L.ct l) (ct_perP hn)).1,area_sm (Nat.le_refl _),sm_P,area_sm (Nat.le_refl _),sm_P]
theorem hull_cross {l:L.Sq L.Pt} {D:Int} (X:L.Hd l D) {k j:Nat} (hk:k<(L.hull l).n) (hj:j<(L.hull l).n) (h1:j ≠ k) (h2:j ≠ PArea.nx (L.hull l).n k):0<L.cross ((L.hull l).g k) ((L.hull l).g (PArea.nx (L.hull l).n k)) ((L.hull l).g j):=by
 have s:=PArea.hl_strict X.C X.H hk hj h1 h2
 rw [c3_hx,X.at_ k hk,X.at_ _ (PArea.nx_lt hk),X.at_ j hj] at s
 omega
theorem hull_inj' {l:L.Sq L.Pt} {D:Int} (X:L.Hd l D) {i k:Nat} (hi:i<(L.hull l).n) (hk:k<(L.hull l).n) (e:(L.hull l).g i=(L.hull l).g k):i=k:=by
 have a:=X.at_ i hi
 have b:=X.at_ k hk
 by_cases g:i=k
 · exact g
 · have:=PArea.hl_ne X.C X.H hi hk g
   exact absurd (by unfold L.hy;rw [a,b,e]) (X.C.P.hy _ _ this)
theorem hull_simple {l:L.Sq L.Pt} {D:Int} (X:L.Hd l D):L.simple (L.hull l)=true:=by
 have m3:=X.H.m3
 have nxl:=fun k (hk:k<(L.hull l).n)=>PArea.nx_lt hk
 have cr:=fun k j hk hj h1 h2=>hull_cross X (k:=k) (j:=j) hk hj h1 h2
 refine simple_from fun i k hik hk=>?_
 have ei:(L.hull l).g (i+1)=(L.hull l).g (PArea.nx (L.hull l).n i):=by unfold PArea.nx;rw [if_neg (by omega)]
 have ek:(L.hull l).g (L.next (L.hull l).n k)=(L.hull l).g (PArea.nx (L.hull l).n k):=by rw [next_at hk];rfl
 rw [ei,ek]
 have hi:i<(L.hull l).n:=by omega
 have ni:=nxl i hi
 have nk:=nxl k hk
 have ui:PArea.nx (L.hull l).n i=i+1:=by unfold PArea.nx;rw [if_neg (by omega)]
 have uk:(k+1=(L.hull l).n/\PArea.nx (L.hull l).n k=0)\/(k+1 ≠ (L.hull l).n/\PArea.nx (L.hull l).n k=k+1):=by
   unfold PArea.nx
   by_cases g:k+1=(L.hull l).n
   · exact .inl ⟨g,if_pos g⟩
   · exact .inr ⟨g,if_neg g⟩
 by_cases c1:k=i+1
 · rw [if_pos (.inl c1)]
   refine meet_one.2 ⟨(L.hull l).g k,?_,fun q hq=>?_⟩
   · exact .inr (.inl ⟨by rw [ui,<- c1];exact on_left,by rw [ui,<- c1]⟩)
   · rcases hq with ⟨h,e⟩ | ⟨h,e⟩ | ⟨h,e⟩ | ⟨h,e⟩
     · have:=on_cross h
       have:=cr k i hk hi (by omega) (by omega)
       omega
     · rw [e,ui,<- c1]
     · exact e
     · have:=on_cross h
       have:=cr i (PArea.nx (L.hull l).n k) hi nk (by omega) (by omega)
       omega
 · by_cases c2:i=0/\k+1=(L.hull l).n
   · rw [if_pos (.inr c2)]
     have e0:PArea.nx (L.hull l).n k=0:=by omega
     refine meet_one.2 ⟨(L.hull l).g 0,?_,fun q hq=>?_⟩
     · exact .inr (.inr (.inr ⟨by rw [e0,c2.1];exact on_left,by rw [e0]⟩))
     · rcases hq with ⟨h,e⟩ | ⟨h,e⟩ | ⟨h,e⟩ | ⟨h,e⟩
       · rw [e,c2.1]
       · have:=on_cross h
         have:=cr k (PArea.nx (L.hull l).n i) hk ni (by omega) (by omega)
         omega
       · have:=on_cross h
         have:=cr i k hi hk (by omega) (by omega)
         omega
       · rw [e,e0]
   · rw [if_neg (by omega)]
     have k1:=cr i k hi hk (by omega) (by omega)
     have k2:=cr i (PArea.nx (L.hull l).n k) hi nk (by omega) (by omega)
     have k3:=cr k i hk hi (by omega) (by omega)
     have k4:=cr k (PArea.nx (L.hull l).n i) hk ni (by omega) (by omega)
     refine meet_zero.2 ⟨fun q hq=>?_,fun ⟨h,_⟩=>?_⟩
     · rcases hq with ⟨h,e⟩ | ⟨h,e⟩ | ⟨h,e⟩ | ⟨h,e⟩
       · have:=on_cross h;omega
       · have:=on_cross h;omega
       · have:=on_cross h;omega
       · have:=on_cross h;omega
     · have h:=of_decide_eq_true h
       unfold L.cmp at h
       rw [decide_eq_false (show ¬ L.cross ((L.hull l).g i) ((L.hull l).g (PArea.nx (L.hull l).n i)) ((L.hull l).g k)<0 by omega),decide_eq_true k1,decide_eq_false (show ¬ L.cross ((L.hull l).g i) ((L.hull l).g (PArea.nx (L.hull l).n i)) ((L.hull l).g (PArea.nx (L.hull l).n k))<0 by omega),decide_eq_true k2] at h
       exact absurd h (by decide)
theorem hull_in {l:L.Sq L.Pt} (hv:L.validOutline l=true):∀ k,k<(L.hull l).n -> ∃ i,i<l.n/\l.g i=(L.hull l).g k:=fun k hk=>(hull_left (out_set (out_fine hv)) k hk).1
theorem hull_fine {l:L.Sq L.Pt} {D:Int} (hv:L.validOutline l=true) (X:L.Hd l D):L.fine (L.hull l):=by
 obtain ⟨n3,n24,hsm,hbd⟩:=validOutline_of hv
 have hle:=PArea.hl_len X.C X.K X.H
 refine ⟨X.H.m3,by omega,hull_simple X,?_,fun p hp=>?_⟩
 · unfold L.toL
   rw [List.nodup_iff_pairwise_ne,List.pairwise_map]
   refine List.Pairwise.imp_of_mem (R:=fun a b=>a<b) (fun {a b} ha hb hab e=>?_) List.pairwise_lt_range
   rw [List.mem_range] at ha hb
   have:=hull_inj' X ha hb e
   omega
 · obtain ⟨k,hk,rfl⟩:=mem_toL.1 hp
   obtain ⟨i,hi,e⟩:=hull_in hv k hk
   rw [<- e];exact hbd.2 i hi
theorem hull_valid {l:L.Sq L.Pt} {D:Int} (hv:L.validOutline l=true) (X:L.Hd l D):L.validOutline (L.hull l)=true:=by
 obtain ⟨n3,n24,hsm,hbd⟩:=validOutline_of hv
 have hf:=hull_fine hv X
 have m3:=X.H.m3
 have hle:=PArea.hl_len X.C X.K X.H
 have hn:0<(L.hull l).n:=by omega
 have HI:=(hull_is (out_set (out_fine hv))).1
 -- the area
 obtain ⟨D',hD',dv'⟩:=dv_ex (fine_dist hf)
 have C':=polyC_fine hf hD' dv'
 obtain ⟨κ,k1,hκ⟩:=PArea.Kex C'
 have sP:=PArea.area_sg C'.P hκ
 rw [area_hy _ hn] at sP
 have hk:=PArea.edge_side C' hκ (.inl rfl) 0 (fun c=>by
   rw [c3_hx]
   have e0:L.cy (L.hull l) 0=(L.hull l).g 0:=cy_nat (k:=0) hn
   have e1:L.cy (L.hull l) (0+1)=(L.hull l).g (PArea.nx (L.hull l).n 0):=cy_hull (k:=0) hn
   rw [e0,e1]
   obtain ⟨i,hi,e⟩:=hull_in hv (L.ix (L.hull l).n c) (ix_lt hn)
   obtain ⟨s,_,_,h⟩:=(hull_left (out_set (out_fine hv)) 0 hn).2
   have ec:L.cy (L.hull l) c=l.g i:=e.symm
   rw [ec]
   rcases h i hi with g | ⟨g,_,_⟩ <;> omega)
 subst hk
 have hpts:L.validPts (L.hull l)=true:=allB_iff.2 fun k hk=>by
   obtain ⟨i,hi,e⟩:=hull_in hv k hk
   rw [<- e];exact pts_valid hv i hi
 have h1:L.within ((L.hull l).n:Int) 3 24=true:=within_iff.2 ⟨by omega,by omega⟩
 unfold L.validOutline L.valid3
 rw [h1,hpts,hf.2.2.1,decide_eq_true (show 0<L.areaTo (L.hull l) (L.hull l).n by omega),Bool.and_true,allB_iff.2 (fun k hk=>?_)]
 · rfl
 · unfold L.corner
   have hprev:∃ p,p<(L.hull l).n/\L.prev (L.hull l).n k=p/\PArea.nx (L.hull l).n p=k/\p ≠ k/\PArea.nx (L.hull l).n k ≠ p:=by
     by_cases g:k=0
     · refine ⟨(L.hull l).n - 1,by omega,by rw [prev_at hk,if_pos g],?_,by omega,?_⟩
       · unfold PArea.nx;rw [if_pos (by omega),g]
       · unfold PArea.nx;rw [if_neg (by omega)];omega
     · refine ⟨k - 1,by omega,by rw [prev_at hk,if_neg g],?_,by omega,?_⟩
       · unfold PArea.nx;rw [if_neg (by omega)];omega
       · unfold PArea.nx;split <;> omega
   obtain ⟨p,p1,p2,p3,p4,p5⟩:=hprev
   have hn2:L.next (L.hull l).n k=PArea.nx (L.hull l).n k:=by rw [next_at hk];rfl
   have kk:=PArea.nx_ne (m:=(L.hull l).n) (k:=k) (by omega)
   have c:=hull_cross X p1 (PArea.nx_lt hk) p5 (by rw [p3];exact kk)
   rw [p3] at c
   rw [p2,hn2,decide_eq_false (by omega),cond_false]
   by_cases hk0:0<(k:Int)
   · rw [decide_eq_true hk0,cond_true]
     have h0:(L.hull l).g 0=L.plc l 0:=by rw [<- HI.at_ 0 hn];rfl
     have hne:=HI.first k (by omega) hk
     obtain ⟨i,hi,e⟩:=hull_in hv k hk
     have hm:=minTo_le (l:=l) (i:=l.n - 1) (j:=i) (by omega)
     rw [<- plc_min (by omega),e,<- h0] at hm
     rw [<- h0] at hne
     have:¬ 0 <= L.cmpPt ((L.hull l).g 0) ((L.hull l).g k):=fun g=>hne (cmp_anti (by omega) (by omega)).symm
     rw [decide_eq_false this];rfl
   · rw [decide_eq_false hk0];rfl
theorem right_of {l:L.Sq L.Pt} {D:Int} (hv:L.validOutline l=true) (X:L.Hd l D) {k:Nat} (hk:k<(L.hull l).n) (h:L.isPk l (L.hull l) k=true):∃ j,j<l.n/\L.cross (l.g (L.prev l.n j)) (l.g j) (l.g (L.next l.n j))<0:=by
 obtain ⟨n3,n24,hsm,hbd⟩:=validOutline_of hv
 have hn:0<l.n:=by omega
 obtain ⟨_,hc,_⟩:=valid_parts hv
 have m3:=X.H.m3
 obtain ⟨d1,d2,d3⟩:=PArea.adv_spec X.C X.H hk
 have a1:PArea.adv l.n (L.hull l).n (fun k=>L.pkFrom l (L.hull l) k) k ≠ 1:=fun e=>by
   rw [(isPk_iff hn X hk).2 e] at h;cases h
 obtain ⟨r,hr⟩:=PArea.pocket_right X.C X.K (fun i=>by
   rw [c3_hx]
   have:=sharp_cy hn hc (i+1)
   rw [show i+1 - 1=i by omega,show i+1+1=i+2 by omega] at this
   omega) (X.C.P.hy _ _ (PArea.hl_ne X.C X.H hk (PArea.nx_lt hk) (fun e=>PArea.nx_ne (m:=(L.hull l).n) (k:=k) (by omega) e.symm))) (X.H.lf k hk) (X.H.sg k hk) (by omega) d2 d3
 rw [c3_hx] at hr
 refine ⟨L.ix l.n (r+1),ix_lt hn,?_⟩
 obtain ⟨c0,c1,c2⟩:=cy_three (p:=l) (i:=L.ix l.n (r+1)) (ix_lt hn)
 rw [<- c0,<- c1,<- c2]
 have hx:=ix_emod (n:=l.n) (a:=r+1) hn
 have q0:L.cy l (((L.ix l.n (r+1):Nat):Int) - 1)=L.cy l r:=cy_per hn (by
   have:=PArea.succ_mod (n:=l.n) (a:=((L.ix l.n (r+1):Nat):Int)) (b:=r+1) (by rw [hx,Int.emod_emod]) (-1)
   rwa [show r+1 + -1=r by omega] at this)
 have q1:L.cy l ((L.ix l.n (r+1):Nat):Int)=L.cy l (r+1):=cy_per hn (by rw [hx,Int.emod_emod])
 have q2:L.cy l (((L.ix l.n (r+1):Nat):Int)+1)=L.cy l (r+2):=cy_per hn (by
   have:=PArea.succ_mod (n:=l.n) (a:=((L.ix l.n (r+1):Nat):Int)) (b:=r+1) (by rw [hx,Int.emod_emod]) 1
   rwa [show r+1+1=r+2 by omega] at this)
 rw [q0,q1,q2]
 omega
theorem no_pocket {l:L.Sq L.Pt} {D:Int} (hv:L.validOutline l=true) (X:L.Hd l D) (h:∀ k,k<(L.hull l).n->L.isPk l (L.hull l) k=false):(L.hull l).n=l.n/\(∀ k,k<l.n->(L.hull l).g k=l.g k) /\ ∀ j,j<l.n->0<L.cross (l.g (L.prev l.n j)) (l.g j) (l.g (L.next l.n j)):=by
 obtain ⟨n3,n24,hsm,hbd⟩:=validOutline_of hv
 have hn:0<l.n:=by omega
 obtain ⟨_,hc,_⟩:=valid_parts hv
 have m3:=X.H.m3
 obtain ⟨e1,e2⟩:=(PArea.hl_sum X.C X.K X.H (f:=fun _=>0) (fun _ _ _=>rfl)).2 (fun k hk=>(isPk_iff hn X hk).1 (h k hk))
 have HI:=(hull_is (out_set (out_fine hv))).1
 have h0:(L.hull l).g 0=L.plc l 0:=by rw [<- HI.at_ 0 (by omega)];rfl
 -- the first corner
 have f0:L.plc l 0=l.g 0:=by
   obtain ⟨j,hj,ej⟩:=plc_in (l:=l) (by omega)
   by_cases g:j=0
   · rw [ej,g]
   · exfalso
     have hm:=minTo_le (l:=l) (i:=l.n - 1) (j:=0) (by omega)
     rw [<- plc_min (by omega),ej] at hm
     have hcn:=by
       unfold L.validOutline at hv
       rw [Bool.and_eq_true,Bool.and_eq_true] at hv
       exact allB_iff.1 hv.2.1 j hj
     have hcn:=notT hcn
     rw [bor,Bool.or_eq_false_iff,decide_eq_true (show 0<(j:Int) by omega),cond_true] at hcn
     have:=of_decide_eq_false hcn.2
     omega
 have c0:L.pkFrom l (L.hull l) 0=0:=by
   unfold L.pkFrom
   rw [h0,f0]
   obtain ⟨i,hi,e,_,hmin⟩:=ptIdx_of (l:=l) (j:=0) hn
   rw [e];omega
 have hg:∀ k,k<l.n->(L.hull l).g k=l.g k:=fun k hk=>by
   have q:=e2 k (by omega)
   rw [c0,Int.zero_add] at q
   rw [<- X.at_ k (by omega),cy_per hn q,cy_nat hk]
 refine ⟨e1,hg,fun j hj=>?_⟩
 have pl:=prev_lt (n:=l.n) (k:=j) hn
 have lf:=X.H.lf (L.prev l.n j) (by omega) (L.pkFrom l (L.hull l) (L.next l.n j))
 have nl:=next_lt (n:=l.n) (k:=j) hn
 have en:PArea.nx (L.hull l).n (L.prev l.n j)=j:=by
   rw [e1,prev_at hj]
   unfold PArea.nx
   by_cases g:j=0
   · rw [if_pos g,if_pos (by omega),g]
   · rw [if_neg g,if_neg (by omega)];omega
 rw [en,c3_hx,X.at_ _ (by omega),X.at_ _ (by omega),X.at_ _ (by omega),hg _ pl,hg _ hj,hg _ nl] at lf
 have hs:=hc j hj
 unfold L.outAt L.cFlat at hs
 have:=of_decide_eq_false hs
 omega
theorem hull_same {l:L.Sq L.Pt} {D:Int} (hv:L.validOutline l=true) (X:L.Hd l D):(L.hull (L.cpt (L.sorted l))).n=(L.hull l).n/\(∀ k,k<(L.hull l).n->(L.hull (L.cpt (L.sorted l))).g k=(L.hull l).g k)/\L.hlE l (L.hull (L.cpt (L.sorted l))).n=0:=by
 obtain ⟨n3,n24,hsm,hbd⟩:=validOutline_of hv
 have hn:0<l.n:=by omega
 have hf:=out_fine hv
 obtain ⟨hs,hc,ha⟩:=valid_parts hv
 have H1:=(hull_is (out_set hf)).1
 obtain ⟨p1,p2,p3,p4⟩:=cpt_sorted l
 have two:L.two2 l:=⟨0,1,by omega,by omega,fun e=>by
   have:=inj_of hf.2.2.2.1 (i:=0) (k:=1) (by omega) (by omega) e
   omega⟩
 have SO:L.setOf l (L.cpt (L.sorted l)):=⟨cpt_two two,fun i k hi hk e=>by
   rcases Nat.lt_trichotomy i k with g | g | g
   · exact absurd e (slt_ne (p1 i k g hk))
   · exact g
   · exact absurd e.symm (slt_ne (p1 k i g hi)),fun i hi=>by
     obtain ⟨j,hj,e⟩:=p3 i hi
     exact ⟨j,hj,e⟩,fun j hj=>by
     obtain ⟨i,hi,e⟩:=p2 j hj
     exact ⟨i,hi,e.symm⟩⟩
 obtain ⟨H2,b2⟩:=hull_is SO
 have hle:=PArea.hl_len X.C X.K X.H
 have n1:=hull_N H1 (by omega)
 have n2:=hull_N H2 (by omega)
 have en:(L.hull (L.cpt (L.sorted l))).n=(L.hull l).n:=by omega
 refine ⟨en,fun k hk=>by rw [<- H1.at_ k hk,<- H2.at_ k (by omega)],?_⟩
 have hg:L.good l:=⟨n3,n24,allB_iff.2 (pts_valid hv),hs,hc⟩
 unfold L.hlE
 rw [decide_eq_false (show ¬ (400:Int)<(l.n:Int) by omega),hg.2.2.1,not_flat hg (fun _ h=>h),en,decide_eq_false (show ¬ (24:Int)<((L.hull l).n:Int) by omega)]
 rfl
end Go.Proofs.YtinfalehnaejbaaGreat
namespace Go.Proofs.YtinfalehnaejbaaGreat
open Go.SE Go.RowKit
set_option maxRecDepth 100000
set_option maxHeartbeats 4000000
set_option linter.unusedVariables false
attribute [local irreducible] vc
open Conf
def L.arT (l:L.Sq L.Pt) (k:Nat):Int:=PArea.sm (fun j=>L.crT l j.toNat) k
def L.arS (u:Nat->L.Pocket) (k:Nat):Int:=PArea.sm (fun j=>(u j.toNat).area) k
theorem arT_succ (l:L.Sq L.Pt) (k:Nat):L.arT l (k+1)=L.arT l k+L.crT l k:=by
 unfold L.arT;rw [PArea.sm,Int.toNat_natCast]
theorem arS_succ (u:Nat->L.Pocket) (k:Nat):L.arS u (k+1)=L.arS u k+(u k).area:=by
 unfold L.arS;rw [PArea.sm,Int.toNat_natCast]
def L.lsum:List Int->Int
 | []=>0
 | a :: r=>a+L.lsum r
theorem lsum_app:∀ a b:List Int,L.lsum (a ++ b)=L.lsum a+L.lsum b
 | [],b=>by show L.lsum b=0+L.lsum b;omega
 | x :: r,b=>by show x+L.lsum (r ++ b)=x+L.lsum r+L.lsum b;rw [lsum_app r b];omega
theorem lsum_perm {a b:List Int} (h:a.Perm b):L.lsum a=L.lsum b:=by
 induction h with
 | nil=>rfl
 | cons x _ ih=>show x+_=x+_;rw [ih]
 | swap x y l=>show y+(x+L.lsum l)=x+(y+L.lsum l);omega
 | trans _ _ i1 i2=>exact i1.trans i2
theorem arS_list (u:Nat->L.Pocket):∀ k,L.arS u k=L.lsum (((List.range k).map u).map (fun p=>p.area))
 | 0=>rfl
 | k+1=>by
   rw [arS_succ,arS_list u k,List.range_succ,List.map_append,List.map_append,lsum_app]
   show _=_+((u k).area+0)
   omega
theorem arS_perm {u w:Nat->L.Pocket} {k:Nat} (h:((List.range k).map u).Perm ((List.range k).map w)):L.arS u k=L.arS w k:=by
 rw [arS_list,arS_list]
 exact lsum_perm (h.map _)
theorem crT_bd {l:L.Sq L.Pt} (hv:L.validOutline l=true) {k:Nat} (h:k+3 <= l.n) : -33554432 <= L.crT l k/\L.crT l k <= 33554432:=by
 obtain ⟨t1,t2,t3,t4,t5⟩:=trg_ok h
 rw [<- t5]
 have vp:∀ i,i<l.n->0 <= (l.g i).x/\(l.g i).x <= 4096/\0 <= (l.g i).y/\(l.g i).y <= 4096:=fun i hi=>pt_rng (pts_valid hv i hi)
 have a:=vp (L.trg l k).a.toNat (by omega)
 have b:=vp (L.trg l k).b.toNat (by omega)
 have c:=vp (L.trg l k).c.toNat (by omega)
 generalize l.g (L.trg l k).a.toNat=p at *
 generalize l.g (L.trg l k).b.toNat=q at *
 generalize l.g (L.trg l k).c.toNat=r at *
 unfold L.cross
 have m:∀ u w:Int,-4096 <= u->u <= 4096 -> -4096 <= w->w <= 4096 -> -16777216 <= u * w/\u * w <= 16777216:=fun u w u0 u1 w0 w1=>by
   have a1:=Int.mul_nonneg (show 0 <= 4096 - u by omega) (show 0 <= 4096+w by omega)
   have a2:=Int.mul_nonneg (show 0 <= 4096+u by omega) (show 0 <= 4096 - w by omega)
   have a3:=Int.mul_nonneg (show 0 <= 4096 - u by omega) (show 0 <= 4096 - w by omega)
   have a4:=Int.mul_nonneg (show 0 <= 4096+u by omega) (show 0 <= 4096+w by omega)
   have e1:(4096 - u) * (4096+w)=16777216+4096 * w - 4096 * u - u * w:=by grind
   have e2:(4096+u) * (4096 - w)=16777216 - 4096 * w+4096 * u - u * w:=by grind
   have e3:(4096 - u) * (4096 - w)=16777216 - 4096 * w - 4096 * u+u * w:=by grind
   have e4:(4096+u) * (4096+w)=16777216+4096 * w+4096 * u+u * w:=by grind
   omega
 have m1:=m (q.x - p.x) (r.y - p.y) (by omega) (by omega) (by omega) (by omega)
 have m2:=m (q.y - p.y) (r.x - p.x) (by omega) (by omega) (by omega) (by omega)
 omega
theorem arT_bd {l:L.Sq L.Pt} (hv:L.validOutline l=true):∀ k,k+2 <= l.n -> -(33554432 * (k:Int)) <= L.arT l k/\L.arT l k <= 33554432 * (k:Int)
 | 0,_=>⟨Int.le_refl _,Int.le_refl _⟩
 | k+1,h=>by
   have ih:=arT_bd hv k (by omega)
   have c:=crT_bd hv (k:=k) (by omega)
   rw [arT_succ]
   omega
theorem valid_ext {x y:L.Sq L.Pt} (hn:y.n=x.n) (hg:∀ k,k<x.n->y.g k=x.g k) (hv:L.validOutline x=true):L.validOutline y=true/\L.areaTo y y.n=L.areaTo x x.n:=by
 obtain ⟨n3,n24,_,_⟩:=validOutline_of hv
 obtain ⟨hs,hc,ha⟩:=valid_parts hv
 have et:L.toL x=L.toL y:=by
   unfold L.toL
   rw [hn]
   refine List.map_congr_left fun k hk=>(hg k (List.mem_range.1 hk)).symm
 have ea:=area_rot (x:=x) (y:=y) (by omega) (et ▸ Rot.refl _)
 refine ⟨?_,ea⟩
 have h1:L.within (y.n:Int) 3 24=true:=within_iff.2 ⟨by omega,by omega⟩
 have hp:L.validPts y=true:=allB_iff.2 fun k hk=>by rw [hg k (by omega)];exact pts_valid hv k (by omega)
 unfold L.validOutline at hv
 rw [Bool.and_eq_true,Bool.and_eq_true] at hv
 unfold L.validOutline L.valid3
 rw [h1,hp,simple_rot (by omega) hs (et ▸ Rot.refl _),decide_eq_true (show 0<L.areaTo y y.n by omega),Bool.and_true,allB_iff.2 (fun k hk=>?_)]
 · rfl
 · have:=allB_iff.1 hv.2.1 k (by omega)
   unfold L.corner at this ⊢
   have pl:=prev_lt (n:=x.n) (k:=k) (by omega)
   have nl:=next_lt (n:=x.n) (k:=k) (by omega)
   rw [hn,hg _ pl,hg k (by omega),hg _ nl,hg 0 (by omega)]
   exact this
theorem pk_bd {l:L.Sq L.Pt} {D:Int} (hv:L.validOutline l=true) (X:L.Hd l D) {k:Nat} (hk:k<(L.hull l).n) : -1000000000000000 <= (L.pk l (L.hull l) k).area/\(L.pk l (L.hull l) k).area <= 1000000000000000:=by
 obtain ⟨n3,n24,hsm,hbd⟩:=validOutline_of hv
 have hn:0<l.n:=by omega
 obtain ⟨e,⟨a0,a1⟩,b0,b1⟩:=pk_facts hn X hk
 obtain ⟨d1,d2,d3⟩:=PArea.adv_spec X.C X.H hk
 have al:=adv_len hn a0 a1 b0 e
 have en:(L.pkRow l (L.pkFrom l (L.hull l) k) (L.pkTo l (L.hull l) k)).n <= 24:=by
   show L.pkLen l.n (L.pkFrom l (L.hull l) k) (L.pkTo l (L.hull l) k)+1 <= 24
   omega
 have sm:L.small (L.pkRow l (L.pkFrom l (L.hull l) k) (L.pkTo l (L.hull l) k)):=⟨by omega,fun i hi=>by
   have hb:=back_bd (n:=l.n) (to_:=L.pkTo l (L.hull l) k) hn b0 (j:=i) (by have hi:i<L.pkLen l.n (L.pkFrom l (L.hull l) k) (L.pkTo l (L.hull l) k)+1:=hi;omega)
   exact hbd.2 (L.back l.n (L.pkTo l (L.hull l) k) i).toNat (by omega)⟩
 have:=areaTo_bd sm _ (Nat.le_refl _)
 have ea:(L.pk l (L.hull l) k).area=L.areaTo (L.pkRow l (L.pkFrom l (L.hull l) k) (L.pkTo l (L.hull l) k)) (L.pkRow l (L.pkFrom l (L.hull l) k) (L.pkTo l (L.hull l) k)).n:=rfl
 rw [ea]
 omega
theorem sel_lt {p:Nat->Bool}:∀ {m i:Nat},i<L.cnt p m->L.selN p m i<m/\p (L.selN p m i)=true
 | 0,i,h=>absurd h (Nat.not_lt_zero _)
 | m+1,i,h=>by
   cases hp:p m with
   | true =>
     rw [cnt_yes hp] at h
     by_cases e:i=L.cnt p m
     · rw [e,selN_new hp];exact ⟨by omega,hp⟩
     · rw [selN_old e]
       obtain ⟨h1,h2⟩:=sel_lt (p:=p) (m:=m) (i:=i) (by omega)
       exact ⟨by omega,h2⟩
   | false =>
     rw [cnt_not hp] at h
     rw [selN_old (by omega)]
     obtain ⟨h1,h2⟩:=sel_lt (p:=p) (m:=m) h
     exact ⟨by omega,h2⟩
theorem cnt_pos {p:Nat->Bool}:∀ {m:Nat},0<L.cnt p m ↔ ∃ k,k<m/\p k=true
 | 0=>⟨fun h=>absurd h (Nat.lt_irrefl _),fun ⟨_,h,_⟩=>absurd h (Nat.not_lt_zero _)⟩
 | m+1=>by
   cases hp:p m with
   | true=>rw [cnt_yes hp];exact ⟨fun _=>⟨m,by omega,hp⟩,fun _=>by omega⟩
   | false =>
     rw [cnt_not hp,cnt_pos (m:=m)]
     exact ⟨fun ⟨k,h1,h2⟩=>⟨k,by omega,h2⟩,fun ⟨k,h1,h2⟩=>by
       by_cases e:k=m
       · rw [e,hp] at h2;cases h2
       · exact ⟨k,by omega,h2⟩⟩
theorem arS_bd {u:Nat->L.Pocket} {n:Nat} (h:∀ j,j<n -> -1000000000000000 <= (u j).area/\(u j).area <= 1000000000000000):∀ k,k <= n -> -(1000000000000000 * (k:Int)) <= L.arS u k/\L.arS u k <= 1000000000000000 * (k:Int)
 | 0,_=>⟨Int.le_refl _,Int.le_refl _⟩
 | k+1,hk=>by
   have ih:=arS_bd h k (by omega)
   have c:=h k (by omega)
   rw [arS_succ]
   omega
theorem right_iff {l:L.Sq L.Pt} {D:Int} (hv:L.validOutline l=true) (X:L.Hd l D):L.anyB l.n (fun j=>decide (L.bend l j<0))=decide ((0:Int)<(L.pkN l:Int))/\(L.anyB l.n (fun j=>decide (L.bend l j<0))=false->L.sameP (L.hull (L.cpt (L.sorted l))) l=true):=by
 have eN:L.pkN l=L.cnt (L.isPk l (L.hull l)) (L.hull l).n:=by unfold L.pkN;rw [hv];rfl
 have neg:∀ c:Int,L.cmp c 0<0 ↔ c<0:=fun c=>by
   unfold L.cmp
   by_cases h1:c<0
   · rw [decide_eq_true h1];exact ⟨fun _=>h1,fun _=>by rw [cond_true];decide⟩
   · rw [decide_eq_false h1]
     refine ⟨fun h=>?_,fun h=>absurd h h1⟩
     by_cases h2:0<c
     · rw [decide_eq_true h2] at h;exact absurd h (by decide)
     · rw [decide_eq_false h2] at h;exact absurd h (by decide)
 by_cases hp:∃ k,k<(L.hull l).n/\L.isPk l (L.hull l) k=true
 · obtain ⟨k,hk,hpk⟩:=hp
   obtain ⟨j,hj,hc⟩:=right_of hv X hk hpk
   have h1:L.anyB l.n (fun j=>decide (L.bend l j<0))=true:=anyB_iff.2 ⟨j,hj,decide_eq_true ((neg _).2 hc)⟩
   have h2:0<L.pkN l:=by rw [eN];exact cnt_pos.2 ⟨k,hk,hpk⟩
   rw [h1,decide_eq_true (show (0:Int)<(L.pkN l:Int) by omega)]
   exact ⟨rfl,fun h=>(by cases h)⟩
 · have none : ∀ k, k < (L.hull l).n -> L.isPk l (L.hull l) k = false := fun k hk => by
     cases h:L.isPk l (L.hull l) k with
     | true=>exact absurd ⟨k,hk,h⟩ hp
     | false=>rfl
   obtain ⟨e1,e2,e3⟩:=no_pocket hv X none
   have h1:L.anyB l.n (fun j=>decide (L.bend l j<0))=false:=anyB_no fun j hj=>decide_eq_false fun h=>by
     have:=(neg _).1 h
     have:=e3 j hj
     omega
   have h2:¬ 0<L.pkN l:=by rw [eN];exact fun h=>hp (cnt_pos.1 h)
   rw [h1,decide_eq_false (show ¬ (0:Int)<(L.pkN l:Int) by omega)]
   refine ⟨rfl,fun _=>?_⟩
   obtain ⟨s1,s2,_⟩:=hull_same hv X
   refine sameP_of ?_
   unfold L.toL
   rw [s1,e1]
   exact List.map_congr_left fun k hk=>by
     have hk:=List.mem_range.1 hk
     rw [s2 k (by omega),e2 k hk]
def p_VO2_p (l:(L.Sq L.Pt)):Prop:=l.n <= 9223372036854775807
def p_VO2_r (l:(L.Sq L.Pt)):SV:=.bool (L.validOutline l)
def p_VO2_s:List EV->Option (Prop × SV)
 | [.p (.sl 2 l_n l_g)]=>some ((∀ i,i<l_n->l_g i = [.int .i64 ((ofPt (l_g i)).x),.int .i64 ((ofPt (l_g i)).y)])/\p_VO2_p (⟨l_n,fun i=>ofPt (l_g i)⟩:(L.Sq L.Pt)),p_VO2_r (⟨l_n,fun i=>ofPt (l_g i)⟩:(L.Sq L.Pt)))
 | _=>none
abbrev p_VO2_S:SE.Spec:=(specO p_VO2_s)
def p_VO2_C:Cfg:={ cC with specs:=lookS [(37,p_within_S),(19,p_valid_S),(16,p_area_S),(26,p_triples_S),(31,p_cross_S),(25,p_compare_S),(42,p_simple_S)],iters:=lookI [(56,p_triples1_it)] }
theorem p_VO2_vc (l:(L.Sq L.Pt)) (hp:p_VO2_p l):vc Tryz.prog ({ p_VO2_C with loops:=lookL [],rfs:=lookR [(4,{ T:=Nat,keep:=[1,2],keepO:=[2],own:=fun k _=>[],inv:=fun k _=>∀ j,j<k->L.corner l j=true })] }) (bodyOf Tryz.f15) (st0 Tryz.f15 [.p (.sl 2 l.n (fun i=>[.int .i64 ((l.g i).x),.int .i64 ((l.g i).y)]))]) (retFn Tryz.prog Tryz.f15 (p_VO2_r l)) :=
 @Eq.mpr _ (let I:=SV.int .i64;let T:=Int.toNat;let M:=Int.tmod;let A17:=(nat_lit 1);let A16:=(nat_lit 0);let A14:=(1:Int);let A13:=(nat_lit 2);let A12:=(↑(3:Nat):Int);let A10:=(↑l.n:Int);let A9:=(L.Sq.mk l.n fun (i:Nat)=>l.g i);let A8:=(0:Int);let A5:=[SV.sl A13 l.n fun (i:Nat)=>[I (l.g i).x,I (l.g i).y]];let A4:=(bif bif !L.within A10 (3:Int) (24:Int) then true else !L.allB l.n fun (i:Nat)=>L.validPt (l.g i) then true else decide (L.areaTo (L.Sq.mk l.n fun (i:Nat)=>l.g i) l.n <= A8));let A3:=(∀ (i:Nat),let A18:=[I (l.g i).x,I (l.g i).y];i<l.n->A18=A18);let A19:=(A3/\l.n <= (1000:Nat));True/\((!!L.within A10 (3:Int) (24:Int))=true->A3/\l.n <= (1000000:Nat))/\((!bif !L.within A10 (3:Int) (24:Int) then true else !L.allB l.n fun (i:Nat)=>L.validPt (l.g i))=true->A3/\L.small A9)/\(A4=true->false=L.validOutline l)/\(A4=false->A19/\(A19 /\ ∃ (t:Nat),false=false /\ ∀ (j:Nat),j<(0:Nat)->L.corner l j=true)/\(∀ (k t:Nat) (vk:Nat->Go.Value),let A15:=(↑k:Int);let A11:=(l.g (T A15));let A7:=(l.g (T (M (A15+A14) A10)));let A6:=(l.g (T (M (A15+A10 - A14) A10)));let A2:=(bif decide (L.cross A6 A11 A7=A8) then true else bif decide (A8<A15) then decide (A8 <= L.cmpPt (l.g (T A8)) A11) else false);let A1:=(!decide (L.cross A6 A11 A7=A8) && decide (A8<A15));k<l.n->(∀ (j:Nat),j<k->L.corner l j=true)->(A8 <= A8/\A8<A12)/\(A8 <= A14/\A14<A12)/\(A8 <= (2:Int)/\(2:Int)<A12)/\(L.bd A6/\L.bd A11/\L.bd A7)/\(A1=true->A8 <= A8/\A8<A10)/\(A1=true->A8 <= A14/\A14<A12)/\(A1=true->True)/\(A2=true->nat_lit 0=nat_lit 0/\SV.ref A5 A16=SV.ref A5 A16/\vk A13=vk A13/\vk A17=vk A17/\false=L.validOutline l)/\(A2=false -> ∃ (t':Nat),nat_lit 0=nat_lit 0/\SV.ref A5 A16=SV.ref A5 A16/\vk A13=vk A13/\vk A17=vk A17/\false=false /\ ∀ (j:Nat),j<k+(1:Nat)->L.corner l j=true)) /\ ∀ (t:Nat),(∀ (j:Nat),j<l.n->L.corner l j=true)->(A3/\L.allBd A9)/\L.simple A9=L.validOutline l)) (by kernel_rfl) (by
 conv=>zeta
 have hn:l.n <= 9223372036854775807:=hp
 have e3:=valid3_eq l
 refine ⟨trivial,fun hw=>⟨fun _ _=>rfl,by have:=within_iff.1 (notF (notT hw));omega⟩,fun h=>⟨fun _ _=>rfl,?_⟩,fun h=>?_,fun h=>?_⟩
 · cases h1:L.within (l.n:Int) 3 24 with
   | false=>simp [h1] at h
   | true=>cases h2:L.validPts l with
     | false=>rw [h1] at h;rw [show (L.allB l.n fun i=>L.validPt (l.g i))=false from h2] at h;simp at h
     | true=>exact (valid3_spec h1 h2).2.2.1
 · have h:=e3.symm.trans h
   have:L.valid3 l=false:=by simpa using h
   unfold L.validOutline;rw [this];rfl
 · have h:=e3.symm.trans h
   have hv:L.valid3 l=true:=by simpa using h
   obtain ⟨n3,n24,hsm,hbd⟩:=valid3_of hv
   refine ⟨⟨fun _ _=>rfl,by omega⟩,⟨⟨fun _ _=>rfl,by omega⟩,(0:Nat),rfl,fun j hj=>absurd hj (Nat.not_lt_zero _)⟩,fun k t vk hk hi=>?_,fun t hi=>?_⟩
   · have c1:(Int.tmod ((k:Int)+(l.n:Int) - 1) (l.n:Int)).toNat=L.prev l.n k:=rfl
     have c2:((k:Int)).toNat=k:=by omega
     have c3:(Int.tmod ((k:Int)+1) (l.n:Int)).toNat=L.next l.n k:=rfl
     rw [c1,c2,c3]
     have key:(bif decide (L.cross (l.g (L.prev l.n k)) (l.g k) (l.g (L.next l.n k))=0) then true else bif decide (0<(k:Int)) then decide (0 <= L.cmpPt (l.g (Int.toNat 0)) (l.g k)) else false) = !L.corner l k:=by
       unfold L.corner;rw [Bool.not_not];rfl
     rw [key]
     refine ⟨by omega,by omega,by omega,⟨hbd.2 _ (prev_lt (by omega)),hbd.2 _ hk,hbd.2 _ (next_lt (by omega))⟩,fun _=>by omega,fun _=>by omega,fun _=>trivial,fun h=>⟨rfl,rfl,rfl,rfl,?_⟩,fun h=>⟨t,rfl,rfl,rfl,rfl,rfl,fun j hj=>?_⟩⟩
     · have:L.corner l k=false:=by simpa using h
       unfold L.validOutline
       rw [allB_false hk this];simp
     · rcases Nat.lt_succ_iff_lt_or_eq.1 hj with h' | rfl
       · exact hi j h'
       · simpa using h
   · refine ⟨⟨fun _ _=>rfl,hbd⟩,?_⟩
     unfold L.validOutline
     rw [hv,allB_iff.2 hi];rfl)
theorem p_VO2_ok:SpecOk Tryz.prog 15 p_VO2_S:=fnX Tryz.func15 (c:=bodyOf Tryz.f15) (by kernel_rfl) mixed (fun args p r hs hp=>by
 unfold p_VO2_s at hs
 split at hs
 · cases hs;exact ⟨_,_,p_VO2_vc _ hp.2,(.p (.sl hp.1) .nil),⟨show SpecsL Tryz.prog _ from (SpecsL.cons p_within_ok p_within_en (SpecsL.cons p_valid_ok p_valid_en (SpecsL.cons p_area_ok p_area_en (SpecsL.cons p_triples_ok p_triples_en (SpecsL.cons p_cross_ok p_cross_en (SpecsL.cons p_compare_ok p_compare_en (SpecsL.cons p_simple_ok p_simple_en SpecsL.nil))))))),rfl,⟨show ItersL Tryz.prog _ from (ItersL.cons p_triples1_itok p_triples1_en ItersL.nil),(TrsOk.none (fun _=>rfl))⟩⟩⟩
 · cases hs)
theorem p_VO2_en:Enters Tryz.prog 15:=fun args w=>by kernel_rfl
def p_Area2_p (l:(L.Sq L.Pt)):Prop:=l.n <= 9223372036854775807
def p_Area2_r (l:(L.Sq L.Pt)):SV:=.tup [.int .i64 (bif L.validOutline l then L.areaTo l l.n else 0),.int .i64 (bif L.validOutline l then 0 else 1)]
def p_Area2_s:List EV->Option (Prop × SV)
 | [.p (.sl 2 l_n l_g)]=>some ((∀ i,i<l_n->l_g i = [.int .i64 ((ofPt (l_g i)).x),.int .i64 ((ofPt (l_g i)).y)])/\p_Area2_p (⟨l_n,fun i=>ofPt (l_g i)⟩:(L.Sq L.Pt)),p_Area2_r (⟨l_n,fun i=>ofPt (l_g i)⟩:(L.Sq L.Pt)))
 | _=>none
abbrev p_Area2_S:SE.Spec:=(specO p_Area2_s)
def p_Area2_C:Cfg:={ cC with specs:=lookS [(15,p_VO2_S),(16,p_area_S)] }
theorem p_Area2_vc (l:(L.Sq L.Pt)) (hp:p_Area2_p l):vc Tryz.prog (p_Area2_C) (bodyOf Tryz.f5) (st0 Tryz.f5 [.p (.sl 2 l.n (fun i=>[.int .i64 ((l.g i).x),.int .i64 ((l.g i).y)]))]) (retFn Tryz.prog Tryz.f5 (p_Area2_r l)) :=
 @Eq.mpr _ (let I:=SV.int .i64;let A3:=(0:Int);let A2:=(∀ (i:Nat),let A4:=[I (l.g i).x,I (l.g i).y];i<l.n->A4=A4);let A1:=(L.Sq.mk l.n fun (i:Nat)=>l.g i);(A2/\l.n <= (9223372036854775807:Nat))/\((!L.validOutline A1)=true->(A3=bif L.validOutline l then L.areaTo l l.n else A3)/\(1:Int)=bif L.validOutline l then A3 else (1:Int))/\((!L.validOutline A1)=false->(A2/\L.small A1)/\(L.areaTo A1 l.n=bif L.validOutline l then L.areaTo l l.n else A3)/\A3=bif L.validOutline l then A3 else (1:Int))) (by kernel_rfl) (by
 conv=>zeta
 have hn:l.n <= 9223372036854775807:=hp
 refine ⟨⟨fun _ _=>rfl,hn⟩,fun h=>?_,fun h=>?_⟩
 · have hv:L.validOutline l=false:=by simpa using (show (!L.validOutline l)=true from h)
   rw [hv];exact ⟨rfl,rfl⟩
 · have hv:L.validOutline l=true:=by simpa using (show (!L.validOutline l)=false from h)
   rw [hv];exact ⟨⟨fun _ _=>rfl,(validOutline_of hv).2.2.1⟩,rfl,rfl⟩)
theorem p_Area2_ok:SpecOk Tryz.prog 5 p_Area2_S:=fnX Tryz.func5 (c:=bodyOf Tryz.f5) (by kernel_rfl) mixed (fun args p r hs hp=>by
 unfold p_Area2_s at hs
 split at hs
 · cases hs;exact ⟨_,_,p_Area2_vc _ hp.2,(.p (.sl hp.1) .nil),⟨show SpecsL Tryz.prog _ from (SpecsL.cons p_VO2_ok p_VO2_en (SpecsL.cons p_area_ok p_area_en SpecsL.nil)),rfl,⟨show ItersL Tryz.prog _ from ItersL.nil,(TrsOk.none (fun _=>rfl))⟩⟩⟩
 · cases hs)
theorem p_Area2_en:Enters Tryz.prog 5:=fun args w=>by kernel_rfl
def w_Areas_p (l:(L.Sq L.Pt)) (u:Int) (v:Int):Prop:=l.n <= 9223372036854775807
def w_Areas_r (l:(L.Sq L.Pt)) (u:Int) (v:Int):SV:=.bool true
def w_Areas_s:List EV->Option (Prop × SV)
 | [.p (.sl 2 l_n l_g),.p (.int .i64 u),.p (.int .i64 v)]=>some ((∀ i,i<l_n->l_g i = [.int .i64 ((ofPt (l_g i)).x),.int .i64 ((ofPt (l_g i)).y)])/\w_Areas_p (⟨l_n,fun i=>ofPt (l_g i)⟩:(L.Sq L.Pt)) u v,w_Areas_r (⟨l_n,fun i=>ofPt (l_g i)⟩:(L.Sq L.Pt)) u v)
 | _=>none
abbrev w_Areas_S:SE.Spec:=(specO w_Areas_s)
def w_Areas_C:Cfg:={ cC with specs:=lookS [(4,w_awake_S),(5,p_Area2_S),(6,p_Triangles_S),(7,r1_Cross_S),(8,p_Hull_S),(9,p_Pockets_S),(10,p_Bends_S),(11,r1_SamePoints_S),(12,p_Split_S)] }
theorem w_Areas_vc (l:(L.Sq L.Pt)) (u:Int) (v:Int) (hp:w_Areas_p l u v):vc Tryz.prog ({ w_Areas_C with loops:=lookL [(10,{ T:=Nat,keep:=[0,1,2,7,8,10],keepO:=[],chg:=fun i=>[(12,.p (.int .i64 (L.arT l i))),(13,.p (.int .i64 (i:Int)))],own:=fun _=>[],inv:=fun i=>i <= l.n - 2,mu:=fun i=>l.n - 2 - i }),(22,{ T:=Nat × (Nat->L.Pocket),keep:=[0,1,2,7,8,15,19],keepO:=[],tie:=fun g=>[(19,.sl 3 (L.pkN l) (fun i=>[.int .i64 ((g.2 i).fr),.int .i64 ((g.2 i).to_),.int .i64 ((g.2 i).area)]))],chg:=fun g=>[(17,.p (.int .i64 (L.areaTo (L.hull l) (L.hull l).n - L.arS g.2 g.1))),(21,.p (.int .i64 (g.1:Int)))],own:=fun _=>[],inv:=fun g=>g.1 <= L.pkN l/\L.arS g.2 (L.pkN l)=L.areaTo (L.hull l) (L.hull l).n - L.areaTo l l.n /\ ∀ j,j<L.pkN l -> -1000000000000000 <= (g.2 j).area/\(g.2 j).area <= 1000000000000000,mu:=fun g=>L.pkN l - g.1 }),(28,{ T:=Nat,keep:=[0,1,2,7,8,15,17,19,22,23],keepO:=[],chg:=fun i=>[(24,.p (.bool (L.anyB i (fun j=>decide (L.bend l j<0))))),(25,.p (.int .i64 (i:Int)))],own:=fun _=>[],inv:=fun i=>i <= l.n,mu:=fun i=>l.n - i })],rfs:=lookR [] }) (bodyOf Tryz.f3) (st0 Tryz.f3 [.p (.sl 2 l.n (fun i=>[.int .i64 ((l.g i).x),.int .i64 ((l.g i).y)])),.p (.int .i64 u),.p (.int .i64 v)]) (retFn Tryz.prog Tryz.f3 (w_Areas_r l u v)) :=
 @Eq.mpr _ (let I:=SV.int .i64;let T:=Int.toNat;let A63:=(2:Nat);let A49:=(1000000000000000:Int);let A47:=(-1000000000000000:Int);let A40:=(0:Nat);let A37:=(9223372036854775807:Nat);let A36:=(1:Int);let A31:=(↑l.n:Int);let A26:=(L.hull l);let A20:=(l.n=l.n /\ ∀ (i:Nat),let A65:=[I (l.g i).x,I (l.g i).y];i<l.n->A65=A65);let A12:=(∀ (i:Nat),let A66:=[I (l.g i).x,I (l.g i).y];i<l.n->A66=A66);let A30:=(A12/\l.n <= (1000000:Nat));let A6:=(0:Int);let A1:=(L.Sq.mk l.n fun (i:Nat)=>l.g i);let A50:=(!decide (L.spErr A1 u v=A6));let A43:=(↑(L.trN A1):Int);let A38:=(↑(L.pkN A1):Int);let A29:=(L.hull (L.cpt (L.sorted A1)));let A27:=(bif L.validOutline A1 then l.n else A40);let A67:=(↑A27:Int);let A25:=(bif decide (L.spErr A1 u v=A6) then (L.spA A1 u v).n else A40);let A24:=(bif decide (L.spErr A1 u v=A6) then (L.spB A1 u v).n else A40);let A19:=((bif L.validOutline A1 then L.areaTo A1 l.n else A6)=bif L.validOutline A1 then L.areaTo A1 l.n else A6);let A14:=(bif L.validOutline A1 then A6 else A36);let A34:=(bif decide ((60:Int)<A31) then true else !decide (A14=A6));let A28:=(bif !decide (A14=A6) then true else !decide (A43=A31 - (2:Int)));let A3:=(bif decide (L.hlE A1 A29.n=A6) then A29.n else A40);True/\(A12/\l.n <= A37)/\(A34=true->true=true)/\(A34=false->A30/\((!!decide (A14=A6))=true->InK .i64 (A31 - (2:Int)))/\(A28=true->false=true)/\(A28=false->(∃ (g:Nat),A6=L.arT l g/\A6=(↑g:Int)/\g <= l.n - A63) /\ ∀ (g:Nat),let A48:=(↑g:Int);let A32:=(L.Sq.mk A3 fun (i:Nat)=>(L.hull (L.cpt (L.sorted (L.Sq.mk l.n fun (i:Nat)=>l.g i)))).g i);let A13:=(bif bif bif !decide (L.arT l g=bif L.validOutline A1 then L.areaTo A1 l.n else A6) then true else !decide (L.hlE A1 A29.n=A6) then true else !decide ((bif L.validOutline A32 then A6 else A36)=A6) then true else !decide (A14=A6));let A11:=(L.Sq.mk A24 fun (i:Nat)=>(L.spB (L.Sq.mk l.n fun (i:Nat)=>l.g i) u v).g i);let A52:=(bif L.validOutline A11 then A6 else A36);let A10:=(L.Sq.mk A25 fun (i:Nat)=>(L.spA (L.Sq.mk l.n fun (i:Nat)=>l.g i) u v).g i);let A51:=(bif L.validOutline A10 then A6 else A36);let A9:=(∀ (i:Nat),let A54:=(L.Sq.mk l.n fun (i:Nat)=>l.g i);let A16:=(L.hull (L.cpt (L.sorted A54)));let A59:=[I (A16.g i).x,I (A16.g i).y];(i<bif decide (L.hlE A54 A16.n=A6) then A16.n else A40)->A59=A59);let A5:=((A3=bif decide (L.hlE A1 A29.n=A6) then A29.n else A40) /\ ∀ (i:Nat),let A55:=(L.Sq.mk l.n fun (i:Nat)=>l.g i);let A17:=(L.hull (L.cpt (L.sorted A55)));let A60:=[I (A17.g i).x,I (A17.g i).y];(i<bif decide (L.hlE A55 A17.n=A6) then A17.n else A40)->A60=A60);let A4:=((bif L.validOutline A10 then L.areaTo A10 A25 else A6)+bif L.validOutline A11 then L.areaTo A11 A24 else A6);let A2:=(L.trg A1 (T A48));let A46:=(l.g (T A2.c));let A45:=(l.g (T A2.b));let A44:=(l.g (T A2.a));let A15:=(bif bif bif bif decide (A2.a<A6) then true else decide (A2.b <= A2.a) then true else decide (A2.c <= A2.b) then true else decide (A31 <= A2.c) then true else decide (L.cross A44 A45 A46 <= A6));let A7:=(!bif bif bif decide (A2.a<A6) then true else decide (A2.b <= A2.a) then true else decide (A2.c <= A2.b) then true else decide (A31 <= A2.c));g <= l.n - A63->(decide (A48<A43)=true->(A6 <= A48/\A48<A43)/\(A7=true->A6 <= A2.a/\A2.a<A31)/\(A7=true->A6 <= A2.b/\A2.b<A31)/\(A7=true->A6 <= A2.c/\A2.c<A31)/\(A7=true->L.bd A44/\L.bd A45/\L.bd A46)/\(A15=true->false=true)/\(A15=false->(A6 <= A2.a/\A2.a<A31)/\(A6 <= A2.b/\A2.b<A31)/\(A6 <= A2.c/\A2.c<A31)/\(L.bd A44/\L.bd A45/\L.bd A46)/\InK .i64 (L.arT l g+L.cross A44 A45 A46)/\InK .i64 (A48+A36) /\ ∃ (g':Nat),L.arT l g+L.cross A44 A45 A46=L.arT l g'/\A48+A36=(↑g':Int)/\(L.trN A1=L.trN A1 /\ ∀ (i:Nat),let A56:=(L.Sq.mk l.n fun (i:Nat)=>l.g i);let A18:=(L.trg A56 i);let A64:=[I A18.a,I A18.b,I A18.c];i<L.trN A56->A64=A64)/\A19/\true=true/\A20/\u=u/\v=v/\g' <= l.n - A63/\l.n - A63 - g'<l.n - A63 - g))/\(decide (A48<A43)=false->A30/\(A9/\A3 <= A37)/\A30 /\ ∀ (t:Nat->L.Pocket),let A23:=(L.pkN A1=L.pkN A1 /\ ∀ (i:Nat),let A53:=[I (t i).fr,I (t i).to_,I (t i).area];i<L.pkN (L.Sq.mk l.n fun (i:Nat)=>l.g i)->A53=A53);(L.validOutline A1=true->SortedBy L.cmpFr (L.pks A1).n (L.pks A1).g t)->(A13=true->false=true)/\(A13=false->(∃ (g:Nat × (Nat->L.Pocket)),let A33:=(L.Sq.mk A3 fun (i:Nat)=>(L.hull (L.cpt (L.sorted (L.Sq.mk l.n fun (i:Nat)=>l.g i)))).g i);(bif L.validOutline A33 then L.areaTo A33 A3 else A6)=L.areaTo A26 A26.n - L.arS g.2 g.1/\A6=(↑g.1:Int)/\(L.pkN A1=L.pkN l /\ ∀ (i:Nat),i<L.pkN (L.Sq.mk l.n fun (i:Nat)=>l.g i) -> [I (t i).fr,I (t i).to_,I (t i).area] = [I (g.2 i).fr,I (g.2 i).to_,I (g.2 i).area])/\g.1 <= L.pkN l/\L.arS g.2 (L.pkN l)=L.areaTo A26 A26.n - L.areaTo l l.n /\ ∀ (j:Nat),j<L.pkN l->A47 <= (g.2 j).area/\(g.2 j).area <= A49) /\ ∀ (g_1:Nat × (Nat->L.Pocket)),let A35:=(↑g_1.1:Int);((L.pkN A1=L.pkN l /\ ∀ (i:Nat),i<L.pkN (L.Sq.mk l.n fun (i:Nat)=>l.g i) -> [I (t i).fr,I (t i).to_,I (t i).area] = [I (g_1.2 i).fr,I (g_1.2 i).to_,I (g_1.2 i).area])/\g_1.1 <= L.pkN l/\L.arS g_1.2 (L.pkN l)=L.areaTo A26 A26.n - L.areaTo l l.n /\ ∀ (j:Nat),j<L.pkN l->A47 <= (g_1.2 j).area/\(g_1.2 j).area <= A49)->(decide (A35<A38)=true->(A6 <= A35/\A35<A38)/\InK .i64 (L.areaTo A26 A26.n - L.arS g_1.2 g_1.1 - (t (T A35)).area)/\InK .i64 (A35+A36) /\ ∃ (g':Nat × (Nat->L.Pocket)),L.areaTo A26 A26.n - L.arS g_1.2 g_1.1 - (t (T A35)).area=L.areaTo A26 A26.n - L.arS g'.2 g'.1/\A35+A36=(↑g'.1:Int)/\A23/\A5/\A19/\true=true/\A20/\u=u/\v=v/\((L.pkN A1=L.pkN l /\ ∀ (i:Nat),i<L.pkN (L.Sq.mk l.n fun (i:Nat)=>l.g i) -> [I (t i).fr,I (t i).to_,I (t i).area] = [I (g'.2 i).fr,I (g'.2 i).to_,I (g'.2 i).area])/\g'.1 <= L.pkN l/\L.arS g'.2 (L.pkN l)=L.areaTo A26 A26.n - L.areaTo l l.n /\ ∀ (j:Nat),j<L.pkN l->A47 <= (g'.2 j).area/\(g'.2 j).area <= A49)/\L.pkN l - g'.1<L.pkN l - g_1.1)/\(decide (A35<A38)=false->A30/\(∃ (g:Nat),(false=L.anyB g fun (j:Nat)=>decide (L.bend l j<A6))/\A6=(↑g:Int)/\g <= l.n) /\ ∀ (g_2:Nat),let A42:=(↑g_2:Int);let A41:=(L.anyB g_2 fun (j:Nat)=>decide (L.bend l j<A6));let A8:=(bif bif bif !decide (L.areaTo A26 A26.n - L.arS g_1.2 g_1.1=bif L.validOutline A1 then L.areaTo A1 l.n else A6) then true else !decide (A14=A6) then true else !A41 == decide (A6<A38) then true else bif !L.anyB g_2 fun (j:Nat)=>decide (L.bend l j<A6) then !L.sameP A32 A1 else false);g_2 <= l.n->(decide (A42<A67)=true->((!L.anyB g_2 fun (j:Nat)=>decide (L.bend l j<A6))=true->A6 <= A42/\A42<A67)/\InK .i64 (A42+A36) /\ ∃ (g':Nat),((bif L.anyB g_2 fun (j:Nat)=>decide (L.bend l j<A6) then true else decide (L.bend A1 (T A42)<A6))=L.anyB g' fun (j:Nat)=>decide (L.bend l j<A6))/\A42+A36=(↑g':Int)/\(A14=bif L.validOutline A1 then A6 else A36)/\((A27=bif L.validOutline A1 then l.n else A40) /\ ∀ (i:Nat),let A39:=(L.Sq.mk l.n fun (i:Nat)=>l.g i);(i<bif L.validOutline A39 then l.n else A40) -> [I (L.bend A39 i)] = [I (L.bend A39 i)])/\L.areaTo A26 A26.n - L.arS g_1.2 g_1.1=L.areaTo A26 A26.n - L.arS g_1.2 g_1.1/\A23/\A5/\A19/\true=true/\A20/\u=u/\v=v/\g' <= l.n/\l.n - g'<l.n - g_2)/\(decide (A42<A67)=false->(((!bif bif !decide (L.areaTo A26 A26.n - L.arS g_1.2 g_1.1=bif L.validOutline A1 then L.areaTo A1 l.n else A6) then true else !decide (A14=A6) then true else !A41 == decide (A6<A38)) && !L.anyB g_2 fun (j:Nat)=>decide (L.bend l j<A6))=true->A9/\A12/\A3 <= (1000000:Nat))/\(A8=true->false=true)/\(A8=false->A30/\(A50=true->true=true)/\(A50=false->((∀ (i:Nat),let A57:=(L.Sq.mk l.n fun (i:Nat)=>l.g i);let A21:=(L.spA A57 u v);let A61:=[I (A21.g i).x,I (A21.g i).y];(i<bif decide (L.spErr A57 u v=A6) then A21.n else A40)->A61=A61)/\A25 <= A37)/\((∀ (i:Nat),let A58:=(L.Sq.mk l.n fun (i:Nat)=>l.g i);let A22:=(L.spB A58 u v);let A62:=[I (A22.g i).x,I (A22.g i).y];(i<bif decide (L.spErr A58 u v=A6) then A22.n else A40)->A62=A62)/\A24 <= A37)/\((bif bif true then decide (A51=A6) else false then decide (A52=A6) else false)=true->InK .i64 A4)/\(bif bif bif true then decide (A51=A6) else false then decide (A52=A6) else false then decide (A4=bif L.validOutline A1 then L.areaTo A1 l.n else A6) else false)=true))))))))) (by kernel_rfl) (by
 conv=>zeta
 have hn:l.n <= 9223372036854775807:=hp
 rw [show (L.Sq.mk l.n fun (i:Nat)=>l.g i)=l from rfl]
 refine ⟨trivial,⟨fun _ _=>rfl,hn⟩,fun _=>rfl,fun h=>?_⟩
 rw [bor,Bool.or_eq_false_iff] at h
 have h60:¬ (60:Int)<(l.n:Int):=of_decide_eq_false h.1
 have hl:l.n <= 1000000:=by omega
 have hv:L.validOutline l=true:=by
   cases hc:L.validOutline l with
   | true=>rfl
   | false=>rw [hc] at h;exact absurd h.2 (by decide)
 obtain ⟨n3,n24,hsm,hbd⟩:=validOutline_of hv
 have hN:L.trN l=l.n - 2:=by unfold L.trN;rw [hv];rfl
 obtain ⟨D,X⟩:=hd_of hv
 obtain ⟨s1,s2,s3⟩:=hull_same hv X
 have hvH:=hull_valid hv X
 obtain ⟨v1,v2⟩:=valid_ext s1 s2 hvH
 have lh:=PArea.hl_len X.C X.K X.H
 obtain ⟨r1,r2⟩:=right_iff hv X
 have ps:=pks_sum (by omega) X
 have pkn:L.pkN l=(L.pks l).n:=by unfold L.pkN;rw [hv];rfl
 have aH:=areaTo_bd (validOutline_of hvH).2.2.1 _ (Nat.le_refl _)
 have aL:=areaTo_bd hsm _ (Nat.le_refl _)
 generalize hH:L.hull (L.cpt (L.sorted l))=H at *
 simp only [s3,hv,hN,cond_true,cond_false,decide_true,Bool.not_true,Bool.not_false,Bool.false_eq_true,true_and,and_true,implies_true,true_implies,false_implies,Int.toNat_natCast,show (L.Sq.mk H.n fun (i:Nat)=>H.g i)=H from rfl,v1]
 refine ⟨hl,iK,fun h2=>?_,fun _=>⟨⟨0,rfl,rfl,Nat.zero_le _⟩,fun g hg=>⟨fun hlt=>?_,fun hge=>?_⟩⟩⟩
 · rw [decide_eq_true (show ((l.n - 2:Nat):Int)=(l.n:Int) - 2 by omega)] at h2
   exact absurd h2 (by decide)
 · have hlt:(g:Int)<((l.n - 2:Nat):Int):=of_decide_eq_true hlt
   obtain ⟨t1,t2,t3,t4,t5⟩:=trg_ok (l:=l) (k:=g) (by omega)
   have cp:=crT_pos X.C X.K (k:=g) (by omega)
   have cb:=crT_bd hv (k:=g) (by omega)
   have ab:=arT_bd hv g (by omega)
   have ib:L.bd (l.g (L.trg l g).a.toNat)/\L.bd (l.g (L.trg l g).b.toNat)/\L.bd (l.g (L.trg l g).c.toNat):=⟨hbd.2 _ (by omega),hbd.2 _ (by omega),hbd.2 _ (by omega)⟩
   rw [decide_eq_false (show ¬ (L.trg l g).a<0 by omega),decide_eq_false (show ¬ (L.trg l g).b <= (L.trg l g).a by omega),decide_eq_false (show ¬ (L.trg l g).c <= (L.trg l g).b by omega),decide_eq_false (show ¬ (l.n:Int) <= (L.trg l g).c by omega),decide_eq_false (show ¬ L.cross (l.g (L.trg l g).a.toNat) (l.g (L.trg l g).b.toNat) (l.g (L.trg l g).c.toNat) <= 0 by omega)]
   have ee:L.arT l g+L.cross (l.g (L.trg l g).a.toNat) (l.g (L.trg l g).b.toNat) (l.g (L.trg l g).c.toNat)=L.arT l (g+1):=by rw [arT_succ,t5]
   exact ⟨⟨by omega,hlt⟩,fun _=>⟨t1,by omega⟩,fun _=>⟨by omega,by omega⟩,fun _=>⟨by omega,t4⟩,fun _=>ib,fun h=>absurd h (by decide),fun _=>⟨⟨t1,by omega⟩,⟨by omega,by omega⟩,⟨by omega,t4⟩,ib,iK,iK,g+1,ee,by omega,by omega,by omega⟩⟩
 · have hge:¬ (g:Int)<((l.n - 2:Nat):Int):=of_decide_eq_false hge
   obtain rfl:g=l.n - 2:=by omega
   have ar:L.arT l (l.n - 2)=L.areaTo l l.n:=area_tr (by omega)
   have kn:L.pkN l <= (L.hull l).n:=by rw [pkn];exact cnt_le
   refine ⟨hl,by omega,hl,fun t ht=>⟨fun h3=>?_,fun _=>?_⟩⟩
   · rw [decide_eq_true ar] at h3
     exact absurd h3 (by decide)
   have eS:L.arS t (L.pkN l)=L.areaTo (L.hull l) (L.hull l).n - L.areaTo l l.n:=by
     rw [pkn,arS_perm ht.perm];exact ps
   have bS:∀ j,j<L.pkN l -> -1000000000000000 <= (t j).area/\(t j).area <= 1000000000000000:=fun j hj=>by
     have hm:t j ∈ (List.range (L.pks l).n).map (L.pks l).g:=ht.perm.mem_iff.1 (List.mem_map.2 ⟨j,List.mem_range.2 (by omega),rfl⟩)
     obtain ⟨i,hi,e⟩:=List.mem_map.1 hm
     have hi:=List.mem_range.1 hi
     rw [<- e]
     exact pk_bd hv X (sel_lt (p:=L.isPk l (L.hull l)) (m:=(L.hull l).n) (i:=i) hi).1
   refine ⟨⟨(0,t),v2.trans (Int.sub_zero _).symm,rfl,fun _ _=>rfl,Nat.zero_le _,eS,bS⟩,fun p hp'=>?_⟩
   obtain ⟨i,w⟩:=p
   obtain ⟨w1,w2,w3,w4⟩:=hp'
   have w2:i <= L.pkN l:=w2
   have w3:L.arS w (L.pkN l)=L.areaTo (L.hull l) (L.hull l).n - L.areaTo l l.n:=w3
   have wb:=arS_bd (u:=w) w4 i w2
   have wa:∀ j,j<L.pkN l->(t j).area=(w j).area:=fun j hj=>by
     have:=w1 j hj
     injection this with _ h1
     injection h1 with _ h2
     injection h2 with h3 _
     injection h3
   refine ⟨fun hlt=>?_,fun hge=>?_⟩
   · have hlt:(i:Int)<(L.pkN l:Int):=of_decide_eq_true hlt
     have ea:=wa i (by omega)
     have eb:=w4 i (by omega)
     have eb : -1000000000000000 <= (w i).area/\(w i).area <= 1000000000000000:=eb
     have e1:L.areaTo (L.hull l) (L.hull l).n - L.arS w i - (t i).area=L.areaTo (L.hull l) (L.hull l).n - L.arS w (i+1):=by rw [arS_succ,ea];omega
     have f1:InK .i64 (L.areaTo (L.hull l) (L.hull l).n - L.arS w i - (t i).area):=iK
     have f2:InK .i64 ((i:Int)+1):=iK
     exact ⟨⟨by show 0 <= (i:Int);omega,hlt⟩,f1,f2,(i+1,w),e1,by show (i:Int)+1=((i+1:Nat):Int);omega,⟨w1,by show i+1 <= L.pkN l;omega,w3,w4⟩,by show L.pkN l - (i+1)<L.pkN l - i;omega⟩
   · have hge:¬ (i:Int)<(L.pkN l:Int):=of_decide_eq_false hge
     obtain rfl:i=L.pkN l:=by omega
     have we:L.areaTo (L.hull l) (L.hull l).n - L.arS w (L.pkN l)=L.areaTo l l.n:=by omega
     refine ⟨hl,⟨0,rfl,rfl,Nat.zero_le _⟩,fun m hm=>⟨fun hlt2=>?_,fun hge2=>?_⟩⟩
     · have hlt2:(m:Int)<(l.n:Int):=of_decide_eq_true hlt2
       refine ⟨fun _=>⟨by omega,hlt2⟩,iK,m+1,?_,by omega,by omega,by omega⟩
       show _=(L.anyB m (fun j=>decide (L.bend l j<0)) || decide (L.bend l m<0))
       cases L.anyB m (fun j=>decide (L.bend l j<0)) <;> rfl
     · have hge2:¬ (m:Int)<(l.n:Int):=of_decide_eq_false hge2
       obtain rfl:m=l.n:=by omega
       have we:L.areaTo (L.hull l) (L.hull l).n - L.arS (L.pkN l,w).snd (L.pkN l,w).fst=L.areaTo l l.n:=we
       rw [decide_eq_true we,<- r1]
       refine ⟨fun _=>by omega,fun h4=>?_,fun _=>⟨hl,fun h5=>?_⟩⟩
       · cases hR:L.anyB l.n (fun j=>decide (L.bend l j<0)) with
         | true=>rw [hR] at h4;exact absurd (show false=true from h4) Bool.noConfusion
         | false=>rw [hR,r2 hR] at h4;exact absurd h4 (by decide)
       · have hs:L.spErr l u v=0:=of_decide_eq_true (notF h5)
         obtain ⟨q1,q2,q3⟩:=split_area hs
         have bA:=validOutline_of q1
         have bB:=validOutline_of q2
         have cA:=areaTo_bd bA.2.2.1 _ (Nat.le_refl _)
         have cB:=areaTo_bd bB.2.2.1 _ (Nat.le_refl _)
         simp only [hs,decide_true,cond_true,show (L.Sq.mk (L.spA l u v).n fun (i:Nat)=>(L.spA l u v).g i)=L.spA l u v from rfl,show (L.Sq.mk (L.spB l u v).n fun (i:Nat)=>(L.spB l u v).g i)=L.spB l u v from rfl,q1,q2,q3]
         have f1:InK .i64 (L.areaTo l l.n):=iK
         exact ⟨by omega,by omega,fun _=>f1,trivial⟩)
theorem w_Areas_ok:SpecOk Tryz.prog 3 w_Areas_S:=fnX Tryz.func3 (c:=bodyOf Tryz.f3) (by kernel_rfl) mixed (fun args p r hs hp=>by
 unfold w_Areas_s at hs
 split at hs
 · cases hs;exact ⟨_,_,w_Areas_vc _ _ _ hp.2,(.p (.sl hp.1) (.same _ (.same _ .nil))),⟨show SpecsL Tryz.prog _ from (SpecsL.cons w_awake_ok w_awake_en (SpecsL.cons p_Area2_ok p_Area2_en (SpecsL.cons p_Triangles_ok p_Triangles_en (SpecsL.cons r1_Cross_ok r1_Cross_en (SpecsL.cons p_Hull_ok p_Hull_en (SpecsL.cons p_Pockets_ok p_Pockets_en (SpecsL.cons p_Bends_ok p_Bends_en (SpecsL.cons r1_SamePoints_ok r1_SamePoints_en (SpecsL.cons p_Split_ok p_Split_en SpecsL.nil))))))))),rfl,⟨show ItersL Tryz.prog _ from ItersL.nil,(TrsOk.none (fun _=>rfl))⟩⟩⟩
 · cases hs)
end Go.Proofs.YtinfalehnaejbaaGreat
