/- A symbolic walk over the model, and what it shows of functions of the program: parts of the proof that the text of the row joins. -/
import Derived.Test.YtinfalehnaejbaaGreatW3
import Derived.Test.YtinfalehnaejbaaGreatE4
import Derived.KernelRfl
namespace Go.Proofs.YtinfalehnaejbaaGreat
open Go.SE Go.RowKit
set_option maxRecDepth 100000
set_option maxHeartbeats 4000000
set_option linter.unusedVariables false
attribute [local irreducible] vc
open Conf
namespace PArea
def sg (v:Int):Int:=if 0<v then 1 else if v<0 then -1 else 0
theorem sg_pos {v:Int} (h:0<v):sg v=1:=if_pos h
theorem sg_neg {v:Int} (h:v<0):sg v = -1:=by unfold sg;rw [if_neg (by omega),if_pos h]
theorem sg_mul {D u v w:Int} (hD:0<D) (hu:u ≠ 0) (hv:v ≠ 0) (h:u * v=D * w):sg w=sg u * sg v:=by
 have pw:0<u * v->0<w:=fun h0=>by
   rcases Int.lt_or_le 0 w with g | g
   · exact g
   · have:=Int.mul_nonpos_of_nonneg_of_nonpos (Int.le_of_lt hD) g;omega
 have nw:u * v<0->w<0:=fun h0=>by
   rcases Int.lt_or_le w 0 with g | g
   · exact g
   · have:=Int.mul_nonneg (Int.le_of_lt hD) g;omega
 rcases Int.lt_or_lt_of_ne hu with h1 | h1 <;> rcases Int.lt_or_lt_of_ne hv with h2 | h2
 · rw [sg_pos (pw (Int.mul_pos_of_neg_of_neg h1 h2)),sg_neg h1,sg_neg h2];rfl
 · rw [sg_neg (nw (Int.mul_neg_of_neg_of_pos h1 h2)),sg_neg h1,sg_pos h2];rfl
 · rw [sg_neg (nw (Int.mul_neg_of_pos_of_neg h1 h2)),sg_pos h1,sg_neg h2];rfl
 · rw [sg_pos (pw (Int.mul_pos h1 h2)),sg_pos h1,sg_pos h2];rfl
def Sv (x y:Int->Int) (c a:Int):Int:=if (y a<y c/\y c<y (a+1))\/(y (a+1)<y c/\y c<y a) then sg (cr x y a c) else 0
def tau (x y:Int->Int) (j:Int):Int:=Sv x y j (j+1)+Sv x y (j+2) j
section
variable {n:Nat} {x y m:Int->Int} {D:Int}
theorem side (P:Poly n x y m D) {a b:Int} (h:far n a b):∃ e:Int,(e=1\/e = -1)/\(∀ c,(c=b\/c=b+1)->((y a<y c/\y c<y (a+1))\/(y (a+1)<y c/\y c<y a))->sg (cr x y a c)=sg (y (a+1) - y a) * e) /\
   (∀ c,(c=a\/c=a+1)->((y b<y c/\y c<y (b+1))\/(y (b+1)<y c/\y c<y b))->sg (cr x y b c) = - (sg (y (b+1) - y b) * e)):=by
 have da:=dy_ne P a
 have db:=dy_ne P b
 generalize hY1:max (min (y a) (y (a+1))) (min (y b) (y (b+1)))=Y1
 generalize hY2:min (max (y a) (y (a+1))) (max (y b) (y (b+1)))=Y2
 by_cases hlt:Y1<Y2
 · have pick : ∀ Y, (Y = y a \/ Y = y (a + 1) \/ Y = y b \/ Y = y (b + 1)) -> Y1 <= Y -> Y <= Y2 -> X x y m D a Y - X x y m D b Y ≠ 0 := fun Y hY l1 l2 e => by
     rcases hY with rfl | rfl | rfl | rfl
     · exact end_ne P (far_comm h) (.inl rfl) ⟨by omega,by omega⟩ (by omega)
     · exact end_ne P (far_comm h) (.inr rfl) ⟨by omega,by omega⟩ (by omega)
     · exact end_ne P h (.inl rfl) ⟨by omega,by omega⟩ e
     · exact end_ne P h (.inr rfl) ⟨by omega,by omega⟩ e
   have n1:=pick Y1 (by omega) (Int.le_refl _) (by omega)
   have n2:=pick Y2 (by omega) (by omega) (Int.le_refl _)
   have same:sg (X x y m D a Y1 - X x y m D b Y1)=sg (X x y m D a Y2 - X x y m D b Y2):=by
     rcases Int.lt_or_lt_of_ne n1 with h1 | h1 <;> rcases Int.lt_or_lt_of_ne n2 with h2 | h2
     · rw [sg_neg h1,sg_neg h2]
     · exact (no_cross P h h1 h2 (by omega) (by omega) (by omega) (by omega) (by omega)).elim
     · exact (no_cross P (far_comm h) (lo:=Y1) (hi:=Y2) (by omega) (by omega) (by omega) (by omega) (by omega) (by omega) (by omega)).elim
     · rw [sg_pos h1,sg_pos h2]
   refine ⟨sg (X x y m D a Y1 - X x y m D b Y1),?_,fun c hc hs=>?_,fun c hc hs=>?_⟩
   · rcases Int.lt_or_lt_of_ne n1 with h1 | h1
     · exact .inr (sg_neg h1)
     · exact .inl (sg_pos h1)
   · have hX : X x y m D b (y c) = D * x c := by
       rcases hc with rfl | rfl
       · exact X_lo _
       · exact X_hi P _
     have hY:y c=Y1\/y c=Y2:=by rcases hc with rfl | rfl <;> omega
     have r:=R1 P a c
     rw [<- hX] at r
     have:=sg_mul P.hD da (by rcases hY with e | e <;> rw [e] <;> assumption) r
     rw [this]
     rcases hY with e | e <;> rw [e]
     rw [same]
   · have hX : X x y m D a (y c) = D * x c := by
       rcases hc with rfl | rfl
       · exact X_lo _
       · exact X_hi P _
     have hY:y c=Y1\/y c=Y2:=by rcases hc with rfl | rfl <;> omega
     have r:=R1 P b c
     rw [<- hX] at r
     have ng:∀ u:Int,u ≠ 0->sg (-u) = - sg u:=fun u hu=>by
       rcases Int.lt_or_lt_of_ne hu with q | q
       · rw [sg_neg q,sg_pos (by omega)];rfl
       · rw [sg_pos q,sg_neg (by omega)]
     have n':X x y m D a (y c) - X x y m D b (y c) ≠ 0:=by rcases hY with e | e <;> rw [e] <;> assumption
     have:=sg_mul P.hD db (by omega) r
     rw [this,show X x y m D b (y c) - X x y m D a (y c) = -(X x y m D a (y c) - X x y m D b (y c)) by omega,ng _ n',Int.mul_neg]
     rcases hY with e | e <;> rw [e]
     rw [same]
 · exact ⟨1,.inl rfl,fun c hc hs=>by rcases hc with rfl | rfl <;> omega,fun c hc hs=>by rcases hc with rfl | rfl <;> omega⟩
theorem comb {p p' r r' e t1 t2 t3 t4:Int} (g1:(p<r/\r<p')\/(p'<r/\r<p)->t1=sg (p' - p) * e) (z1:¬ ((p<r/\r<p')\/(p'<r/\r<p))->t1=0)
   (g2:(p<r'/\r'<p')\/(p'<r'/\r'<p)->t2=sg (p' - p) * e) (z2:¬ ((p<r'/\r'<p')\/(p'<r'/\r'<p))->t2=0)
   (g3:(r<p'/\p'<r')\/(r'<p'/\p'<r)->t3 = -(sg (r' - r) * e)) (z3:¬ ((r<p'/\p'<r')\/(r'<p'/\p'<r))->t3=0)
   (g4:(r<p/\p<r')\/(r'<p/\p<r)->t4 = -(sg (r' - r) * e)) (z4:¬ ((r<p/\p<r')\/(r'<p/\p<r))->t4=0)
   (da:p' - p ≠ 0) (db:r' - r ≠ 0) (d1:p ≠ r) (d2:p ≠ r') (d3:p' ≠ r) (d4:p' ≠ r'):t1 - t2+t3 - t4=0:=by
 have c:∀ u v w:Int,Decidable ((u<v/\v<w)\/(w<v/\v<u)):=fun _ _ _=>inferInstance
 rcases Int.lt_or_lt_of_ne da with ka | ka <;> rcases Int.lt_or_lt_of_ne db with kb | kb
 · rw [sg_neg ka] at g1 g2;rw [sg_neg kb] at g3 g4
   by_cases q1:(p<r/\r<p')\/(p'<r/\r<p) <;> by_cases q2:(p<r'/\r'<p')\/(p'<r'/\r'<p) <;> by_cases q3:(r<p'/\p'<r')\/(r'<p'/\p'<r) <;> by_cases q4:(r<p/\p<r')\/(r'<p/\p<r) <;> first | omega | (simp only [q1,q2,q3,q4,true_implies,not_true,not_false_eq_true,false_implies] at *;omega)
 · rw [sg_neg ka] at g1 g2;rw [sg_pos kb] at g3 g4
   by_cases q1:(p<r/\r<p')\/(p'<r/\r<p) <;> by_cases q2:(p<r'/\r'<p')\/(p'<r'/\r'<p) <;> by_cases q3:(r<p'/\p'<r')\/(r'<p'/\p'<r) <;> by_cases q4:(r<p/\p<r')\/(r'<p/\p<r) <;> omega
 · rw [sg_pos ka] at g1 g2;rw [sg_neg kb] at g3 g4
   by_cases q1:(p<r/\r<p')\/(p'<r/\r<p) <;> by_cases q2:(p<r'/\r'<p')\/(p'<r'/\r'<p) <;> by_cases q3:(r<p'/\p'<r')\/(r'<p'/\p'<r) <;> by_cases q4:(r<p/\p<r')\/(r'<p/\p<r) <;> omega
 · rw [sg_pos ka] at g1 g2;rw [sg_pos kb] at g3 g4
   by_cases q1:(p<r/\r<p')\/(p'<r/\r<p) <;> by_cases q2:(p<r'/\r'<p')\/(p'<r'/\r'<p) <;> by_cases q3:(r<p'/\p'<r')\/(r'<p'/\p'<r) <;> by_cases q4:(r<p/\p<r')\/(r'<p/\p<r) <;> omega
theorem Sv_see {c a:Int} (h:(y a<y c/\y c<y (a+1))\/(y (a+1)<y c/\y c<y a)):Sv x y c a=sg (cr x y a c):=if_pos h
theorem Sv_no {c a:Int} (h:¬ ((y a<y c/\y c<y (a+1))\/(y (a+1)<y c/\y c<y a))):Sv x y c a=0:=if_neg h
theorem cell (P:Poly n x y m D) {a b:Int} (h:far n a b):Sv x y b a - Sv x y (b+1) a+Sv x y (a+1) b - Sv x y a b=0:=by
 obtain ⟨e,he,h1,h2⟩:=side P h
 exact comb (fun g=>(Sv_see g).trans (h1 b (.inl rfl) g)) Sv_no (fun g=>(Sv_see g).trans (h1 (b+1) (.inr rfl) g)) Sv_no (fun g=>(Sv_see g).trans (h2 (a+1) (.inr rfl) g)) Sv_no (fun g=>(Sv_see g).trans (h2 a (.inl rfl) g)) Sv_no
   (dy_ne P a) (dy_ne P b) (P.hy a b h.1) (P.hy a (b+1) h.2.1) (P.hy (a+1) b h.2.2) (P.hy (a+1) (b+1) (fun q=>h.1 (pred_mod q)))
theorem Sv_per (P:Poly n x y m D) {a b c d:Int} (h:a % (n:Int)=b % (n:Int)) (h':c % (n:Int)=d % (n:Int)):Sv x y c a=Sv x y d b:=by
 unfold Sv cr
 rw [P.py a b h,y_per1 P h,P.py c d h',P.px a b h,P.px c d h',P.px _ _ (succ_mod h 1)]
theorem Sv_low (x:Int->Int) {c:Int} (h:∀ a,y c <= y a) (a:Int):Sv x y c a=0:=by
 have:=h a
 have:=h (a+1)
 unfold Sv
 rw [if_neg (by omega)]
def Bs (x y:Int->Int) (j:Int) (k:Nat):Int:=sm (fun i=>Sv x y j (j+1+i)) k
theorem far_of {a b:Int} (h1:2 <= b - a) (h2:b - a+2 <= n):far n a b:=by
 have key:∀ d:Int,0<d->d<n -> ∀ u v:Int,v - u=d->u % (n:Int) ≠ v % (n:Int):=fun d d1 d2 u v e q=>by
   have h1:(v - u) % (n:Int)=0:=by rw [Int.sub_emod,q,Int.sub_self,Int.zero_emod]
   rw [e,Int.emod_eq_of_lt (by omega) d2] at h1
   omega
 exact ⟨key (b - a) (by omega) (by omega) _ _ rfl,key (b+1 - a) (by omega) (by omega) _ _ rfl,key (b - (a+1)) (by omega) (by omega) _ _ rfl⟩
theorem row (P:Poly n x y m D) (a:Int):∀ k:Nat,(k:Int)+3 <= n->Sv x y (a+2) a - Sv x y (a+2+k) a+sm (fun i=>Sv x y (a+1) (a+2+i)) k - sm (fun i=>Sv x y a (a+2+i)) k=0
 | 0,_=>by show _ - Sv x y (a+2+((0:Nat):Int)) a+0 - 0=0;rw [show a+2+((0:Nat):Int)=a+2 by omega];omega
 | k+1,h=>by
   have ih:=row P a k (by omega)
   have c:=cell P (a:=a) (b:=a+2+k) (far_of (by omega) (by omega))
   rw [sm,sm,show a+2+((k+1:Nat):Int)=a+2+k+1 by omega]
   omega
theorem Bs_step (P:Poly n x y m D) (h0:∀ a,y 0 <= y a) {j:Nat} {k:Nat} (h1:1 <= j) (hk:j+k+2=n):Bs x y j (k+1) - Bs x y (j+1:Int) k=tau x y j:=by
 have r:=row P (j:Int) k (by omega)
 have e0:Sv x y ((j:Int)+2+k) j=0:=by
   rw [Sv_per P (a:=(j:Int)) (b:=(j:Int)) (c:=(j:Int)+2+k) (d:=0) rfl (by rw [show (j:Int)+2+k=n by omega,Int.emod_self,Int.zero_emod])]
   exact Sv_low x h0 _
 unfold Bs tau
 rw [sm_left]
 have e1:sm (fun i=>Sv x y (j:Int) ((j:Int)+1+(i+1))) k=sm (fun i=>Sv x y (j:Int) ((j:Int)+2+i)) k:=sm_cong fun i _=>by
   show Sv x y (j:Int) ((j:Int)+1+((i:Int)+1))=_
   rw [show (j:Int)+1+((i:Int)+1)=(j:Int)+2+i by omega]
 have e2:sm (fun i=>Sv x y ((j:Int)+1) ((j:Int)+1+1+i)) k=sm (fun i=>Sv x y ((j:Int)+1) ((j:Int)+2+i)) k:=sm_cong fun i _=>by
   rw [show (j:Int)+1+1+(i:Int)=(j:Int)+2+i by omega]
 rw [e1,e2,show (j:Int)+1+0=j+1 by omega]
 omega
theorem Bs_sum (P:Poly n x y m D) (h0:∀ a,y 0 <= y a):∀ (k r:Nat),k+r+2=n->Bs x y 1 (k+r) - Bs x y (1+k:Int) r=sm (fun i=>tau x y (1+i)) k
 | 0,r,_=>by show Bs x y 1 (0+r) - Bs x y (1+((0:Nat):Int)) r=0;rw [Nat.zero_add,show (1:Int)+((0:Nat):Int)=1 by omega];omega
 | k+1,r,h=>by
   have ih:=Bs_sum P h0 k (r+1) (by omega)
   have s:=Bs_step P h0 (j:=1+k) (k:=r) (by omega) (by omega)
   rw [show ((1+k:Nat):Int)=1+(k:Int) by omega] at s
   rw [sm,show (1:Int)+((k+1:Nat):Int)=1+k+1 by omega,show k+1+r=k+(r+1) by omega]
   omega
theorem turn0 (P:Poly n x y m D) (h0:∀ a,y 0 <= y a):sm (tau x y) n=2 * tau x y (-1):=by
 have hn:=P.hn
 obtain ⟨k,rfl⟩:∃ k,n=k+3:=⟨n - 3,by omega⟩
 have s:=Bs_sum P h0 (k+1) 0 (by omega)
 have r:=row P 0 k (by omega)
 have z:sm (fun i=>Sv x y 0 (0+2+i)) k=0:=by
   exact (sm_cong (f:=fun i=>Sv x y 0 (0+2+i)) (g:=fun _=>0) fun i _=>Sv_low x h0 (0+2+(i:Int))).trans (sm_zero k)
 have e1:Bs x y 1 (k+1+0)=sm (fun i=>Sv x y (0+1) (0+2+i)) k+Sv x y 1 (2+k):=by
   unfold Bs
   rw [Nat.add_zero,sm]
   rfl
 have e2:Bs x y (1+((k+1:Nat):Int)) 0=0:=rfl
 have p1:tau x y (-1)=Sv x y (2+k) 0+Sv x y 1 (2+k):=by
   have q:(-1:Int) % ((k+3:Nat):Int)=(2+(k:Int)) % ((k+3:Nat):Int):=by
     rw [show (2+(k:Int)) = -1+((k+3:Nat):Int) by omega,Int.add_emod_right]
   unfold tau
   rw [Sv_per P (a:=-1+1) (b:=0) (c:=-1) (d:=2+k) rfl q,Sv_per P (a:=-1) (b:=2+k) (c:=-1+2) (d:=1) q rfl]
 have p2:tau x y (1+((k+1:Nat):Int))=tau x y (-1):=by
   have q:∀ t u:Int,u=t+((k+3:Nat):Int)->u % ((k+3:Nat):Int)=t % ((k+3:Nat):Int):=fun t u e=>by rw [e,Int.add_emod_right]
   unfold tau
   rw [Sv_per P (q (-1+1) (1+((k+1:Nat):Int)+1) (by omega)) (q (-1) (1+((k+1:Nat):Int)) (by omega)),Sv_per P (q (-1) (1+((k+1:Nat):Int)) (by omega)) (q (-1+2) (1+((k+1:Nat):Int)+2) (by omega))]
 have p3:tau x y 0=Sv x y (0+2) 0:=by
   unfold tau;rw [Sv_low x h0];omega
 rw [show k+3=(k+2)+1 by omega,sm_left]
 have e3:sm (fun i=>tau x y (i+1)) (k+2)=sm (fun i=>tau x y (1+i)) (k+2):=sm_cong fun i _=>by
   show tau x y ((i:Int)+1)=tau x y (1+(i:Int));rw [Int.add_comm]
 rw [e3,sm,p2,p3]
 rw [z,show (0:Int)+2+k=2+k by omega] at r
 rw [e1,e2] at s
 omega
theorem shift (P:Poly n x y m D) (c:Int):Poly n (fun a=>x (a+c)) (fun a=>y (a+c)) (fun a=>m (a+c)) D:=by
 have sw:∀ a,a+1+c=a+c+1:=fun a=>by omega
 have sw2:∀ a,a+2+c=a+c+2:=fun a=>by omega
 have fr:∀ {a b:Int},far n a b->far n (a+c) (b+c):=fun {a b} h=>⟨fun e=>h.1 (pred_mod e),fun e=>h.2.1 (by rw [<- sw] at e;exact pred_mod e),fun e=>h.2.2 (by rw [<- sw] at e;exact pred_mod e)⟩
 have cs:∀ a b,cr (fun a=>x (a+c)) (fun a=>y (a+c)) a b=cr x y (a+c) (b+c):=fun a b=>by
   show (x (a+1+c) - x (a+c)) * (y (b+c) - y (a+c)) - (y (a+1+c) - y (a+c)) * (x (b+c) - x (a+c))=_
   rw [sw];rfl
 refine ⟨P.hn,fun a b h=>P.px _ _ (succ_mod h c),fun a b h=>P.py _ _ (succ_mod h c),fun a b h=>P.pm _ _ (succ_mod h c),P.hD,fun a=>?_,fun a b h=>P.hy _ _ (fun e=>h (pred_mod e)),fun a b h d hd hw=>?_,fun a b h=>?_,fun a=>?_⟩
 · show m (a+c) * (y (a+1+c) - y (a+c))=D * (x (a+1+c) - x (a+c))
   rw [sw];exact P.hm _
 · rw [cs]
   refine P.on _ _ (fr h) (d+c) ?_ ?_
   · rcases hd with rfl | rfl
     · exact .inl rfl
     · exact .inr (sw _)
   · unfold within at hw ⊢
     rw [<- sw];exact hw
 · rw [cs,cs,cs,cs,sw,sw]
   exact P.no _ _ (fr h)
 · rw [cs,sw,sw2]
   exact P.co _
theorem turn (P:Poly n x y m D) (c:Int) (h0:∀ a,y c <= y a):sm (tau x y) n=2 * tau x y (c - 1):=by
 have t:=turn0 (shift P c) (fun a=>by show y (0+c) <= y (a+c);rw [Int.zero_add];exact h0 _)
 have ts:∀ j,tau (fun a=>x (a+c)) (fun a=>y (a+c)) j=tau x y (j+c):=fun j=>by
   have ss:∀ u v:Int,Sv (fun a=>x (a+c)) (fun a=>y (a+c)) u v=Sv x y (u+c) (v+c):=fun u v=>by
     have e:v+1+c=v+c+1:=by omega
     unfold Sv cr
     simp only [e]
   unfold tau
   rw [ss,ss,show j+1+c=j+c+1 by omega,show j+2+c=j+c+2 by omega]
 rw [ts,show -1+c=c - 1 by omega] at t
 rw [<- t]
 have hp:per n (tau x y):=fun a b h=>by
   unfold tau
   rw [Sv_per P (succ_mod h 1) h,Sv_per P h (succ_mod h 2)]
 have hn:=P.hn
 have h0':=Int.emod_nonneg c (show (n:Int) ≠ 0 by omega)
 rw [<- sm_shift (c % (n:Int)).toNat hp]
 refine sm_cong fun i _=>?_
 rw [ts]
 refine hp _ _ ?_
 rw [Int.toNat_of_nonneg h0',Int.add_emod_emod]
theorem cr_turn (x y:Int->Int) (j:Int):cr x y (j+1) j=cr x y j (j+2):=by
 unfold cr;rw [aa];grind
theorem tau_mono {j:Int} (h:(y j<y (j+1)/\y (j+1)<y (j+2))\/(y (j+2)<y (j+1)/\y (j+1)<y j)):tau x y j=0:=by
 unfold tau Sv
 rw [aa,if_neg (by omega),if_neg (by omega)];rfl
theorem tau_ext (P:Poly n x y m D) {j:Int} (h:(y j<y (j+1)/\y (j+2)<y (j+1))\/(y (j+1)<y j/\y (j+1)<y (j+2))):tau x y j=sg (cr x y j (j+2)):=by
 have:=P.hy _ _ (two_ne P.hn j)
 unfold tau Sv
 rw [aa,cr_turn]
 by_cases g:y j<y (j+2)
 · rcases h with h | h
   · rw [if_neg (by omega),if_pos (by omega)];omega
   · rw [if_pos (by omega),if_neg (by omega)];omega
 · rcases h with h | h
   · rw [if_pos (by omega),if_neg (by omega)];omega
   · rw [if_neg (by omega),if_pos (by omega)];omega
end
end PArea
namespace PArea
section
variable {n:Nat} {x y m:Int->Int} {D κ:Int}
theorem WX_off {j T:Int} (Y:Int) (h:∀ b,act y b j->X x y m D b Y ≠ T):WX n x y m D j Y (T+1)=WX n x y m D j Y T:=by
 unfold WX
 refine sm_cong fun i _=>?_
 by_cases hb:act y (i:Int) j
 · have:=h _ hb
   by_cases g:X x y m D (i:Int) Y<T
   · rw [ind_t g,ind_t (by omega)]
   · rw [ind_f g,ind_f (by omega)]
 · rw [q_no hb,Int.zero_mul,Int.zero_mul]
theorem off_or (P:Poly n x y m D) (hκ:∀ a j,act y a j->K n x y m D a j=κ) (Y T:Int):WX n x y m D Y Y T=0\/WX n x y m D Y Y T=κ:=by
 by_cases h:∃ a,act y a Y/\X x y m D a Y<T
 · obtain ⟨a,ha,hat,hmax⟩:=min_all P (j:=Y) (fun a=>X x y m D a Y<T) (fun _ _ e=>by rw [X_per P e]) (-1) h
   have e:WX n x y m D Y Y T=Wt n x y m D Y (V x y m D a Y):=by
     unfold WX Wt
     refine sm_cong fun i _=>?_
     by_cases hb:act y (i:Int) Y
     · by_cases g:X x y m D (i:Int) Y<T
       · have:=hmax _ hb g
         rw [ind_t g,ind_t (by omega)]
       · rw [ind_f g,ind_f]
         intro hv
         by_cases hi:(i:Int) % (n:Int)=a % (n:Int)
         · rw [X_per P hi] at g;exact g hat
         · obtain ⟨s1,s2,_,_⟩:=sep P ha hb hi
           unfold V at hv
           omega
     · rw [q_no hb,Int.zero_mul,Int.zero_mul]
   rw [e]
   exact Wt_or P hκ _ _
 · refine .inl ?_
   unfold WX
   rw [<- sm_zero n]
   refine sm_cong fun i _=>?_
   by_cases h':act y (i:Int) Y
   · rw [ind_f (fun g=>h ⟨_,h',g⟩),Int.mul_zero]
   · rw [q_no h',Int.zero_mul]
theorem on_one (P:Poly n x y m D) (hκ:∀ a j,act y a j->K n x y m D a j=κ) {a Y:Int} (ha:act y a Y) (h1:act y (a+1) Y->y (a+1) ≠ Y) (h2:∀ b,(b+1) % (n:Int)=a % (n:Int)->act y b Y->y a ≠ Y) :
   WX n x y m D Y Y (X x y m D a Y)+WX n x y m D Y Y (X x y m D a Y+1)=κ:=by
 have hn:=P.hn
 have e1:=W_botN P ha h1 h2
 have k:=hκ a Y ha
 unfold K at k
 rw [e1] at k
 have d := sm_one (n := n) (by omega) (f := fun b => q y Y b * ind (X x y m D b Y < X x y m D a Y + 1)) (g := fun b => q y Y b * ind (X x y m D b Y < X x y m D a Y)) (fun s u h => by
     show q y Y s * ind (X x y m D s Y<_)=_
     rw [q_per P Y s u h,X_per P h]) (fun s u h=>by
     show q y Y s * ind (X x y m D s Y<_)=_
     rw [q_per P Y s u h,X_per P h]) a (fun b hb=>by
     show q y Y b * ind (X x y m D b Y<X x y m D a Y+1)=q y Y b * ind (X x y m D b Y<X x y m D a Y)
     by_cases h:act y b Y
     · have hne : X x y m D a Y - X x y m D b Y ≠ 0 := fun e => by
         rcases (sep P ha h hb).2.2.2 e with ⟨q1,q2⟩ | ⟨q1,q2⟩
         · exact absurd q2 (h1 ((act_per P q1).1 h))
         · exact absurd q2 (h2 b q1 h)
       by_cases g:X x y m D b Y<X x y m D a Y
       · rw [ind_t g,ind_t (by omega)]
       · rw [ind_f g,ind_f (by omega)]
     · rw [q_no h,Int.zero_mul,Int.zero_mul])
 have d:WX n x y m D Y Y (X x y m D a Y+1) - WX n x y m D Y Y (X x y m D a Y)=q y Y a * ind (X x y m D a Y<X x y m D a Y+1) - q y Y a * ind (X x y m D a Y<X x y m D a Y):=d
 rw [ind_t (by omega),ind_f (by omega)] at d
 omega
theorem other (P:Poly n x y m D) {a b:Int} (h1:¬ b % (n:Int)=a % (n:Int)) (h2:¬ b % (n:Int)=(a+1) % (n:Int)):y b ≠ y (a+1)/\y (b+1) ≠ y (a+1) :=
 ⟨P.hy _ _ h2,P.hy _ _ (fun e=>h1 (pred_mod e))⟩
theorem slope (P:Poly n x y m D) (a:Int):∃ β,(∀ Y,X x y m D a Y - X x y m D (a+1) Y=β * (Y - y (a+1)))/\(y (a+1) - y a) * (β * (y (a+2) - y (a+1)))=D * cr x y a (a+2):=by
 have z:X x y m D a (y (a+1)) - X x y m D (a+1) (y (a+1))=0:=by rw [X_hi P,X_lo];omega
 have e:=X_hi P (a+1)
 rw [aa] at e
 have r:=R1 P a (a+2)
 rw [<- e] at r
 rw [X_sub] at z r
 refine ⟨m a - m (a+1),fun Y=>?_,?_⟩
 · rw [X_sub,Int.mul_sub];omega
 · rw [<- r,Int.mul_sub (m a - m (a+1))]
   congr 1
   omega
theorem sg_cr (P:Poly n x y m D) {a β:Int} (h:(y (a+1) - y a) * (β * (y (a+2) - y (a+1)))=D * cr x y a (a+2)) (ext:(y a<y (a+1)/\y (a+2)<y (a+1))\/(y (a+1)<y a/\y (a+1)<y (a+2))):sg (cr x y a (a+2)) = - sg β/\β ≠ 0:=by
 have hc:cr x y a (a+2) ≠ 0:=fun e=>by have:=P.co a e;omega
 have hβ:β ≠ 0:=fun e=>by
   rw [e,Int.zero_mul,Int.mul_zero] at h
   rcases Int.mul_eq_zero.1 h.symm with g | g
   · have:=P.hD;omega
   · exact hc g
 have hu:(y (a+1) - y a) * (y (a+2) - y (a+1))<0:=by
   rcases ext with g | g
   · exact Int.mul_neg_of_pos_of_neg (by omega) (by omega)
   · exact Int.mul_neg_of_neg_of_pos (by omega) (by omega)
 have:=sg_mul P.hD (by omega) hβ (show (y (a+1) - y a) * (y (a+2) - y (a+1)) * β=D * cr x y a (a+2) by rw [<- h];grind)
 rw [this,sg_neg hu]
 exact ⟨by omega,hβ⟩
theorem at_low (P:Poly n x y m D) (hκ:∀ a j,act y a j->K n x y m D a j=κ) {a Y:Int} (hY:y (a+1)=Y) (h1:Y<y a) (h2:Y<y (a+2)) :
   WX n x y m D Y Y (D * x (a+1))+WX n x y m D Y Y (D * x (a+1)+1)=κ+tau x y a:=by
 have A1:act y a Y:=.inr ⟨by omega,by omega⟩
 have A2:act y (a+1) Y:=.inl ⟨by omega,by rw [aa];omega⟩
 have same:WX n x y m D Y Y (D * x (a+1)+1)=WX n x y m D Y Y (D * x (a+1)):=by
   rw [line P,line P]
   refine WX_off Y fun b hb e=>?_
   obtain ⟨x1,x2⟩:=X_end P hY
   have na:¬ b % (n:Int)=a % (n:Int):=fun q=>by
     have:=(act_per P q).1 hb;unfold act at this;omega
   have na':¬ b % (n:Int)=(a+1) % (n:Int):=fun q=>by
     have:=(act_per P q).1 hb;unfold act at this;rw [aa] at this;omega
   have o:=other P na na'
   have hb':act y b Y:=by unfold act at hb ⊢;omega
   rcases (sep P A1 hb' na).2.2.2 (by rw [x1,e];omega) with ⟨q1,_⟩ | ⟨_,q2⟩
   · exact na' q1
   · omega
 have e1:=W_bot P A1 (a+1) (fun b hb hba e=>by
   rcases (sep P A1 hb hba).2.2.2 e with ⟨q1,_⟩ | ⟨_,q2⟩
   · exact q1
   · omega)
 have e2:=W_bot P A2 a (fun b hb hba e=>by
   rcases (sep P A2 hb hba).2.2.2 e with ⟨_,q2⟩ | ⟨q1,_⟩
   · rw [aa] at q2;omega
   · exact pred_mod q1)
 obtain ⟨x1,x2⟩:=X_end P hY
 rw [x1,x2,ind_f (show ¬ D * x (a+1)<D * x (a+1) by omega)] at e1
 rw [x1,x2,ind_f (show ¬ D * x (a+1)<D * x (a+1) by omega)] at e2
 have k1:=hκ a Y A1
 have k2:=hκ (a+1) Y A2
 unfold K at k1 k2
 rw [q_dn (a:=a) (by omega) (by omega)] at k1 e2
 rw [q_up (a:=a+1) (by omega) (by rw [aa];omega)] at k2 e1
 obtain ⟨β,hl,hc⟩:=slope P a
 obtain ⟨s1,s2⟩:=sg_cr P hc (.inr ⟨by omega,by omega⟩)
 rw [tau_ext P (.inr ⟨by omega,by omega⟩),s1,same]
 have l1:=hl Y
 have l2:=hl (Y+1)
 rw [hY,Int.sub_self,Int.mul_zero] at l1
 rw [hY,show Y+1 - Y=1 by omega,Int.mul_one] at l2
 unfold V at e1 e2
 rcases Int.lt_or_lt_of_ne s2 with g | g
 · rw [sg_neg g]
   rw [ind_f (by omega)] at e1
   omega
 · rw [sg_pos g]
   rw [ind_f (by omega)] at e2
   omega
theorem at_high (P:Poly n x y m D) (hκ:∀ a j,act y a j->K n x y m D a j=κ) {a j:Int} (hY:y (a+1)=j+1) (h1:y a <= j) (h2:y (a+2) <= j) :
   WX n x y m D (j+1) (j+1) (D * x (a+1))+WX n x y m D (j+1) (j+1) (D * x (a+1)+1)=κ+tau x y a:=by
 have A1:act y a j:=.inl ⟨by omega,by omega⟩
 have A2:act y (a+1) j:=.inr ⟨by rw [aa];omega,by omega⟩
 have same:WX n x y m D (j+1) (j+1) (D * x (a+1)+1)=WX n x y m D (j+1) (j+1) (D * x (a+1)):=by
   refine WX_off (j+1) fun b hb e=>?_
   obtain ⟨x1,x2⟩:=X_end P hY
   have na:¬ b % (n:Int)=a % (n:Int):=fun q=>by
     have:=(act_per P q).1 hb;unfold act at this;omega
   have na':¬ b % (n:Int)=(a+1) % (n:Int):=fun q=>by
     have:=(act_per P q).1 hb;unfold act at this;rw [aa] at this;omega
   have o:=other P na na'
   have hb':act y b j:=by unfold act at hb ⊢;omega
   rcases (sep P A1 hb' na).2.2.1 (by rw [x1,e];omega) with ⟨q1,_⟩ | ⟨_,q2⟩
   · exact na' q1
   · omega
 have e1:=W_top P A1 (a+1) (fun b hb hba e=>by
   rcases (sep P A1 hb hba).2.2.1 e with ⟨q1,_⟩ | ⟨_,q2⟩
   · exact q1
   · omega)
 have e2:=W_top P A2 a (fun b hb hba e=>by
   rcases (sep P A2 hb hba).2.2.1 e with ⟨_,q2⟩ | ⟨q1,_⟩
   · rw [aa] at q2;omega
   · exact pred_mod q1)
 obtain ⟨x1,x2⟩:=X_end P hY
 rw [x1,x2,ind_f (show ¬ D * x (a+1)<D * x (a+1) by omega)] at e1
 rw [x1,x2,ind_f (show ¬ D * x (a+1)<D * x (a+1) by omega)] at e2
 have k1:=hκ a j A1
 have k2:=hκ (a+1) j A2
 unfold K at k1 k2
 rw [q_up (a:=a) (by omega) (by omega)] at k1 e2
 rw [q_dn (a:=a+1) (by rw [aa];omega) (by omega)] at k2 e1
 obtain ⟨β,hl,hc⟩:=slope P a
 obtain ⟨s1,s2⟩:=sg_cr P hc (.inl ⟨by omega,by omega⟩)
 rw [tau_ext P (.inl ⟨by omega,by omega⟩),s1,same]
 have ll:=line1 P j (D * x (a+1))
 have l1:=hl j
 have l2:=hl (j+1)
 rw [hY,show j - (j+1) = -1 by omega] at l1
 rw [hY,Int.sub_self,Int.mul_zero] at l2
 unfold V at e1 e2
 rcases Int.lt_or_lt_of_ne s2 with g | g
 · rw [sg_neg g]
   rw [ind_f (by omega)] at e2
   omega
 · rw [sg_pos g]
   rw [ind_f (by omega)] at e1
   omega
theorem at_corner (P:Poly n x y m D) (hκ:∀ a j,act y a j->K n x y m D a j=κ) (a:Int) :
   WX n x y m D (y (a+1)) (y (a+1)) (D * x (a+1))+WX n x y m D (y (a+1)) (y (a+1)) (D * x (a+1)+1)=κ+tau x y a:=by
 have d1:=dy_ne P a
 have d2:=dy_ne P (a+1)
 rw [aa] at d2
 rcases Int.lt_or_lt_of_ne d1 with g | g <;> rcases Int.lt_or_lt_of_ne d2 with g' | g'
 · have A:act y a (y (a+1)):=.inr ⟨Int.le_refl _,by omega⟩
   have:=on_one P hκ A (fun h=>by unfold act at h;rw [aa] at h;omega) (fun _ _ _=>by omega)
   rw [X_hi P] at this
   rw [this,tau_mono (.inr ⟨by omega,by omega⟩)];omega
 · exact at_low P hκ rfl (by omega) (by omega)
 · have:=at_high P hκ (a:=a) (j:=y (a+1) - 1) (by omega) (by omega) (by omega)
   rwa [show y (a+1) - 1+1=y (a+1) by omega] at this
 · have A:act y (a+1) (y (a+1)):=.inl ⟨Int.le_refl _,by rw [aa];omega⟩
   have:=on_one P hκ A (fun h=>by rw [aa];omega) (fun b hb h=>by
     have:=(act_per P (pred_mod hb)).1 h
     unfold act at this;omega)
   rw [X_lo] at this
   rw [this,tau_mono (.inl ⟨by omega,by omega⟩)];omega
theorem in_edge (P:Poly n x y m D) (hκ:∀ a j,act y a j->K n x y m D a j=κ) {a Y:Int} (h:(y a<Y/\Y<y (a+1))\/(y (a+1)<Y/\Y<y a)) :
   WX n x y m D Y Y (X x y m D a Y)+WX n x y m D Y Y (X x y m D a Y+1)=κ :=
 on_one P hκ (by unfold act;omega) (fun _=>by omega) (fun _ _ _=>by omega)
theorem lowest (P:Poly n x y m D) (hκ:∀ a j,act y a j->K n x y m D a j=κ) {a:Int} (h0:∀ b,y (a+1) <= y b):tau x y a = - κ:=by
 have:=at_corner P hκ a
 have z:∀ T,WX n x y m D (y (a+1)) (y (a+1)) T=0:=fun T=>by
   rw [line P]
   unfold WX
   rw [<- sm_zero n]
   refine sm_cong fun i _=>?_
   have:=h0 (i:Int)
   have:=h0 ((i:Int)+1)
   rw [q_no (by unfold act;omega),Int.zero_mul]
 rw [z,z] at this
 omega
theorem turn_sum (P:Poly n x y m D) (hκ:∀ a j,act y a j->K n x y m D a j=κ):sm (tau x y) n = - (2 * κ):=by
 have hn:=P.hn
 obtain ⟨k,_,hk⟩:∃ k:Nat,k<n /\ ∀ i:Nat,i<n->y (k:Int) <= y (i:Int):=by
   obtain ⟨k,h1,_,h3⟩:=exists_min (p:=fun _=>True) (v:=fun i=>y (i:Int)) (n:=n) ⟨0,by omega,trivial⟩
   exact ⟨k,h1,fun i hi=>h3 i hi trivial⟩
 have low:∀ b,y (k:Int) <= y b:=fun b=>by
   have h0:=Int.emod_nonneg b (show (n:Int) ≠ 0 by omega)
   have h1:=Int.emod_lt_of_pos b (show 0<(n:Int) by omega)
   rw [P.py b ((b % (n:Int)).toNat:Int) (by rw [Int.toNat_of_nonneg h0,Int.emod_emod])]
   exact hk _ (by omega)
 rw [turn P k low,lowest P hκ (a:=(k:Int) - 1) (fun b=>by rw [show (k:Int) - 1+1=k by omega];exact low b)]
 omega
end
end PArea
namespace PArea
theorem sm_app {f:Int->Int} (a:Nat):∀ b:Nat,sm f (a+b)=sm f a+sm (fun i=>f (a+i)) b
 | 0=>by show sm f a=sm f a+0;omega
 | b+1=>by
   rw [<- Nat.add_assoc,sm,sm,sm_app a b,show ((a+b:Nat):Int)=(a:Int)+b by omega];omega
theorem sm_none {f:Int->Int} {k:Nat} (h:∀ i:Nat,i<k->f (i:Int)=0):sm f k=0:=(sm_cong (g:=fun _=>0) h).trans (sm_zero k)
theorem sm_const (c:Int):∀ k:Nat,sm (fun _=>c) k=(k:Int) * c
 | 0=>by show 0=((0:Nat):Int) * c;omega
 | k+1=>by rw [sm,sm_const c k,show ((k+1:Nat):Int)=(k:Int)+1 by omega,Int.add_mul];omega
theorem window {g:Int->Int} {lo a b:Int} {k:Nat} (h1:lo <= a) (h2:a <= b) (h3:b <= lo+k) (f:Int->Int) (hf:∀ v,f v=if a <= v/\v<b then g (v - a) else 0):sm (fun j=>f (lo+j)) k=sm g (b - a).toNat:=by
 obtain ⟨s,hs⟩:∃ s:Nat,(s:Int)=a - lo:=⟨(a - lo).toNat,by omega⟩
 obtain ⟨d,hd⟩:∃ d:Nat,(d:Int)=b - a:=⟨(b - a).toNat,by omega⟩
 obtain ⟨r,hr⟩:∃ r:Nat,k=s+(d+r):=⟨k - s - d,by omega⟩
 subst hr
 rw [sm_app,sm_app,sm_none (k:=s),sm_none (k:=r),show (b - a).toNat=d by omega]
 · have : sm (fun i => f (lo + ((s:Int) + i))) d = sm g d := sm_cong fun i hi => by
     rw [hf,if_pos (by omega),show lo+((s:Int)+(i:Int)) - a=i by omega]
   rw [this];omega
 · intro i hi
   show f (lo+((s:Int)+((d:Int)+(i:Int))))=0
   rw [hf,if_neg (by omega)]
 · intro i hi
   show f (lo+(i:Int))=0
   rw [hf,if_neg (by omega)]
theorem cnt (lo f:Int):∀ k:Nat,sm (fun i=>ind (f<lo+i)) k=max 0 (min (k:Int) (lo+k - 1 - f))
 | 0=>by show 0=_;omega
 | k+1=>by
   rw [sm,cnt lo f k]
   by_cases h:f<lo+(k:Int)
   · rw [ind_t h];omega
   · rw [ind_f h];omega
theorem rev (f:Int->Int):∀ k:Nat,sm (fun j=>f ((k:Int) - j)) k=sm (fun j=>f (j+1)) k
 | 0=>rfl
 | k+1=>by
   rw [sm_left]
   have:sm (fun j=>f (((k+1:Nat):Int) - (j+1))) k=sm (fun j=>f ((k:Int) - j)) k:=sm_cong fun i _=>by
     rw [show ((k+1:Nat):Int) - ((i:Int)+1)=(k:Int) - i by omega]
   rw [this,rev f k,sm,show ((k+1:Nat):Int) - 0=(k:Int)+1 by omega]
   omega
def Up (a1 a2 b1 b2 u v:Int):Prop:=(a2<v\/a2=v/\a1 <= u)/\(v<b2\/v=b2/\u<b1)
instance (a1 a2 b1 b2 u v:Int):Decidable (Up a1 a2 b1 b2 u v):=by unfold Up;exact inferInstance
def crs (a1 a2 b1 b2 u v:Int):Int:=(b1 - a1) * (v - a2) - (b2 - a2) * (u - a1)
def bs (f:Int->Int->Int) (lo:Int) (k:Nat) (lo2:Int) (k2:Nat):Int:=sm (fun j=>sm (fun i=>f (lo+i) (lo2+j)) k) k2
def fl (a1 a2 b1 b2 j:Int):Int:=a1+((b1 - a1) * j) / (b2 - a2)
def ce (a1 a2 b1 b2 j:Int):Int:=a1 - (-((b1 - a1) * j)) / (b2 - a2)
theorem fl_lt {a1 a2 b1 b2 u j:Int} (h:a2<b2):fl a1 a2 b1 b2 j<u ↔ (b1 - a1) * j - (b2 - a2) * (u - a1)<0:=by
 have:=Int.ediv_lt_iff_lt_mul (a:=(b1 - a1) * j) (b:=u - a1) (c:=b2 - a2) (by omega)
 rw [Int.mul_comm (u - a1)] at this
 unfold fl
 omega
theorem ce_le {a1 a2 b1 b2 u j:Int} (h:a2<b2):ce a1 a2 b1 b2 j <= u ↔ (b1 - a1) * j - (b2 - a2) * (u - a1) <= 0:=by
 have:=Int.le_ediv_iff_mul_le (a:=-(u - a1)) (b:=-((b1 - a1) * j)) (c:=b2 - a2) (by omega)
 rw [Int.neg_mul,Int.mul_comm (u - a1)] at this
 unfold ce
 omega
theorem lin {d j e L:Int} (h0:0 <= j) (h1:j <= e) (l1:L <= 0) (l2:L <= d):L * e <= d * j:=by
 rcases Int.le_total 0 d with g | g
 · have:=Int.mul_nonneg g h0
   have:=Int.mul_nonpos_of_nonpos_of_nonneg l1 (show 0 <= e by omega)
   omega
 · have:=dn_le g h1
   have:=Int.mul_le_mul_of_nonneg_right (a:=L) (b:=d) (c:=e) l2 (by omega)
   omega
theorem fl_bd {a1 a2 b1 b2 lo hi j:Int} (h:a2<b2) (h0:0 <= j) (h1:j <= b2 - a2) (x1:lo <= a1) (x2:a1 <= hi) (x3:lo <= b1) (x4:b1 <= hi) :
   lo <= fl a1 a2 b1 b2 j/\fl a1 a2 b1 b2 j <= hi/\lo <= ce a1 a2 b1 b2 j/\ce a1 a2 b1 b2 j <= hi:=by
 have p1:=lin (d:=b1 - a1) (j:=j) (e:=b2 - a2) (L:=lo - a1) h0 h1 (by omega) (by omega)
 have p2:=lin (d:=-(b1 - a1)) (j:=j) (e:=b2 - a2) (L:=a1 - hi) h0 h1 (by omega) (by omega)
 rw [Int.neg_mul] at p2
 have e1:=fl_lt (a1:=a1) (b1:=b1) (u:=lo) (j:=j) h
 have e2:=fl_lt (a1:=a1) (b1:=b1) (u:=hi+1) (j:=j) h
 have e3:=ce_le (a1:=a1) (b1:=b1) (u:=hi) (j:=j) h
 have e4:=ce_le (a1:=a1) (b1:=b1) (u:=lo - 1) (j:=j) h
 have m1:(b2 - a2) * (lo - a1)=(lo - a1) * (b2 - a2):=Int.mul_comm _ _
 have m2:(b2 - a2) * (hi - a1) = -((a1 - hi) * (b2 - a2)):=by grind
 have m3:(b2 - a2) * (hi+1 - a1) = -((a1 - hi) * (b2 - a2))+(b2 - a2):=by grind
 have m4:(b2 - a2) * (lo - 1 - a1)=(lo - a1) * (b2 - a2) - (b2 - a2):=by grind
 rw [m1] at e1;rw [m3] at e2;rw [m2] at e3;rw [m4] at e4
 omega
theorem fl_ce {a1 a2 b1 b2 j:Int} (h:a2<b2):fl a1 a2 b1 b2 j+ce a1 a2 b1 b2 (b2 - a2 - j)=a1+b1:=by
 have e : -((b1 - a1) * (b2 - a2 - j))=(b1 - a1) * j+(-(b1 - a1)) * (b2 - a2):=by grind
 unfold fl ce
 rw [e,Int.add_mul_ediv_right _ _ (by omega)]
 omega
theorem fl_ce_sum {a1 a2 b1 b2:Int} (h:a2<b2):sm (fun j=>fl a1 a2 b1 b2 j+ce a1 a2 b1 b2 j) (b2 - a2).toNat=(b2 - a2) * (a1+b1) - (b1 - a1):=by
 have r:=rev (ce a1 a2 b1 b2) (b2 - a2).toNat
 have ek:(((b2 - a2).toNat:Nat):Int)=b2 - a2:=by omega
 rw [ek] at r
 have t:=sm_tele (g:=ce a1 a2 b1 b2) (b2 - a2).toNat
 rw [sm_sub,ek] at t
 have s:=sm_add (f:=fl a1 a2 b1 b2) (g:=fun j=>ce a1 a2 b1 b2 (b2 - a2 - j)) (b2 - a2).toNat
 have c:sm (fun j=>fl a1 a2 b1 b2 j+ce a1 a2 b1 b2 (b2 - a2 - j)) (b2 - a2).toNat=sm (fun _=>a1+b1) (b2 - a2).toNat:=sm_cong fun i _=>fl_ce h
 rw [c,sm_const,ek] at s
 rw [sm_add]
 have z0:ce a1 a2 b1 b2 0=a1:=by unfold ce;rw [Int.mul_zero,Int.neg_zero,Int.zero_ediv];omega
 have z1:ce a1 a2 b1 b2 (b2 - a2)=b1:=by
   unfold ce
   rw [show -((b1 - a1) * (b2 - a2))=(-(b1 - a1)) * (b2 - a2) by rw [Int.neg_mul],Int.mul_ediv_cancel _ (by omega)]
   omega
 rw [z0,z1] at t
 change sm (fun j=>fl a1 a2 b1 b2 j) (b2 - a2).toNat+sm (fun j=>ce a1 a2 b1 b2 j) (b2 - a2).toNat=_
 change _=sm (fun j=>fl a1 a2 b1 b2 j) (b2 - a2).toNat+_ at s
 change _ - sm (fun j=>ce a1 a2 b1 b2 j) (b2 - a2).toNat=_ at t
 omega
theorem coprime_count (d:Nat) (hd:0<d):∀ g:Nat,sm (fun j=>ind ((d:Int) ∣ j)) (g * d)=g
 | 0=>by rw [Nat.zero_mul];rfl
 | g+1=>by
   rw [Nat.add_mul,Nat.one_mul,sm_app,coprime_count d hd g]
   obtain ⟨k,rfl⟩:∃ k,d=k+1:=⟨d - 1,by omega⟩
   rw [sm_left,sm_none]
   · rw [ind_t (show ((k+1:Nat):Int) ∣ ((g * (k+1):Nat):Int)+0 by rw [Int.add_zero];exact Int.natCast_dvd_natCast.2 (Nat.dvd_mul_left _ _))]
     omega
   · intro i hi
     refine ind_f fun h=>?_
     have h2:((k+1:Nat):Int) ∣ ((g * (k+1):Nat):Int):=Int.natCast_dvd_natCast.2 (Nat.dvd_mul_left _ _)
     have h3:=(Int.dvd_add_right h2).1 h
     have:=Int.le_of_dvd (by omega) h3
     omega
theorem gcd_count {e d:Int} (hd:0<d):sm (fun j=>ind (d ∣ e * j)) d.toNat=((Nat.gcd e.natAbs d.natAbs:Nat):Int):=by
 have g0:0<Nat.gcd e.natAbs d.natAbs:=Nat.gcd_pos_of_pos_right _ (by omega)
 obtain ⟨d',hd'⟩:=Nat.gcd_dvd_right e.natAbs d.natAbs
 obtain ⟨e',he'⟩:=Nat.gcd_dvd_left e.natAbs d.natAbs
 have cop:Nat.Coprime e' d':=by
   have:=Nat.gcd_mul_left (Nat.gcd e.natAbs d.natAbs) e' d'
   rw [<- he',<- hd'] at this
   unfold Nat.Coprime
   exact Nat.eq_of_mul_eq_mul_left g0 (by rw [<- this,Nat.mul_one])
 have d0:0<d':=by
   rcases Nat.eq_zero_or_pos d' with q | q
   · rw [q,Nat.mul_zero] at hd';omega
   · exact q
 have hc:=coprime_count d' d0 (Nat.gcd e.natAbs d.natAbs)
 have ek:d.toNat=Nat.gcd e.natAbs d.natAbs * d':=by rw [<- hd'];omega
 rw [ek]
 clear ek
 generalize Nat.gcd e.natAbs d.natAbs=G at *
 refine Eq.trans (sm_cong fun i _=>?_) hc
 have iff:d ∣ e * (i:Int) ↔ (d':Int) ∣ (i:Int):=by
   rw [<- Int.natAbs_dvd_natAbs,Int.natAbs_mul,Int.natAbs_natCast,he',hd',Nat.mul_assoc,Nat.mul_dvd_mul_iff_left g0,Int.natCast_dvd_natCast]
   exact ⟨fun h=>Nat.Coprime.dvd_of_dvd_mul_left cop.symm h,fun h=>Nat.dvd_mul_left_of_dvd h _⟩
 by_cases h:d ∣ e * (i:Int)
 · rw [ind_t h,ind_t (iff.1 h)]
 · rw [ind_f h,ind_f (fun g=>h (iff.2 g))]
def U0 (a1 a2 b1 b2 u v:Int):Int:=ind (Up a1 a2 b1 b2 u v/\crs a1 a2 b1 b2 u v<0)
def U1 (a1 a2 b1 b2 u v:Int):Int:=ind (Up a1 a2 b1 b2 u v/\crs a1 a2 b1 b2 u v <= 0)
theorem ind_iff {p q:Prop} [Decidable p] [Decidable q] (h:p ↔ q):ind p=ind q:=by
 by_cases g:p
 · rw [ind_t g,ind_t (h.1 g)]
 · rw [ind_f g,ind_f (fun k=>g (h.2 k))]
theorem row0 {a1 a2 b1 b2 v lo:Int} {k:Nat} (h1:a2 <= v) (h2:v<b2) (x1:lo <= a1) (x2:a1<lo+k) (x3:lo <= b1) (x4:b1<lo+k) :
   sm (fun i=>U0 a1 a2 b1 b2 (lo+i) v) k=lo+k - 1 - fl a1 a2 b1 b2 (v - a2):=by
 obtain ⟨f1,f2,_,_⟩:=fl_bd (a1:=a1) (a2:=a2) (b1:=b1) (b2:=b2) (lo:=lo) (hi:=lo+k - 1) (j:=v - a2) (by omega) (by omega) (by omega) x1 (by omega) x3 (by omega)
 have c:=cnt lo (fl a1 a2 b1 b2 (v - a2)) k
 rw [show max 0 (min (k:Int) (lo+k - 1 - fl a1 a2 b1 b2 (v - a2)))=lo+k - 1 - fl a1 a2 b1 b2 (v - a2) by omega] at c
 rw [<- c]
 refine sm_cong fun i _=>ind_iff ?_
 have e:=fl_lt (a1:=a1) (a2:=a2) (b1:=b1) (b2:=b2) (u:=lo+i) (j:=v - a2) (by omega)
 rw [e]
 unfold Up crs
 constructor
 · exact fun h=>h.2
 · intro h
   refine ⟨⟨?_,.inl h2⟩,h⟩
   rcases Int.lt_or_le a2 v with g | g
   · exact .inl g
   · refine .inr ⟨by omega,?_⟩
     rw [show v - a2=0 by omega,Int.mul_zero] at h
     rcases Int.lt_or_le (lo+(i:Int)) a1 with q | q
     · have:=Int.mul_neg_of_pos_of_neg (show 0<b2 - a2 by omega) (show lo+(i:Int) - a1<0 by omega)
       omega
     · exact q
theorem row1 {a1 a2 b1 b2 v lo:Int} {k:Nat} (h1:a2 <= v) (h2:v<b2) (x1:lo <= a1) (x2:a1<lo+k) (x3:lo <= b1) (x4:b1<lo+k) :
   sm (fun i=>U1 a1 a2 b1 b2 (lo+i) v) k=lo+k - ce a1 a2 b1 b2 (v - a2):=by
 obtain ⟨_,_,f1,f2⟩:=fl_bd (a1:=a1) (a2:=a2) (b1:=b1) (b2:=b2) (lo:=lo) (hi:=lo+k - 1) (j:=v - a2) (by omega) (by omega) (by omega) x1 (by omega) x3 (by omega)
 have c:=cnt lo (ce a1 a2 b1 b2 (v - a2) - 1) k
 rw [show max 0 (min (k:Int) (lo+k - 1 - (ce a1 a2 b1 b2 (v - a2) - 1)))=lo+k - ce a1 a2 b1 b2 (v - a2) by omega] at c
 rw [<- c]
 refine sm_cong fun i _=>ind_iff ?_
 have e:=ce_le (a1:=a1) (a2:=a2) (b1:=b1) (b2:=b2) (u:=lo+i) (j:=v - a2) (by omega)
 rw [show (ce a1 a2 b1 b2 (v - a2) - 1<lo+(i:Int))=(ce a1 a2 b1 b2 (v - a2) <= lo+(i:Int)) by apply propext;omega,e]
 unfold Up crs
 constructor
 · exact fun h=>h.2
 · intro h
   refine ⟨⟨?_,.inl h2⟩,h⟩
   rcases Int.lt_or_le a2 v with g | g
   · exact .inl g
   · refine .inr ⟨by omega,?_⟩
     rw [show v - a2=0 by omega,Int.mul_zero] at h
     rcases Int.lt_or_le (lo+(i:Int)) a1 with q | q
     · have:=Int.mul_neg_of_pos_of_neg (show 0<b2 - a2 by omega) (show lo+(i:Int) - a1<0 by omega)
       omega
     · exact q
theorem row_no {a1 a2 b1 b2 v lo:Int} {k:Nat} (h:a2<b2) (hv:¬ (a2 <= v/\v<b2)):sm (fun i=>U0 a1 a2 b1 b2 (lo+i) v) k=0/\sm (fun i=>U1 a1 a2 b1 b2 (lo+i) v) k=0:=by
 have no:∀ u,Up a1 a2 b1 b2 u v->0<crs a1 a2 b1 b2 u v:=fun u hu=>by
   unfold Up at hu
   obtain ⟨rfl,hu2⟩:v=b2/\u<b1:=by omega
   unfold crs
   rw [Int.mul_comm (b1 - a1),<- Int.mul_sub]
   exact Int.mul_pos (by omega) (by omega)
 constructor
 · refine sm_none fun i _=>ind_f fun g=>?_
   have:=no _ g.1;omega
 · refine sm_none fun i _=>ind_f fun g=>?_
   have:=no _ g.1;omega
theorem level {a1 a2 b1 v lo:Int} {k:Nat} (h:a1<b1) (x1:lo <= a1) (x4:b1<lo+k):sm (fun i=>U0 a1 a2 b1 a2 (lo+i) v) k=0/\sm (fun i=>U1 a1 a2 b1 a2 (lo+i) v) k=if a2 <= v/\v<a2+1 then b1 - a1 else 0:=by
 have z:∀ u v,Up a1 a2 b1 a2 u v->crs a1 a2 b1 a2 u v=0/\v=a2:=fun u v hu=>by
   unfold Up at hu
   unfold crs
   rw [show v - a2=0 by omega,Int.sub_self,Int.mul_zero,Int.zero_mul]
   omega
 refine ⟨sm_none fun i _=>ind_f fun g=>?_,?_⟩
 · have:=z _ _ g.1;omega
 by_cases hv:a2 <= v/\v<a2+1
 · rw [if_pos hv]
   have c1:=cnt lo (a1 - 1) k
   have c2:=cnt lo (b1 - 1) k
   rw [show max 0 (min (k:Int) (lo+k - 1 - (a1 - 1)))=lo+k - a1 by omega] at c1
   rw [show max 0 (min (k:Int) (lo+k - 1 - (b1 - 1)))=lo+k - b1 by omega] at c2
   have s:=sm_sub (f:=fun i=>ind (a1 - 1<lo+i)) (g:=fun i=>ind (b1 - 1<lo+i)) k
   have e:sm (fun i=>U1 a1 a2 b1 a2 (lo+i) v) k=sm (fun i=>ind (a1 - 1<lo+i) - ind (b1 - 1<lo+i)) k:=sm_cong fun i _=>by
     show U1 a1 a2 b1 a2 (lo+(i:Int)) v=ind (a1 - 1<lo+(i:Int)) - ind (b1 - 1<lo+(i:Int))
     unfold U1
     by_cases hu:Up a1 a2 b1 a2 (lo+i) v
     · rw [ind_t ⟨hu,by rw [(z _ _ hu).1];omega⟩]
       unfold Up at hu
       rw [ind_t (by omega),ind_f (by omega)];rfl
     · rw [ind_f (fun g=>hu g.1)]
       unfold Up at hu
       by_cases q:a1 - 1<lo+(i:Int)
       · rw [ind_t q,ind_t (by omega)];rfl
       · rw [ind_f q,ind_f (by omega)];rfl
   rw [e,s,c1,c2];omega
 · rw [if_neg hv]
   refine sm_none fun i _=>ind_f fun g=>?_
   have:=z _ _ g.1;omega
theorem box_up {a1 a2 b1 b2 lo lo2:Int} {k k2:Nat} (h:a2<b2\/a2=b2/\a1<b1) (x1:lo <= a1) (x2:a1<lo+k) (x3:lo <= b1) (x4:b1<lo+k) (y1:lo2 <= a2) (y2:a2<lo2+k2) (y4:b2<lo2+k2) :
   bs (U0 a1 a2 b1 b2) lo k lo2 k2+bs (U1 a1 a2 b1 b2) lo k lo2 k2=(2 * (lo+k - 1)+1) * (b2 - a2) - (b2 - a2) * (a1+b1)+(b1 - a1) /\
   bs (U1 a1 a2 b1 b2) lo k lo2 k2 - bs (U0 a1 a2 b1 b2) lo k lo2 k2=((Nat.gcd (b1 - a1).natAbs (b2 - a2).natAbs:Nat):Int):=by
 unfold bs
 rcases h with h | ⟨rfl,h⟩
 · have w0 := window (k := k2) (g := fun j => lo + k - 1 - fl a1 a2 b1 b2 j) y1 (Int.le_of_lt h) (by omega) (fun v => sm (fun i => U0 a1 a2 b1 b2 (lo + i) v) k) (fun v => by
     by_cases hv:a2 <= v/\v<b2
     · rw [if_pos hv];exact row0 hv.1 hv.2 x1 x2 x3 x4
     · rw [if_neg hv];exact (row_no h hv).1)
   have w1:=window (k:=k2) (g:=fun j=>lo+k - ce a1 a2 b1 b2 j) y1 (Int.le_of_lt h) (by omega) (fun v=>sm (fun i=>U1 a1 a2 b1 b2 (lo+i) v) k) (fun v=>by
     by_cases hv:a2 <= v/\v<b2
     · rw [if_pos hv];exact row1 hv.1 hv.2 x1 x2 x3 x4
     · rw [if_neg hv];exact (row_no h hv).2)
   rw [w0,w1]
   have ek:(((b2 - a2).toNat:Nat):Int)=b2 - a2:=by omega
   have s:=fl_ce_sum (a1:=a1) (b1:=b1) h
   refine ⟨?_,?_⟩
   · rw [<- sm_add]
     have e:sm (fun j=>(lo+k - 1 - fl a1 a2 b1 b2 j)+(lo+k - ce a1 a2 b1 b2 j)) (b2 - a2).toNat=sm (fun j=>(2 * (lo+k - 1)+1) - (fl a1 a2 b1 b2 j+ce a1 a2 b1 b2 j)) (b2 - a2).toNat:=sm_cong fun i _=>by
       show (lo+k - 1 - fl a1 a2 b1 b2 i)+(lo+k - ce a1 a2 b1 b2 i)=(2 * (lo+k - 1)+1) - (fl a1 a2 b1 b2 i+ce a1 a2 b1 b2 i)
       omega
     rw [e,sm_sub (f:=fun _=>2 * (lo+k - 1)+1),sm_const,s,ek,Int.mul_comm (b2 - a2) (2 * (lo+(k:Int) - 1)+1)]
     omega
   · rw [<- sm_sub,<- gcd_count (show 0<b2 - a2 by omega)]
     refine sm_cong fun i _=>?_
     show lo+k - ce a1 a2 b1 b2 i - (lo+k - 1 - fl a1 a2 b1 b2 i)=_
     unfold fl ce
     by_cases hd:(b2 - a2) ∣ (b1 - a1) * (i:Int)
     · rw [ind_t hd,Int.neg_ediv_of_dvd hd]
       omega
     · rw [ind_f hd,Int.neg_ediv,if_neg hd,Int.sign_eq_one_of_pos (by omega)]
       omega
 · have l:=fun v=>level (a2:=a2) (v:=v) h x1 x4
   have z:sm (fun j=>sm (fun i=>U0 a1 a2 b1 a2 (lo+i) (lo2+j)) k) k2=0:=sm_none fun j _=>(l (lo2+j)).1
   have w1:=window (k:=k2) (g:=fun _=>b1 - a1) y1 (show a2 <= a2+1 by omega) (by omega) (fun v=>sm (fun i=>U1 a1 a2 b1 a2 (lo+i) v) k) (fun v=>(l v).2)
   rw [z,w1,sm_const,Int.sub_self,show a2+1 - a2=1 by omega,Int.natAbs_zero,Nat.gcd_zero_right]
   simp only [Int.mul_zero,Int.zero_mul,show ((Int.toNat 1:Nat):Int)=1 from rfl,Int.one_mul]
   omega
end PArea
namespace PArea
def hh (x y:Int->Int) (a:Int):Int:=8000001 * y a+x a
def Sm (a:Int):Prop:=-4000000 <= a/\a <= 4000000
def lexlt (a1 a2 c1 c2:Int):Prop:=a2<c2\/a2=c2/\a1<c1
instance (a1 a2 c1 c2:Int):Decidable (lexlt a1 a2 c1 c2):=by unfold lexlt;exact inferInstance
theorem up_iff {a1 a2 c1 c2 u v:Int} (h1:Sm a1) (h2:Sm a2) (h3:Sm c1) (h4:Sm c2) (h5:Sm u) (h6:Sm v):Up a1 a2 c1 c2 u v ↔ (8000001 * a2+a1 <= 8000001 * v+u/\8000001 * v+u<8000001 * c2+c1):=by
 unfold Sm at *
 unfold Up
 omega
theorem crs_neg (a1 a2 c1 c2 u v:Int):crs c1 c2 a1 a2 u v = - crs a1 a2 c1 c2 u v:=by unfold crs;grind
theorem sgn_iff {d w D c:Int} (hd:0<d) (hD:0<D) (h:d * w=D * (8000001 * c)):(w<0 ↔ c<0)/\(w <= 0 ↔ c <= 0):=by
 rcases Int.lt_trichotomy c 0 with g | g | g <;> rcases Int.lt_trichotomy w 0 with k | k | k
 · omega
 · rw [k,Int.mul_zero] at h;have:=Int.mul_neg_of_pos_of_neg hD (show 8000001 * c<0 by omega);omega
 · have:=Int.mul_pos hd k;have:=Int.mul_neg_of_pos_of_neg hD (show 8000001 * c<0 by omega);omega
 · rw [g,Int.mul_zero,Int.mul_zero] at h;have:=Int.mul_neg_of_pos_of_neg hd k;omega
 · omega
 · rw [g,Int.mul_zero,Int.mul_zero] at h;have:=Int.mul_pos hd k;omega
 · have:=Int.mul_neg_of_pos_of_neg hd k;have:=Int.mul_pos hD (show 0<8000001 * c by omega);omega
 · rw [k,Int.mul_zero] at h;have:=Int.mul_pos hD (show 0<8000001 * c by omega);omega
 · omega
def onE (a1 a2 c1 c2 u v:Int):Prop:=crs a1 a2 c1 c2 u v=0/\(min a1 c1 <= u/\u <= max a1 c1)/\(min a2 c2 <= v/\v <= max a2 c2)
instance (a1 a2 c1 c2 u v:Int):Decidable (onE a1 a2 c1 c2 u v):=by unfold onE;exact inferInstance
theorem onE_comm {a1 a2 c1 c2 u v:Int}:onE a1 a2 c1 c2 u v ↔ onE c1 c2 a1 a2 u v:=by
 unfold onE
 rw [crs_neg]
 omega
theorem onE_up {a1 a2 c1 c2 u v:Int} (h:lexlt a1 a2 c1 c2):onE a1 a2 c1 c2 u v ↔ (crs a1 a2 c1 c2 u v=0/\Up a1 a2 c1 c2 u v)\/(u=c1/\v=c2):=by
 constructor
 · rintro ⟨e,h1,h2⟩
   have e':=e
   unfold crs at e'
   rcases h with h | ⟨rfl,h⟩
   · by_cases g1:v=a2
     · rw [g1,Int.sub_self,Int.mul_zero] at e'
       rcases Int.mul_eq_zero.1 (show (c2 - a2) * (u - a1)=0 by omega) with k | k
       · omega
       · exact .inl ⟨e,by unfold Up;omega⟩
     · by_cases g2:v=c2
       · rw [g2,Int.mul_comm,<- Int.mul_sub] at e'
         rcases Int.mul_eq_zero.1 e' with k | k <;> omega
       · exact .inl ⟨e,by unfold Up;omega⟩
   · by_cases g:u=c1
     · omega
     · exact .inl ⟨e,by unfold Up;omega⟩
 · rintro (⟨e,hu⟩ | ⟨rfl,rfl⟩)
   · refine ⟨e,?_⟩
     rcases h with h | ⟨rfl,h⟩
     · unfold Up at hu
       have b:=fl_bd (a1:=a1) (a2:=a2) (b1:=c1) (b2:=c2) (lo:=min a1 c1) (hi:=max a1 c1) (j:=v - a2) h (by omega) (by omega) (by omega) (by omega) (by omega) (by omega)
       have f1:=fl_lt (a1:=a1) (b1:=c1) (u:=u) (j:=v - a2) h
       have f2:=ce_le (a1:=a1) (b1:=c1) (u:=u) (j:=v - a2) h
       unfold crs at e
       rw [e] at f1 f2
       omega
     · unfold Up at hu;omega
   · refine ⟨?_,by omega,by omega⟩
     unfold crs;rw [Int.mul_comm];omega
def E (a1 a2 c1 c2 u v:Int):Int:=if lexlt a1 a2 c1 c2 then U0 a1 a2 c1 c2 u v+U1 a1 a2 c1 c2 u v else - (U0 c1 c2 a1 a2 u v+U1 c1 c2 a1 a2 u v)
def crP (a1 a2 c1 c2 u v:Int):Prop:=(a2 <= v/\v<c2/\0<crs a1 a2 c1 c2 u v)\/(c2 <= v/\v<a2/\crs a1 a2 c1 c2 u v<0)
instance (a1 a2 c1 c2 u v:Int):Decidable (crP a1 a2 c1 c2 u v):=by unfold crP;exact inferInstance
theorem crP_comm {a1 a2 c1 c2 u v:Int}:crP a1 a2 c1 c2 u v ↔ crP c1 c2 a1 a2 u v:=by
 unfold crP;rw [crs_neg a1 a2 c1 c2];omega
theorem par_up {a1 a2 c1 c2 u v:Int} (h:lexlt a1 a2 c1 c2) (off:¬ onE a1 a2 c1 c2 u v):ind (crP a1 a2 c1 c2 u v)+U0 a1 a2 c1 c2 u v=ind (v<c2) - ind (v<a2):=by
 rw [onE_up h] at off
 have hu:Up a1 a2 c1 c2 u v->crs a1 a2 c1 c2 u v ≠ 0:=fun g e=>off (.inl ⟨e,g⟩)
 unfold U0
 by_cases g1:v<a2
 · have gl:v<c2:=by unfold lexlt at h;omega
   rw [ind_f (show ¬ crP a1 a2 c1 c2 u v by unfold crP;omega),ind_f (fun g=>by unfold Up at g;omega),ind_t g1,ind_t gl];rfl
 · by_cases g2:v<c2
   · rw [ind_t g2,ind_f g1]
     by_cases g3:v=a2
     · have e:crs a1 a2 c1 c2 u v = - ((c2 - a2) * (u - a1)):=by unfold crs;rw [g3,Int.sub_self,Int.mul_zero];omega
       rcases Int.lt_trichotomy u a1 with k | k | k
       · have:=Int.mul_neg_of_pos_of_neg (show 0<c2 - a2 by omega) (show u - a1<0 by omega)
         rw [ind_t (show crP a1 a2 c1 c2 u v by unfold crP;omega),ind_f (fun g=>by omega)];rfl
       · exact absurd (show crs a1 a2 c1 c2 u v=0 by rw [e,k,Int.sub_self,Int.mul_zero];rfl) (hu (by unfold Up;omega))
       · have:=Int.mul_pos (show 0<c2 - a2 by omega) (show 0<u - a1 by omega)
         rw [ind_f (show ¬ crP a1 a2 c1 c2 u v by unfold crP;omega),ind_t ⟨by unfold Up;omega,by omega⟩];rfl
     · have up:Up a1 a2 c1 c2 u v:=by unfold Up;omega
       rcases Int.lt_or_lt_of_ne (hu up) with k | k
       · rw [ind_f (show ¬ crP a1 a2 c1 c2 u v by unfold crP;omega),ind_t ⟨up,k⟩];rfl
       · rw [ind_t (show crP a1 a2 c1 c2 u v by unfold crP;omega),ind_f (fun g=>by omega)];rfl
   · rw [ind_f g2,ind_f g1,ind_f (show ¬ crP a1 a2 c1 c2 u v by unfold crP;unfold lexlt at h;omega),ind_f];rfl
     rintro ⟨g3,g4⟩
     unfold Up at g3
     unfold lexlt at h
     rcases h with h | ⟨rfl,h⟩
     · have e:crs a1 a2 c1 c2 u v=(c2 - a2) * (c1 - u):=by unfold crs;rw [show v=c2 by omega];grind
       have:=Int.mul_pos (show 0<c2 - a2 by omega) (show 0<c1 - u by omega)
       omega
     · refine hu (by unfold Up;omega) ?_
       unfold crs;rw [Int.sub_self,Int.zero_mul,show v - a2=0 by omega,Int.mul_zero];rfl
section
variable {n:Nat} {x y m:Int->Int} {D κ:Int}
structure Box (n:Nat) (x y m:Int->Int) (D:Int) (lo:Int) (k:Nat) (lo2:Int) (k2:Nat):Prop where
 P:Poly n x (hh x y) m D
 yp:∀ a b:Int,a % (n:Int)=b % (n:Int)->y a=y b
 bx:∀ a,lo <= x a/\x a<lo+k
 b2:∀ a,lo2 <= y a/\y a<lo2+k2
 s1 : -4000000 <= lo
 s2:lo+k <= 4000001
 s3 : -4000000 <= lo2
 s4:lo2+k2 <= 4000001
variable {lo lo2:Int} {k k2:Nat}
theorem Rg (P:Poly n x (hh x y) m D) (b u v:Int):(hh x y (b+1) - hh x y b) * (X x (hh x y) m D b (8000001 * v+u) - D * u)=D * (8000001 * crs (x b) (y b) (x (b+1)) (y (b+1)) u v):=by
 have:=P.hm b
 unfold X crs hh at *
 grind
theorem bs1 (B:Box n x y m D lo k lo2 k2) (a:Int):Sm (x a)/\Sm (y a):=by
 have:=B.bx a;have:=B.b2 a;have:=B.s1;have:=B.s2;have:=B.s3;have:=B.s4
 unfold Sm;omega
theorem lex_or (B:Box n x y m D lo k lo2 k2) (b:Int):lexlt (x b) (y b) (x (b+1)) (y (b+1))/\hh x y b<hh x y (b+1)\/¬ lexlt (x b) (y b) (x (b+1)) (y (b+1))/\lexlt (x (b+1)) (y (b+1)) (x b) (y b)/\hh x y (b+1)<hh x y b:=by
 have d:=dy_ne B.P b
 obtain ⟨h1,h2⟩:=bs1 B b
 obtain ⟨h3,h4⟩:=bs1 B (b+1)
 unfold Sm at *
 unfold hh lexlt at *
 omega
theorem w_edge (B:Box n x y m D lo k lo2 k2) (b:Int) {u v:Int} (h5:Sm u) (h6:Sm v) :
   q (hh x y) (8000001 * v+u) b * ind (X x (hh x y) m D b (8000001 * v+u)<D * u)=(if lexlt (x b) (y b) (x (b+1)) (y (b+1)) then U0 (x b) (y b) (x (b+1)) (y (b+1)) u v else - U0 (x (b+1)) (y (b+1)) (x b) (y b) u v) /\
   q (hh x y) (8000001 * v+u) b * ind (X x (hh x y) m D b (8000001 * v+u)<D * u+1)=(if lexlt (x b) (y b) (x (b+1)) (y (b+1)) then U1 (x b) (y b) (x (b+1)) (y (b+1)) u v else - U1 (x (b+1)) (y (b+1)) (x b) (y b) u v):=by
 obtain ⟨h1,h2⟩:=bs1 B b
 obtain ⟨h3,h4⟩:=bs1 B (b+1)
 have r:=Rg B.P b u v
 rcases lex_or B b with ⟨l,g⟩ | ⟨l,l',g⟩
 · rw [if_pos l,if_pos l]
   have i:=up_iff h1 h2 h3 h4 h5 h6
   obtain ⟨s1,s2⟩:=sgn_iff (by omega) B.P.hD r
   unfold U0 U1
   by_cases hu:Up (x b) (y b) (x (b+1)) (y (b+1)) u v
   · obtain ⟨i1,i2⟩:=i.1 hu
     rw [q_up (a:=b) i1 i2,Int.one_mul,Int.one_mul]
     exact ⟨ind_iff ⟨fun z=>⟨hu,s1.1 (by omega)⟩,fun z=>by have:=s1.2 z.2;omega⟩,ind_iff ⟨fun z=>⟨hu,s2.1 (by omega)⟩,fun z=>by have:=s2.2 z.2;omega⟩⟩
   · have:¬ act (hh x y) b (8000001 * v+u):=fun z=>hu (i.2 (by unfold act at z;unfold hh at z g;omega))
     rw [q_no this,Int.zero_mul,Int.zero_mul,ind_f (fun z=>hu z.1),ind_f (fun z=>hu z.1)]
     exact ⟨rfl,rfl⟩
 · rw [if_neg l,if_neg l]
   have i:=up_iff h3 h4 h1 h2 h5 h6
   have r':(hh x y b - hh x y (b+1)) * (X x (hh x y) m D b (8000001 * v+u) - D * u)=D * (8000001 * crs (x (b+1)) (y (b+1)) (x b) (y b) u v):=by
     rw [crs_neg (x b)]
     grind
   obtain ⟨s1,s2⟩:=sgn_iff (by omega) B.P.hD r'
   unfold U0 U1
   by_cases hu:Up (x (b+1)) (y (b+1)) (x b) (y b) u v
   · obtain ⟨i1,i2⟩:=i.1 hu
     rw [q_dn (a:=b) i1 i2,Int.neg_mul,Int.one_mul,Int.neg_mul,Int.one_mul]
     exact ⟨congrArg _ (ind_iff ⟨fun z=>⟨hu,s1.1 (by omega)⟩,fun z=>by have:=s1.2 z.2;omega⟩),congrArg _ (ind_iff ⟨fun z=>⟨hu,s2.1 (by omega)⟩,fun z=>by have:=s2.2 z.2;omega⟩)⟩
   · have:¬ act (hh x y) b (8000001 * v+u):=fun z=>hu (i.2 (by unfold act at z;unfold hh at z g;omega))
     rw [q_no this,Int.zero_mul,Int.zero_mul,ind_f (fun z=>hu z.1),ind_f (fun z=>hu z.1)]
     exact ⟨rfl,rfl⟩
def W2 (n:Nat) (x y m:Int->Int) (D u v:Int):Int:=WX n x (hh x y) m D (8000001 * v+u) (8000001 * v+u) (D * u)+WX n x (hh x y) m D (8000001 * v+u) (8000001 * v+u) (D * u+1)
theorem W2_E (B:Box n x y m D lo k lo2 k2) {u v:Int} (h5:Sm u) (h6:Sm v):W2 n x y m D u v=sm (fun b=>E (x b) (y b) (x (b+1)) (y (b+1)) u v) n:=by
 unfold W2 WX
 rw [<- sm_add]
 refine sm_cong fun i _=>?_
 obtain ⟨e1,e2⟩:=w_edge B (i:Int) h5 h6
 show q _ _ _ * ind _+q _ _ _ * ind _=_
 rw [e1,e2]
 unfold E
 by_cases g:lexlt (x i) (y i) (x ((i:Int)+1)) (y ((i:Int)+1))
 · rw [if_pos g,if_pos g,if_pos g]
 · rw [if_neg g,if_neg g,if_neg g];omega
theorem bs_cong {f g:Int->Int->Int} (h:∀ u v,lo <= u->u<lo+k->lo2 <= v->v<lo2+k2->f u v=g u v):bs f lo k lo2 k2=bs g lo k lo2 k2:=by
 unfold bs
 exact sm_cong fun j hj=>sm_cong fun i hi=>h _ _ (by omega) (by omega) (by omega) (by omega)
theorem bs_add (f g:Int->Int->Int):bs (fun u v=>f u v+g u v) lo k lo2 k2=bs f lo k lo2 k2+bs g lo k lo2 k2:=by
 unfold bs
 rw [<- sm_add]
 exact sm_cong fun j _=>sm_add k
theorem bs_mul (c:Int) (f:Int->Int->Int):bs (fun u v=>c * f u v) lo k lo2 k2=c * bs f lo k lo2 k2:=by
 unfold bs
 rw [<- sm_mul]
 exact sm_cong fun j _=>sm_mul c k
theorem bs_sm (f:Int->Int->Int->Int) (n:Nat):bs (fun u v=>sm (fun b=>f b u v) n) lo k lo2 k2=sm (fun b=>bs (f b) lo k lo2 k2) n:=by
 unfold bs
 rw [<- swap (fun j b=>sm (fun i=>f b (lo+i) (lo2+j)) k) n k2]
 exact sm_cong fun j _=>swap (fun i b=>f b (lo+i) (lo2+j)) n k
theorem bs_pt {a1 a2:Int} (h1:lo <= a1/\a1<lo+k) (h2:lo2 <= a2/\a2<lo2+k2):bs (fun u v=>ind (u=a1/\v=a2)) lo k lo2 k2=1:=by
 have r:∀ v,sm (fun i=>ind (lo+i=a1/\v=a2)) k=if a2 <= v/\v<a2+1 then 1 else 0:=fun v=>by
   by_cases hv:v=a2
   · rw [if_pos (by omega)]
     have w:=window (k:=k) (g:=fun _=>1) h1.1 (show a1 <= a1+1 by omega) (by omega) (fun u=>ind (u=a1/\v=a2)) (fun u=>by
       by_cases hu:u=a1
       · rw [if_pos (by omega),ind_t ⟨hu,hv⟩]
       · rw [if_neg (by omega),ind_f (fun z=>hu z.1)])
     rw [w,sm_const,show a1+1 - a1=1 by omega];rfl
   · rw [if_neg (by omega)]
     exact sm_none fun i _=>ind_f fun z=>hv z.2
 unfold bs
 have w:=window (k:=k2) (g:=fun _=>1) h2.1 (show a2 <= a2+1 by omega) (by omega) (fun v=>sm (fun i=>ind (lo+i=a1/\v=a2)) k) r
 rw [w,sm_const,show a2+1 - a2=1 by omega];rfl
theorem bs_E (B:Box n x y m D lo k lo2 k2) (b:Int):bs (E (x b) (y b) (x (b+1)) (y (b+1))) lo k lo2 k2=(2 * (lo+k - 1)+1) * (y (b+1) - y b) - (y (b+1) - y b) * (x b+x (b+1))+(x (b+1) - x b):=by
 have a1:=B.bx b;have a2:=B.b2 b;have c1:=B.bx (b+1);have c2:=B.b2 (b+1)
 rcases lex_or B b with ⟨l,g⟩ | ⟨l,l',g⟩
 · have h:=(box_up (k:=k) (k2:=k2) l a1.1 a1.2 c1.1 c1.2 a2.1 a2.2 c2.2).1
   rw [<- h,<- bs_add]
   exact bs_cong fun u v _ _ _ _=>if_pos l
 · have h:=(box_up (k:=k) (k2:=k2) l' c1.1 c1.2 a1.1 a1.2 c2.1 c2.2 a2.2).1
   rw [<- bs_add] at h
   have e:bs (E (x b) (y b) (x (b+1)) (y (b+1))) lo k lo2 k2=bs (fun u v=>-1 * (U0 (x (b+1)) (y (b+1)) (x b) (y b) u v+U1 (x (b+1)) (y (b+1)) (x b) (y b) u v)) lo k lo2 k2:=bs_cong fun u v _ _ _ _=>by
     unfold E;rw [if_neg l];omega
   rw [e,bs_mul,h]
   grind
theorem sumE (B:Box n x y m D lo k lo2 k2):bs (W2 n x y m D) lo k lo2 k2 = - sm (fun b=>(x b+x (b+1)) * (y (b+1) - y b)) n:=by
 have s1:=B.s1;have s2:=B.s2;have s3:=B.s3;have s4:=B.s4
 have e:bs (W2 n x y m D) lo k lo2 k2=bs (fun u v=>sm (fun b=>E (x b) (y b) (x (b+1)) (y (b+1)) u v) n) lo k lo2 k2:=bs_cong fun u v _ _ _ _=>W2_E B (by unfold Sm;omega) (by unfold Sm;omega)
 rw [e,bs_sm (fun b=>E (x b) (y b) (x (b+1)) (y (b+1)))]
 have t1:=per_tele (n:=n) (g:=y) B.yp
 have t2:=per_tele (n:=n) (g:=x) B.P.px
 have f:sm (fun b=>bs (E (x b) (y b) (x (b+1)) (y (b+1))) lo k lo2 k2) n=sm (fun b=>(2 * (lo+k - 1)+1) * (y (b+1) - y b) - (x b+x (b+1)) * (y (b+1) - y b)+(x (b+1) - x b)) n:=sm_cong fun b _=>by
   rw [bs_E B,Int.mul_comm (y ((b:Int)+1) - y b) (x b+x ((b:Int)+1))]
 rw [f,sm_add (f:=fun b=>(2 * (lo+k - 1)+1) * (y (b+1) - y b) - (x b+x (b+1)) * (y (b+1) - y b)),sm_sub (f:=fun b=>(2 * (lo+k - 1)+1) * (y (b+1) - y b)),sm_mul (f:=fun b=>y (b+1) - y b),t1,t2]
 omega
end
end PArea
namespace PArea
section
variable {n:Nat} {x y m:Int->Int} {D κ:Int} {lo lo2:Int} {k k2:Nat}
def eOn (x y:Int->Int) (b u v:Int):Prop:=onE (x b) (y b) (x (b+1)) (y (b+1)) u v
instance (x y:Int->Int) (b u v:Int):Decidable (eOn x y b u v):=by unfold eOn;exact inferInstance
def cEnd (x y:Int->Int) (b u v:Int):Prop:=u=x (b+1)/\v=y (b+1)
instance (x y:Int->Int) (b u v:Int):Decidable (cEnd x y b u v):=by unfold cEnd;exact inferInstance
theorem yper (B:Box n x y m D lo k lo2 k2) {a b:Int} (h:a % (n:Int)=b % (n:Int)) (u v:Int):(eOn x y a u v ↔ eOn x y b u v)/\(cEnd x y a u v ↔ cEnd x y b u v):=by
 have s:=succ_mod h 1
 unfold eOn cEnd
 rw [B.P.px a b h,B.yp a b h,B.P.px _ _ s,B.yp _ _ s]
 exact ⟨Iff.rfl,Iff.rfl⟩
theorem corner_ne (B:Box n x y m D lo k lo2 k2) {a b:Int} (h:x a=x b/\y a=y b):a % (n:Int)=b % (n:Int):=by
 by_cases g:a % (n:Int)=b % (n:Int)
 · exact g
 · have:=B.P.hy a b g
   unfold hh at this;omega
theorem on_in (B:Box n x y m D lo k lo2 k2) {b u v:Int} (h:eOn x y b u v) (h1:¬ (u=x b/\v=y b)) (h2:¬ cEnd x y b u v) :
   ((hh x y b<8000001 * v+u/\8000001 * v+u<hh x y (b+1))\/(hh x y (b+1)<8000001 * v+u/\8000001 * v+u<hh x y b))/\X x (hh x y) m D b (8000001 * v+u)=D * u:=by
 obtain ⟨e,w1,w2⟩:=h
 unfold cEnd at h2
 have b1:=bs1 B b;have b2:=bs1 B (b+1)
 unfold Sm at b1 b2
 have r:=Rg B.P b u v
 rw [e,Int.mul_zero,Int.mul_zero] at r
 have d:=dy_ne B.P b
 refine ⟨?_,?_⟩
 · rcases lex_or B b with ⟨l,g⟩ | ⟨_,l,g⟩
   · have o:=(onE_up l).1 ⟨e,w1,w2⟩
     rcases o with ⟨_,o⟩ | o
     · unfold Up at o;unfold hh;omega
     · exact absurd o h2
   · have o:=(onE_up l).1 (onE_comm.1 ⟨e,w1,w2⟩)
     rcases o with ⟨_,o⟩ | o
     · unfold Up at o;unfold hh;omega
     · exact absurd o h1
 · rcases Int.mul_eq_zero.1 r with z | z <;> omega
theorem act_on (B:Box n x y m D lo k lo2 k2) {b u v:Int} (h5:Sm u) (h6:Sm v) (ha:act (hh x y) b (8000001 * v+u)) (hX:X x (hh x y) m D b (8000001 * v+u)=D * u):eOn x y b u v:=by
 have r:=Rg B.P b u v
 rw [hX,Int.sub_self,Int.mul_zero] at r
 have e:crs (x b) (y b) (x (b+1)) (y (b+1)) u v=0:=by
   rcases Int.mul_eq_zero.1 r.symm with z | z
   · have:=B.P.hD;omega
   · omega
 obtain ⟨b1,b2⟩:=bs1 B b;obtain ⟨b3,b4⟩:=bs1 B (b+1)
 unfold eOn
 rcases lex_or B b with ⟨l,g⟩ | ⟨_,l,g⟩
 · exact (onE_up l).2 (.inl ⟨e,(up_iff b1 b2 b3 b4 h5 h6).2 (by unfold act at ha;unfold hh at ha g;omega)⟩)
 · refine onE_comm.2 ((onE_up l).2 (.inl ⟨by rw [crs_neg];omega,(up_iff b3 b4 b1 b2 h5 h6).2 (by unfold act at ha;unfold hh at ha g;omega)⟩))
theorem sm_par {f:Int->Int}:∀ {k:Nat},(∀ i:Nat,i<k->f (i:Int) % 2=0)->sm f k % 2=0
 | 0,_=>rfl
 | k+1,h=>by
   have:=sm_par (k:=k) fun i hi=>h i (by omega)
   have:=h k (by omega)
   rw [sm];omega
theorem off_par (B:Box n x y m D lo k lo2 k2) {u v:Int} (h5:Sm u) (h6:Sm v) (off:∀ b,¬ eOn x y b u v) :
   (sm (fun b=>ind (crP (x b) (y b) (x (b+1)) (y (b+1)) u v)) n+WX n x (hh x y) m D (8000001 * v+u) (8000001 * v+u) (D * u)) % 2=0:=by
 have s:=sm_shift1 (n:=n) (f:=fun b=>ind (v<y b)) (fun a b h=>by show ind (v<y a)=ind (v<y b);rw [B.yp a b h])
 have key:sm (fun b=>(ind (crP (x b) (y b) (x (b+1)) (y (b+1)) u v)+q (hh x y) (8000001 * v+u) b * ind (X x (hh x y) m D b (8000001 * v+u)<D * u))+(ind (v<y (b+1))+ind (v<y b))) n % 2=0:=sm_par fun i _=>by
   show (ind (crP (x i) (y i) (x ((i:Int)+1)) (y ((i:Int)+1)) u v)+q (hh x y) (8000001 * v+u) i * ind (X x (hh x y) m D i (8000001 * v+u)<D * u)+(ind (v<y ((i:Int)+1))+ind (v<y i))) % 2=0
   rw [(w_edge B (i:Int) h5 h6).1]
   rcases lex_or B (i:Int) with ⟨l,g⟩ | ⟨l,l',g⟩
   · rw [if_pos l]
     have:=par_up l (off i)
     omega
   · rw [if_neg l,ind_iff crP_comm]
     have:=par_up l' (fun z=>off i (onE_comm.1 z))
     have c:ind (crP (x ((i:Int)+1)) (y ((i:Int)+1)) (x i) (y i) u v)=0\/ind (crP (x ((i:Int)+1)) (y ((i:Int)+1)) (x i) (y i) u v)=1:=by
       unfold ind;split
       · exact .inr rfl
       · exact .inl rfl
     omega
 rw [sm_add (f:=fun b=>ind (crP (x b) (y b) (x (b+1)) (y (b+1)) u v)+q (hh x y) (8000001 * v+u) b * ind (X x (hh x y) m D b (8000001 * v+u)<D * u)),sm_add (f:=fun b=>ind (crP (x b) (y b) (x (b+1)) (y (b+1)) u v)),sm_add (f:=fun b=>ind (v<y (b+1)))] at key
 change sm (fun b=>ind (v<y (b+1))) n=sm (fun b=>ind (v<y b)) n at s
 unfold WX
 omega
theorem sm_uni (hn:0<n) {f:Int->Int} (hf:per n f) (c:Int) (h:∀ b:Int,b % (n:Int) ≠ c % (n:Int)->f b=0):sm f n=f c:=by
 have:=sm_one (n:=n) hn hf (g:=fun _=>0) (fun _ _ _=>rfl) c h
 rw [sm_zero] at this
 omega
def Tells (n:Nat) (x y:Int->Int) (F:Int->Int->Int) (u v:Int):Prop :=
 ((∃ b,eOn x y b u v)->F u v=0)/\((∀ b,¬ eOn x y b u v)->(F u v=1/\sm (fun b=>ind (crP (x b) (y b) (x (b+1)) (y (b+1)) u v)) n % 2=1)\/(F u v = -1/\sm (fun b=>ind (crP (x b) (y b) (x (b+1)) (y (b+1)) u v)) n % 2=0))
theorem point (B:Box n x y m D lo k lo2 k2) (hκ:∀ a j,act (hh x y) a j->K n x (hh x y) m D a j = -1) {F:Int->Int->Int} {u v:Int} (h5:Sm u) (h6:Sm v) (t:Tells n x y F u v) :
   W2 n x y m D u v=(-2 * ind (F u v=1) + -1 * ind (F u v=0))+sm (fun b=>tau x (hh x y) b * ind (cEnd x y b u v)) n:=by
 have hn:=B.P.hn
 have tp:per n (tau x (hh x y)):=fun a b h=>by
   unfold tau
   rw [Sv_per B.P (succ_mod h 1) h,Sv_per B.P h (succ_mod h 2)]
 have fp:per n (fun b=>tau x (hh x y) b * ind (cEnd x y b u v)):=fun a b h=>by
   show tau x (hh x y) a * ind (cEnd x y a u v)=_
   rw [tp a b h,ind_iff (yper B h u v).2]
 by_cases hc:∃ b,cEnd x y b u v
 · obtain ⟨b,rfl,rfl⟩:=hc
   have on:eOn x y b (x (b+1)) (y (b+1)):=by
     refine ⟨?_,by omega,by omega⟩
     unfold crs;rw [Int.mul_comm];omega
   rw [t.1 ⟨b,on⟩,ind_f (show ¬ (0:Int)=1 by decide),ind_t rfl,sm_uni (by omega) fp b (fun a ha=>by
     rw [ind_f (fun z=>ha (pred_mod (corner_ne B ⟨z.1.symm,z.2.symm⟩))),Int.mul_zero]),ind_t ⟨rfl,rfl⟩]
   have:=at_corner B.P hκ b
   unfold W2
   unfold hh at this ⊢
   omega
 · have z:sm (fun b=>tau x (hh x y) b * ind (cEnd x y b u v)) n=0:=sm_none fun i _=>by rw [ind_f (fun z=>hc ⟨_,z⟩),Int.mul_zero]
   rw [z]
   by_cases ho:∃ b,eOn x y b u v
   · obtain ⟨b,ho⟩:=ho
     rw [t.1 ⟨b,ho⟩,ind_f (show ¬ (0:Int)=1 by decide),ind_t rfl]
     obtain ⟨g1,g2⟩:=on_in B ho (fun z=>hc ⟨b - 1,by unfold cEnd;rw [show b - 1+1=b by omega];exact z⟩) (fun z=>hc ⟨b,z⟩)
     have:=in_edge B.P hκ g1
     rw [g2] at this
     unfold W2
     omega
   · have off:∀ b,¬ eOn x y b u v:=fun b z=>ho ⟨b,z⟩
     have e:=WX_off (n:=n) (m:=m) (D:=D) (x:=x) (y:=hh x y) (j:=8000001 * v+u) (T:=D * u) (8000001 * v+u) (fun b hb hX=>off b (act_on B h5 h6 hb hX))
     have o:=off_or B.P hκ (8000001 * v+u) (D * u)
     have p:=off_par B h5 h6 off
     unfold W2
     rw [e]
     rcases t.2 off with ⟨f,g⟩ | ⟨f,g⟩
     · rw [f,ind_t rfl,ind_f (by decide)];omega
     · rw [f,ind_f (by decide),ind_f (by decide)];omega
def O (x y:Int->Int) (b u v:Int):Int:=ind (eOn x y b u v/\¬ cEnd x y b u v)
theorem bs_O (B:Box n x y m D lo k lo2 k2) (b:Int):bs (O x y b) lo k lo2 k2=((Nat.gcd (x (b+1) - x b).natAbs (y (b+1) - y b).natAbs:Nat):Int):=by
 have a1:=B.bx b;have a2:=B.b2 b;have c1:=B.bx (b+1);have c2:=B.b2 (b+1)
 have i2:∀ {p q:Prop} [Decidable p] [Decidable q],(p->q)->ind q - ind p=ind (q/\¬ p):=fun {p q} _ _ h=>by
   by_cases g:q
   · by_cases g':p
     · rw [ind_t g,ind_t g',ind_f (fun z=>z.2 g')];rfl
     · rw [ind_t g,ind_f g',ind_t ⟨g,g'⟩];rfl
   · rw [ind_f g,ind_f (fun z=>g (h z)),ind_f (fun z=>g z.1)];rfl
 have du:∀ a1 a2 c1 c2 u v,U1 a1 a2 c1 c2 u v + -1 * U0 a1 a2 c1 c2 u v=ind (crs a1 a2 c1 c2 u v=0/\Up a1 a2 c1 c2 u v):=fun a1 a2 c1 c2 u v=>by
   have:=i2 (p:=Up a1 a2 c1 c2 u v/\crs a1 a2 c1 c2 u v<0) (q:=Up a1 a2 c1 c2 u v/\crs a1 a2 c1 c2 u v <= 0) (fun z=>⟨z.1,by omega⟩)
   unfold U0 U1
   rw [show ∀ a b:Int,a + -1 * b=a - b by omega,this]
   exact ind_iff ⟨fun z=>⟨by have:=z.1.2;by_cases h:crs a1 a2 c1 c2 u v<0;exact absurd ⟨z.1.1,h⟩ z.2;omega,z.1.1⟩,fun z=>⟨⟨z.2,by omega⟩,fun w=>by omega⟩⟩
 rcases lex_or B b with ⟨l,g⟩ | ⟨l,l',g⟩
 · have h:=(box_up (k:=k) (k2:=k2) l a1.1 a1.2 c1.1 c1.2 a2.1 a2.2 c2.2).2
   rw [<- h]
   have e:bs (O x y b) lo k lo2 k2=bs (fun u v=>U1 (x b) (y b) (x (b+1)) (y (b+1)) u v + -1 * U0 (x b) (y b) (x (b+1)) (y (b+1)) u v) lo k lo2 k2:=bs_cong fun u v _ _ _ _=>by
     rw [du]
     unfold O eOn cEnd
     refine ind_iff ?_
     rw [onE_up l]
     constructor
     · rintro ⟨z | z,w⟩
       · exact z
       · exact absurd z w
     · exact fun z=>⟨.inl z,fun w=>by have:=z.2;unfold Up at this;omega⟩
   rw [e,bs_add,bs_mul];omega
 · have h:=(box_up (k:=k) (k2:=k2) l' c1.1 c1.2 a1.1 a1.2 c2.1 c2.2 a2.2).2
   have p1:=bs_pt (lo:=lo) (k:=k) (lo2:=lo2) (k2:=k2) a1 a2
   have p2:=bs_pt (lo:=lo) (k:=k) (lo2:=lo2) (k2:=k2) c1 c2
   have e:bs (O x y b) lo k lo2 k2=bs (fun u v=>(U1 (x (b+1)) (y (b+1)) (x b) (y b) u v + -1 * U0 (x (b+1)) (y (b+1)) (x b) (y b) u v)+(ind (u=x b/\v=y b) + -1 * ind (u=x (b+1)/\v=y (b+1)))) lo k lo2 k2:=bs_cong fun u v _ _ _ _=>by
     rw [du]
     unfold O eOn cEnd
     have o:=onE_up (u:=u) (v:=v) l'
     rw [<- onE_comm] at o
     by_cases z1:u=x (b+1)/\v=y (b+1)
     · rw [ind_f (fun w=>w.2 z1),ind_t z1]
       have:crs (x (b+1)) (y (b+1)) (x b) (y b) u v=0:=by unfold crs;rw [z1.1,z1.2,Int.sub_self,Int.sub_self,Int.mul_zero,Int.mul_zero];rfl
       rw [ind_t ⟨this,by unfold Up;unfold lexlt at l';omega⟩,ind_f (fun w=>by unfold lexlt at l';omega)];rfl
     · rw [ind_f z1]
       by_cases z2:u=x b/\v=y b
       · rw [ind_t z2,ind_t ⟨o.2 (.inr z2),z1⟩,ind_f (fun w=>by have:=w.2;unfold Up at this;omega)];rfl
       · rw [ind_f z2,show ∀ t:Int,t+(0 + -1 * 0)=t by omega]
         refine ind_iff ⟨fun w=>?_,fun w=>⟨o.2 (.inl w),z1⟩⟩
         rcases o.1 w.1 with w | w
         · exact w
         · exact absurd w z2
   rw [e,bs_add,bs_add,bs_add,bs_mul,bs_mul,p1,p2,show (x (b+1) - x b).natAbs=(x b - x (b+1)).natAbs by omega,show (y (b+1) - y b).natAbs=(y b - y (b+1)).natAbs by omega,<- h]
   omega
def Two (n:Nat) (x y:Int->Int):Prop:=∀ a b u v:Int,eOn x y a u v->eOn x y b u v->a % (n:Int) ≠ b % (n:Int)->(b % (n:Int)=(a+1) % (n:Int)/\cEnd x y a u v)\/(a % (n:Int)=(b+1) % (n:Int)/\cEnd x y b u v)
theorem sumO (B:Box n x y m D lo k lo2 k2) (h2:Two n x y) {u v:Int} {f:Int} (h:((∃ b,eOn x y b u v)->f=0)/\((∀ b,¬ eOn x y b u v)->f ≠ 0)):sm (fun b=>O x y b u v) n=ind (f=0):=by
 have hn:=B.P.hn
 have op:per n (fun b=>O x y b u v):=fun a b h=>ind_iff (by rw [(yper B h u v).1,(yper B h u v).2])
 by_cases ho:∃ b,eOn x y b u v
 · rw [ind_t (h.1 ho)]
   obtain ⟨b,hb,hc⟩:∃ b,eOn x y b u v/\¬ cEnd x y b u v:=by
     obtain ⟨b,hb⟩:=ho
     by_cases hc:cEnd x y b u v
     · refine ⟨b+1,?_,fun z=>?_⟩
       · obtain ⟨rfl,rfl⟩:=hc
         refine ⟨?_,by omega,by omega⟩
         unfold crs;rw [Int.sub_self,Int.sub_self,Int.mul_zero,Int.mul_zero];rfl
       · exact next_ne hn (b+1) (corner_ne B ⟨by rw [<- hc.1,<- z.1],by rw [<- hc.2,<- z.2]⟩)
     · exact ⟨b,hb,hc⟩
   rw [sm_uni (by omega) op b (fun a ha=>ind_f fun z=>by
     rcases h2 a b u v z.1 hb ha with w | w
     · exact z.2 w.2
     · exact hc w.2)]
   exact ind_t ⟨hb,hc⟩
 · rw [ind_f (h.2 fun b z=>ho ⟨b,z⟩)]
   exact sm_none fun i _=>ind_f fun z=>ho ⟨_,z.1⟩
theorem pick (B:Box n x y m D lo k lo2 k2) (h2:Two n x y) {F:Int->Int->Int} (t:∀ u v,lo <= u->u<lo+k->lo2 <= v->v<lo2+k2->Tells n x y F u v) (A0:0<sm (fun b=>(x b+x (b+1)) * (y (b+1) - y b)) n) :
   sm (fun b=>(x b+x (b+1)) * (y (b+1) - y b)) n=2 * bs (fun u v=>ind (F u v=1)) lo k lo2 k2+bs (fun u v=>ind (F u v=0)) lo k lo2 k2 - 2 /\
   bs (fun u v=>ind (F u v=0)) lo k lo2 k2=sm (fun b=>((Nat.gcd (x (b+1) - x b).natAbs (y (b+1) - y b).natAbs:Nat):Int)) n:=by
 have s1:=B.s1;have s2:=B.s2;have s3:=B.s3;have s4:=B.s4
 obtain ⟨κ,hκ⟩:=K_all B.P
 have hneg:=area_sg B.P hκ
 have e:sm (fun b=>(x b+x (b+1)) * (hh x y (b+1) - hh x y b)) n=8000001 * sm (fun b=>(x b+x (b+1)) * (y (b+1) - y b)) n:=by
   have t:=per_tele (n:=n) (g:=fun b=>x b * x b) (fun a b h=>by show x a * x a=x b * x b;rw [B.P.px a b h])
   have s:=sm_add (f:=fun b=>8000001 * ((x b+x (b+1)) * (y (b+1) - y b))) (g:=fun b=>x (b+1) * x (b+1) - x b * x b) n
   rw [sm_mul] at s
   have u:sm (fun b=>(x b+x (b+1)) * (hh x y (b+1) - hh x y b)) n=sm (fun b=>8000001 * ((x b+x (b+1)) * (y (b+1) - y b))+(x (b+1) * x (b+1) - x b * x b)) n:=sm_cong fun b _=>by unfold hh;grind
   change sm (fun b=>x (b+1) * x (b+1) - x b * x b) n=0 at t
   omega
 rw [e] at hneg
 obtain rfl:κ = -1:=by
   rcases κ_one B.P hκ with rfl | rfl
   · omega
   · rfl
 have tn:=turn_sum B.P hκ
 have sE:=sumE B
 have pts:bs (W2 n x y m D) lo k lo2 k2=bs (fun u v=>(-2 * ind (F u v=1) + -1 * ind (F u v=0))+sm (fun b=>tau x (hh x y) b * ind (cEnd x y b u v)) n) lo k lo2 k2:=bs_cong fun u v q1 q2 q3 q4=>point B hκ (by unfold Sm;omega) (by unfold Sm;omega) (t u v q1 q2 q3 q4)
 rw [bs_add,bs_add,bs_mul,bs_mul,bs_sm (fun b u v=>tau x (hh x y) b * ind (cEnd x y b u v))] at pts
 have cs:sm (fun b=>bs (fun u v=>tau x (hh x y) b * ind (cEnd x y b u v)) lo k lo2 k2) n=sm (tau x (hh x y)) n:=sm_cong fun b _=>by
   rw [bs_mul]
   have:=bs_pt (lo:=lo) (k:=k) (lo2:=lo2) (k2:=k2) (B.bx ((b:Int)+1)) (B.b2 ((b:Int)+1))
   have this:bs (fun u v=>ind (cEnd x y b u v)) lo k lo2 k2=1:=this
   rw [this,Int.mul_one]
 have on:bs (fun u v=>ind (F u v=0)) lo k lo2 k2=bs (fun u v=>sm (fun b=>O x y b u v) n) lo k lo2 k2:=bs_cong fun u v q1 q2 q3 q4=>by
   have tt:=t u v q1 q2 q3 q4
   refine (sumO B h2 ⟨tt.1,fun off=>?_⟩).symm
   rcases tt.2 off with w | w <;> omega
 rw [bs_sm (O x y)] at on
 refine ⟨by omega,?_⟩
 rw [on]
 exact sm_cong fun b _=>bs_O B b
end
end PArea
namespace PArea
section
variable {n:Nat} {x y m:Int->Int} {D κ:Int} {lo lo2:Int} {k k2:Nat}
theorem no_in (P:Poly n x y m D) {b c:Int} (hs:(y b<y c/\y c<y (b+1))\/(y (b+1)<y c/\y c<y b)) (hX:X x y m D b (y c)=D * x c):False:=by
 have n1:b % (n:Int) ≠ c % (n:Int):=fun e=>by rw [P.py _ _ e] at hs;omega
 have n2:(b+1) % (n:Int) ≠ c % (n:Int):=fun e=>by rw [P.py _ _ e] at hs;omega
 by_cases h:b % (n:Int)=(c+1) % (n:Int)
 · obtain ⟨β,hl,hc⟩:=slope P c
   have e:=hl (y c)
   rw [<- X_per P h,hX,X_lo,Int.sub_self] at e
   rw [P.py _ _ h,y_per1 P h,aa] at hs
   rcases Int.mul_eq_zero.1 e.symm with z | z
   · rw [z,Int.zero_mul,Int.mul_zero] at hc
     rcases Int.mul_eq_zero.1 hc.symm with w | w
     · have:=P.hD;omega
     · have:=P.co c w;omega
   · omega
 · refine end_ne P (a:=b) (b:=c) (c:=c) ⟨n1,h,n2⟩ (.inl rfl) ⟨by omega,by omega⟩ ?_
   rw [hX,X_lo];omega
theorem two (B:Box n x y m D lo k lo2 k2):Two n x y:=fun a b u v ha hb hab=>by
 have P:=B.P
 have hc:∀ c,u=x c/\v=y c->8000001 * v+u=hh x y c/\D * u=D * x c:=fun c ⟨h1,h2⟩=>by rw [h1,h2];exact ⟨rfl,rfl⟩
 by_cases b0:u=x b/\v=y b
 · by_cases a0:u=x a/\v=y a
   · exact absurd (corner_ne B ⟨by rw [<- a0.1,<- b0.1],by rw [<- a0.2,<- b0.2]⟩) hab
   · by_cases a1:cEnd x y a u v
     · exact .inl ⟨corner_ne B ⟨by rw [<- a1.1,<- b0.1],by rw [<- a1.2,<- b0.2]⟩,a1⟩
     · obtain ⟨s1,s2⟩:=on_in B ha a0 a1
       obtain ⟨e1,e2⟩:=hc b b0
       rw [e1] at s1 s2;rw [e2] at s2
       exact (no_in P s1 s2).elim
 · by_cases b1:cEnd x y b u v
   · by_cases a0:u=x a/\v=y a
     · exact .inr ⟨corner_ne B ⟨by rw [<- b1.1,<- a0.1],by rw [<- b1.2,<- a0.2]⟩,b1⟩
     · by_cases a1:cEnd x y a u v
       · exact absurd (pred_mod (corner_ne B (a:=a+1) (b:=b+1) ⟨by rw [<- a1.1,<- b1.1],by rw [<- a1.2,<- b1.2]⟩)) hab
       · obtain ⟨s1,s2⟩:=on_in B ha a0 a1
         obtain ⟨e1,e2⟩:=hc (b+1) b1
         rw [e1] at s1 s2;rw [e2] at s2
         exact (no_in P s1 s2).elim
   · obtain ⟨s1,s2⟩:=on_in B hb b0 b1
     by_cases a0:u=x a/\v=y a
     · obtain ⟨e1,e2⟩:=hc a a0
       rw [e1] at s1 s2;rw [e2] at s2
       exact (no_in P s1 s2).elim
     · by_cases a1:cEnd x y a u v
       · obtain ⟨e1,e2⟩:=hc (a+1) a1
         rw [e1] at s1 s2;rw [e2] at s2
         exact (no_in P s1 s2).elim
       · obtain ⟨t1,t2⟩:=on_in B ha a0 a1
         have A1:act (hh x y) a (8000001 * v+u):=by unfold act;omega
         have A2:act (hh x y) b (8000001 * v+u):=by unfold act;omega
         rcases (sep P A1 A2 (fun e=>hab e.symm)).2.2.2 (by omega) with ⟨_,g⟩ | ⟨_,g⟩ <;> omega
end
end PArea
namespace PArea
def mD (x y:Int->Int) (D a:Int):Int:=(x (a+1) - x a) * (D / (y (a+1) - y a))
def dvd (n:Nat) (y:Int->Int) (D:Int):Prop:=∀ a b:Int,a % (n:Int) ≠ b % (n:Int)->(y b - y a) ∣ D
structure PolyC (n:Nat) (x y:Int->Int) (D:Int):Prop where
 P:Poly n x y (mD x y D) D
 dv:dvd n y D
def Kap (n:Nat) (x y:Int->Int) (D κ:Int):Prop:=∀ a j,act y a j->K n x y (mD x y D) D a j=κ
theorem poly_make {n:Nat} {x y:Int->Int} {D:Int} (hn:3 <= n) (px:∀ a b:Int,a % (n:Int)=b % (n:Int)->x a=x b) (py:∀ a b:Int,a % (n:Int)=b % (n:Int)->y a=y b) (hD:0<D) (dv:dvd n y D)
   (hy:∀ a b:Int,a % (n:Int) ≠ b % (n:Int)->y a ≠ y b) (on:∀ a b:Int,far n a b -> ∀ c,(c=b\/c=b+1)->within y a c->cr x y a c ≠ 0)
   (no:∀ a b:Int,far n a b->¬ (cr x y a b * cr x y a (b+1)<0/\cr x y b a * cr x y b (a+1)<0))
   (co:∀ a:Int,cr x y a (a+2)=0->(y a<y (a+1)/\y (a+1)<y (a+2))\/(y (a+2)<y (a+1)/\y (a+1)<y a)):PolyC n x y D :=
 ⟨⟨hn,px,py,fun a b h=>by unfold mD;rw [px a b h,py a b h,px _ _ (succ_mod h 1),py _ _ (succ_mod h 1)],hD,fun a=>by
   unfold mD;rw [Int.mul_assoc,Int.ediv_mul_cancel (dv a (a+1) (next_ne hn a)),Int.mul_comm],hy,on,no,co⟩,dv⟩
def ec (D j Y T x1 y1 x2 y2:Int):Int:=(ind (j<y2) - ind (j<y1)) * ind (D * x1+(x2 - x1) * (D / (y2 - y1)) * (Y - y1)<T)
theorem ec_rev {D j Y T x1 y1 x2 y2:Int} (h:(y2 - y1) ∣ D) (hne:y1 ≠ y2):ec D j Y T x2 y2 x1 y1 = - ec D j Y T x1 y1 x2 y2:=by
 obtain ⟨k,hk⟩:=h
 have d1:D / (y2 - y1)=k:=by rw [hk];exact Int.mul_ediv_cancel_left _ (by omega)
 have d2:D / (y1 - y2) = -k:=by rw [hk,show (y2 - y1) * k=(y1 - y2) * -k by grind];exact Int.mul_ediv_cancel_left _ (by omega)
 unfold ec
 rw [d1,d2,show D * x2+(x1 - x2) * -k * (Y - y2)=D * x1+(x2 - x1) * k * (Y - y1) by rw [hk];grind]
 grind
theorem WX_ec (n:Nat) (x y:Int->Int) (D j Y T:Int):WX n x y (mD x y D) D j Y T=sm (fun b=>ec D j Y T (x b) (y b) (x (b+1)) (y (b+1))) n:=rfl
def pos (a:Int) (d:Nat) (i:Int):Int:=a+i % ((d:Int)+1)
def pt (x:Int->Int) (a:Int) (d:Nat) (i:Int):Int:=x (pos a d i)
theorem pt_at (x:Int->Int) (a:Int) {d:Nat} {r:Int} (h0:0 <= r) (h1:r <= d):pt x a d r=x (a+r):=by
 unfold pt pos;rw [Int.emod_eq_of_lt h0 (by omega)]
theorem pt_end (x:Int->Int) (a:Int) (d:Nat):pt x a d ((d:Int)+1)=x a:=by
 unfold pt pos;rw [Int.emod_self,Int.add_zero]
theorem pt_per (x:Int->Int) (a:Int) (d:Nat):∀ i k:Int,i % ((d+1:Nat):Int)=k % ((d+1:Nat):Int)->pt x a d i=pt x a d k:=fun i k h=>by
 unfold pt pos
 rw [show ((d+1:Nat):Int)=(d:Int)+1 by omega] at h
 rw [h]
theorem red (d:Nat) (i:Int):∃ r:Int,0 <= r/\r <= d/\i % ((d+1:Nat):Int)=r % ((d+1:Nat):Int):=by
 refine ⟨i % ((d+1:Nat):Int),Int.emod_nonneg _ (by omega),?_,by rw [Int.emod_emod]⟩
 have:=Int.emod_lt_of_pos i (show 0<((d+1:Nat):Int) by omega)
 omega
theorem sum_part (φ:Int->Int->Int->Int->Int) (x y:Int->Int) (a:Int) (d:Nat) :
   sm (fun b=>φ (pt x a d b) (pt y a d b) (pt x a d (b+1)) (pt y a d (b+1))) (d+1)=sm (fun r=>φ (x (a+r)) (y (a+r)) (x (a+r+1)) (y (a+r+1))) d+φ (x (a+d)) (y (a+d)) (x a) (y a):=by
 rw [sm,pt_at x a (by omega) (Int.le_refl _),pt_at y a (by omega) (Int.le_refl _),pt_end,pt_end]
 congr 1
 refine sm_cong fun i hi=>?_
 rw [pt_at x a (by omega) (by omega),pt_at y a (by omega) (by omega),pt_at x a (by omega) (by omega),pt_at y a (by omega) (by omega),Int.add_assoc]
theorem sum_parts {φ:Int->Int->Int->Int->Int} {n:Nat} {x y:Int->Int} (px:per n x) (py:per n y) (a:Int) {d d':Nat} (hd:d+d'=n)
   (h:φ (x a) (y a) (x (a+d)) (y (a+d)) = - φ (x (a+d)) (y (a+d)) (x a) (y a)) :
   sm (fun b=>φ (x b) (y b) (x (b+1)) (y (b+1))) n=sm (fun b=>φ (pt x a d b) (pt y a d b) (pt x a d (b+1)) (pt y a d (b+1))) (d+1)+sm (fun b=>φ (pt x (a+d) d' b) (pt y (a+d) d' b) (pt x (a+d) d' (b+1)) (pt y (a+d) d' (b+1))) (d'+1):=by
 rw [sum_part,sum_part]
 have e:(a+d+(d':Int)) % (n:Int)=a % (n:Int):=by rw [show a+d+(d':Int)=a+n by omega,Int.add_emod_right]
 rw [px _ _ e,py _ _ e,h]
 have hp:per n (fun b=>φ (x b) (y b) (x (b+1)) (y (b+1))):=fun u v h=>by
   show φ (x u) (y u) (x (u+1)) (y (u+1))=_
   rw [px u v h,py u v h,px _ _ (succ_mod h 1),py _ _ (succ_mod h 1)]
 have sh:sm (fun b=>φ (x b) (y b) (x (b+1)) (y (b+1))) n=sm (fun r=>φ (x (a+r)) (y (a+r)) (x (a+r+1)) (y (a+r+1))) n:=by
   rcases Nat.eq_zero_or_pos n with h0 | h0
   · subst h0;rfl
   have h0':=Int.emod_nonneg a (show (n:Int) ≠ 0 by omega)
   rw [<- sm_shift (a % (n:Int)).toNat hp]
   refine sm_cong fun i _=>?_
   have:=hp ((i:Int)+((a % (n:Int)).toNat:Int)) (a+i) (by rw [Int.toNat_of_nonneg h0',Int.add_emod_emod,Int.add_comm])
   exact this
 rw [sh,<- hd,sm_app]
 have:sm (fun r=>φ (x (a+d+r)) (y (a+d+r)) (x (a+d+r+1)) (y (a+d+r+1))) d'=sm (fun i=>(fun r=>φ (x (a+r)) (y (a+r)) (x (a+r+1)) (y (a+r+1))) ((d:Int)+i)) d':=sm_cong fun i _=>by
   show _=φ (x (a+(d+i))) (y (a+(d+i))) (x (a+(d+i)+1)) (y (a+(d+i)+1))
   rw [Int.add_assoc]
 dsimp only at this ⊢
 omega
def c3 (x y:Int->Int) (a b c:Int):Int:=(x b - x a) * (y c - y a) - (y b - y a) * (x c - x a)
theorem cr_c3 (x y:Int->Int) (a c:Int):cr x y a c=c3 x y a (a+1) c:=rfl
section
variable {n:Nat} {x y:Int->Int} {D κ:Int}
theorem mod_ne {n:Nat} {u v:Int} (h1:0<v - u) (h2:v - u<n):u % (n:Int) ≠ v % (n:Int):=fun q=>by
 have h1':(v - u) % (n:Int)=0:=by rw [Int.sub_emod,q,Int.sub_self,Int.zero_emod]
 rw [Int.emod_eq_of_lt (by omega) h2] at h1'
 omega
structure Clean (x y:Int->Int) (a:Int) (d:Nat):Prop where
 on:∀ r:Int,1 <= r->r <= (d:Int) - 1->min (y (a+d)) (y a) <= y (a+r)->y (a+r) <= max (y (a+d)) (y a)->c3 x y (a+d) a (a+r) ≠ 0
 off:∀ r:Int,1 <= r->r+2 <= (d:Int)->¬ (c3 x y (a+d) a (a+r) * c3 x y (a+d) a (a+r+1)<0/\c3 x y (a+r) (a+r+1) (a+d) * c3 x y (a+r) (a+r+1) a<0)
 e1:c3 x y (a+d - 1) (a+d) a=0->(y (a+d - 1)<y (a+d)/\y (a+d)<y a)\/(y a<y (a+d)/\y (a+d)<y (a+d - 1))
 e2:c3 x y (a+d) a (a+1)=0->(y (a+d)<y a/\y a<y (a+1))\/(y (a+1)<y a/\y a<y (a+d))
theorem part_poly (C:PolyC n x y D) {a:Int} {d:Nat} (h2:2 <= d) (hd:d+1 <= n) (Q:Clean x y a d):PolyC (d+1) (pt x a d) (pt y a d) D:=by
 have P:=C.P
 have ed:((d+1:Nat):Int)=(d:Int)+1:=by omega
 have dist:∀ r s:Int,0 <= r->r <= d->0 <= s->s <= d->r ≠ s->(a+r) % (n:Int) ≠ (a+s) % (n:Int):=fun r s r0 r1 s0 s1 hne=>by
   rcases Int.lt_or_lt_of_ne hne with g | g
   · exact mod_ne (by omega) (by omega)
   · exact (mod_ne (by omega) (by omega)).symm
 have two':∀ (p:Int->Int->Prop),(∀ i k i' k':Int,i % ((d+1:Nat):Int)=i' % ((d+1:Nat):Int)->k % ((d+1:Nat):Int)=k' % ((d+1:Nat):Int)->p i' k'->p i k)->(∀ r s:Int,0 <= r->r <= d->0 <= s->s <= d->p r s) -> ∀ i k,p i k:=fun p hp h i k=>by
   obtain ⟨r,r0,r1,er⟩:=red d i
   obtain ⟨s,s0,s1,es⟩:=red d k
   exact hp i k r s er es (h r s r0 r1 s0 s1)
 have px:=pt_per x a d
 have py:=pt_per y a d
 have crp:∀ {i k i' k':Int},i % ((d+1:Nat):Int)=i' % ((d+1:Nat):Int)->k % ((d+1:Nat):Int)=k' % ((d+1:Nat):Int)->cr (pt x a d) (pt y a d) i k=cr (pt x a d) (pt y a d) i' k':=fun {i k i' k'} h1 h2=>by
   unfold cr
   rw [px i i' h1,py i i' h1,px k k' h2,py k k' h2,px _ _ (succ_mod h1 1),py _ _ (succ_mod h1 1)]
 have fr:∀ {i k i' k':Int},i % ((d+1:Nat):Int)=i' % ((d+1:Nat):Int)->k % ((d+1:Nat):Int)=k' % ((d+1:Nat):Int)->far (d+1) i k->far (d+1) i' k':=fun {i k i' k'} h1 h2 h=>by
   unfold far at *
   rw [<- h1,<- h2,<- succ_mod h1 1,<- succ_mod h2 1];exact h
 -- the chain's edges,the way back
 have chain:∀ {r:Int} (k:Int),0 <= r->r+1 <= d->0 <= k->k <= d->cr (pt x a d) (pt y a d) r k=cr x y (a+r) (a+k):=fun {r} k h0 h1 k0 k1=>by
   unfold cr
   rw [pt_at x a h0 (by omega),pt_at y a h0 (by omega),pt_at x a k0 k1,pt_at y a k0 k1,pt_at x a (show 0 <= r+1 by omega) h1,pt_at y a (show 0 <= r+1 by omega) h1,Int.add_assoc]
 have back:∀ (k:Int),0 <= k->k <= d->cr (pt x a d) (pt y a d) d k=c3 x y (a+d) a (a+k):=fun k k0 k1=>by
   unfold cr c3
   rw [pt_at x a (by omega) (Int.le_refl _),pt_at y a (by omega) (Int.le_refl _),pt_at x a k0 k1,pt_at y a k0 k1,pt_end,pt_end]
 have farI:∀ {r s:Int},0 <= r->r <= d->0 <= s->s <= d->far (d+1) r s->r ≠ s/\r ≠ s+1/\r+1 ≠ s/\¬ (r=0/\s=d)/\¬ (r=d/\s=0):=fun {r s} _ _ _ _ h=>by
   refine ⟨fun e=>h.1 (by rw [e]),fun e=>h.2.1 (by rw [e]),fun e=>h.2.2 (by rw [e]),fun e=>h.2.1 ?_,fun e=>h.2.2 ?_⟩
   · rw [e.1,e.2,ed,Int.emod_self,Int.zero_emod]
   · rw [e.1,e.2,ed,Int.emod_self,Int.zero_emod]
 have farP:∀ {r s:Int},0 <= r->r+1 <= d->0 <= s->s+1 <= d->r ≠ s->r ≠ s+1->r+1 ≠ s->far n (a+r) (a+s):=fun {r s} r0 r1 s0 s1 h1 h2 h3 =>
   ⟨dist r s r0 (by omega) s0 (by omega) h1,by rw [Int.add_assoc];exact dist r (s+1) r0 (by omega) (by omega) s1 h2,by rw [Int.add_assoc];exact dist (r+1) s (by omega) r1 s0 (by omega) h3⟩
 have corner:∀ {r c:Int},0 <= r->r+1 <= d->0 <= c->c <= d->c ≠ r->c ≠ r+1->within y (a+r) (a+c)->cr x y (a+r) (a+c) ≠ 0:=fun {r c} r0 r1 c0 c1 h1 h2 hw e=>by
   have n1:=P.hy _ _ (dist c r c0 c1 r0 (by omega) h1)
   have n2:=P.hy _ _ (dist c (r+1) c0 c1 (by omega) r1 h2)
   rw [<- Int.add_assoc] at n2
   unfold within at hw
   have rr:=R1 P (a+r) (a+c)
   rw [e,Int.mul_zero] at rr
   have dne:=dy_ne P (a+r)
   rcases Int.mul_eq_zero.1 rr with z | z
   · omega
   · exact no_in P (b:=a+r) (c:=a+c) (by omega) (by omega)
 refine poly_make (by omega) px py P.hD ?_ ?_ ?_ ?_ ?_
 · exact two' (fun i k => i % ((d + 1:Nat):Int) ≠ k % ((d + 1:Nat):Int) -> (pt y a d k - pt y a d i) ∣ D) (fun i k i' k' h1 h2 hp hne => by rw [py _ _ h1, py _ _ h2]; exact hp (by rw [<- h1, <- h2]; exact hne)) (fun r s r0 r1 s0 s1 hne => by
     rw [pt_at y a r0 r1,pt_at y a s0 s1]
     exact C.dv _ _ (dist r s r0 r1 s0 s1 (fun e=>hne (by rw [e]))))
 · exact two' (fun i k => i % ((d + 1:Nat):Int) ≠ k % ((d + 1:Nat):Int) -> pt y a d i ≠ pt y a d k) (fun i k i' k' h1 h2 hp hne => by rw [py _ _ h1, py _ _ h2]; exact hp (by rw [<- h1, <- h2]; exact hne)) (fun r s r0 r1 s0 s1 hne => by
     rw [pt_at y a r0 r1,pt_at y a s0 s1]
     exact P.hy _ _ (dist r s r0 r1 s0 s1 (fun e=>hne (by rw [e]))))
 · refine two' (fun i k=>far (d+1) i k -> ∀ c,(c=k\/c=k+1)->within (pt y a d) i c->cr (pt x a d) (pt y a d) i c ≠ 0) (fun i k i' k' h1 h2 hp hf c hc hw=>?_) (fun r s r0 r1 s0 s1 hf=>?_)
   · have hcc : ∃ c', (c' = k' \/ c' = k' + 1) /\ c % ((d + 1:Nat):Int) = c' % ((d + 1:Nat):Int) := by
       rcases hc with rfl | rfl
       · exact ⟨k',.inl rfl,h2⟩
       · exact ⟨k'+1,.inr rfl,succ_mod h2 1⟩
     obtain ⟨c',hc',e⟩:=hcc
     rw [crp h1 e]
     refine hp (fr h1 h2 hf) c' hc' ?_
     unfold within at *
     rw [<- py _ _ h1,<- py _ _ (succ_mod h1 1),<- py _ _ e];exact hw
   · obtain ⟨f1,f2,f3,f4,f5⟩:=farI r0 r1 s0 s1 hf
     have cs:∀ c,(c=s\/c=s+1) -> ∃ c',0 <= c'/\c' <= (d:Int)/\c % ((d+1:Nat):Int)=c' % ((d+1:Nat):Int)/\(c'=s\/c'=s+1\/(c'=0/\s=d)):=fun c hc=>by
       rcases hc with rfl | rfl
       · exact ⟨c,s0,s1,rfl,.inl rfl⟩
       · by_cases g:s=d
         · refine ⟨0,by omega,by omega,?_,.inr (.inr ⟨rfl,g⟩)⟩
           rw [g,ed,Int.emod_self,Int.zero_emod]
         · exact ⟨s+1,by omega,by omega,rfl,.inr (.inl rfl)⟩
     intro c hc hw
     obtain ⟨c',c0,c1,e,hcs⟩:=cs c hc
     rw [crp rfl e]
     have hw:within (pt y a d) r c':=by unfold within at *;rw [<- py _ _ e];exact hw
     by_cases g:r=d
     · rw [g,back c' c0 c1]
       unfold within at hw
       rw [g,pt_end,pt_at y a (by omega) (Int.le_refl _),pt_at y a c0 c1] at hw
       exact Q.on c' (by omega) (by omega) hw.1 hw.2
     · rw [chain c' r0 (by omega) c0 c1]
       refine corner r0 (by omega) c0 c1 (by omega) (by omega) ?_
       unfold within at hw ⊢
       rw [pt_at y a r0 r1,pt_at y a c0 c1,pt_at y a (show 0 <= r+1 by omega) (by omega),<- Int.add_assoc] at hw
       exact hw
 · refine two' (fun i k=>far (d+1) i k->¬ (cr (pt x a d) (pt y a d) i k * cr (pt x a d) (pt y a d) i (k+1)<0/\cr (pt x a d) (pt y a d) k i * cr (pt x a d) (pt y a d) k (i+1)<0)) (fun i k i' k' h1 h2 hp hf=>?_) (fun r s r0 r1 s0 s1 hf=>?_)
   · rw [crp h1 h2,crp h1 (succ_mod h2 1),crp h2 h1,crp h2 (succ_mod h1 1)]
     exact hp (fr h1 h2 hf)
   · obtain ⟨f1,f2,f3,f4,f5⟩:=farI r0 r1 s0 s1 hf
     have e0:∀ u,cr (pt x a d) (pt y a d) u ((d:Int)+1)=cr (pt x a d) (pt y a d) u 0:=fun u=>crp rfl (by rw [ed,Int.emod_self,Int.zero_emod])
     by_cases g:r=d
     · rw [g,back s s0 s1,back (s+1) (by omega) (by omega),e0,chain d s0 (by omega) (by omega) (Int.le_refl _),chain 0 s0 (by omega) (Int.le_refl _) (by omega),Int.add_zero]
       have:=Q.off s (by omega) (by omega)
       rw [cr_c3,cr_c3,<- Int.add_assoc]
       exact this
     · by_cases g':s=d
       · rw [g',back r r0 r1,back (r+1) (by omega) (by omega),e0,chain d r0 (by omega) (by omega) (Int.le_refl _),chain 0 r0 (by omega) (Int.le_refl _) (by omega),Int.add_zero]
         have:=Q.off r (by omega) (by omega)
         rw [cr_c3,cr_c3,<- Int.add_assoc]
         exact fun h=>this ⟨h.2,h.1⟩
       · rw [chain s r0 (by omega) s0 s1,chain (s+1) r0 (by omega) (by omega) (by omega),chain r s0 (by omega) r0 r1,chain (r+1) s0 (by omega) (by omega) (by omega),<- Int.add_assoc,<- Int.add_assoc]
         exact P.no _ _ (farP r0 (by omega) s0 (by omega) f1 f2 f3)
 · intro i
   obtain ⟨r,r0,r1,er⟩:=red d i
   rw [crp er (succ_mod er 2),py _ _ er,py _ _ (succ_mod er 1),py _ _ (succ_mod er 2)]
   by_cases g:r=d
   · have h2':cr (pt x a d) (pt y a d) d ((d:Int)+2)=cr (pt x a d) (pt y a d) d 1:=crp rfl (by rw [show (d:Int)+2=1+((d+1:Nat):Int) by omega,Int.add_emod_right])
     have h3':pt y a d ((d:Int)+2)=pt y a d 1:=py _ _ (by rw [show (d:Int)+2=1+((d+1:Nat):Int) by omega,Int.add_emod_right])
     rw [g,h2',h3',back 1 (by omega) (by omega),pt_end,pt_at y a (by omega) (Int.le_refl _),pt_at y a (show 0 <= (1:Int) by omega) (by omega)]
     exact Q.e2
   · by_cases g':r+1=d
     · have h2':cr (pt x a d) (pt y a d) r (r+2)=cr (pt x a d) (pt y a d) r 0:=crp rfl (by rw [show r+2=(d:Int)+1 by omega,ed,Int.emod_self,Int.zero_emod])
       rw [h2',chain 0 r0 (by omega) (Int.le_refl _) (by omega),show r+2=(d:Int)+1 by omega,pt_end,pt_at y a r0 r1,g',pt_at y a (by omega) (Int.le_refl _),Int.add_zero,cr_c3,show a+r+1=a+d by omega,show a+r=a+d - 1 by omega]
       exact Q.e1
     · rw [chain (r+2) r0 (by omega) (by omega) (by omega),pt_at y a r0 r1,pt_at y a (show 0 <= r+1 by omega) (by omega),pt_at y a (show 0 <= r+2 by omega) (by omega)]
       have:=P.co (a+r)
       rw [Int.add_assoc,Int.add_assoc] at this
       exact this
end
end PArea
namespace PArea
section
variable {x y:Int->Int}
theorem c3_cyc (x y:Int->Int) (a b c:Int):c3 x y a b c=c3 x y b c a:=by unfold c3;grind
theorem c3_neg (x y:Int->Int) (a b c:Int):c3 x y b a c = - c3 x y a b c:=by unfold c3;grind
theorem c3_aba (x y:Int->Int) (a b:Int):c3 x y a b a=0:=by unfold c3;grind
theorem c3_abb (x y:Int->Int) (a b:Int):c3 x y a b b=0:=by unfold c3;grind
theorem c3_four (x y:Int->Int) (u v w q:Int):c3 x y u v q+c3 x y v w q+c3 x y w u q=c3 x y u v w:=by unfold c3;grind
theorem bary (x y:Int->Int) (u v w q s t:Int):c3 x y u v w * c3 x y s t q=c3 x y v w q * c3 x y s t u+c3 x y w u q * c3 x y s t v+c3 x y u v q * c3 x y s t w:=by unfold c3;grind
theorem bary_y (x y:Int->Int) (u v w q:Int):c3 x y u v w * y q=c3 x y v w q * y u+c3 x y w u q * y v+c3 x y u v q * y w:=by unfold c3;grind
theorem meetF (x y:Int->Int) (v z s t a b:Int):c3 x y s t v * c3 x y a b z - c3 x y s t z * c3 x y a b v=c3 x y v z t * c3 x y a b s - c3 x y v z s * c3 x y a b t:=by unfold c3;grind
theorem meetD (x y:Int->Int) (v z s t:Int):c3 x y s t v - c3 x y s t z=c3 x y v z t - c3 x y v z s:=by unfold c3;grind
theorem line_y (x y:Int->Int) (u v s t:Int):c3 x y u v t * (y s - y v) - c3 x y u v s * (y t - y v) = -((y u - y v) * c3 x y s t v):=by unfold c3;grind
theorem line_F (x y:Int->Int) (v z c a b:Int):(y z - y v) * c3 x y a b c=(y z - y c) * c3 x y a b v+(y c - y v) * c3 x y a b z+(y b - y a) * c3 x y v z c:=by unfold c3;grind
theorem mul_neg_iff {p q:Int}:p * q<0 ↔ (p<0/\0<q)\/(0<p/\q<0):=by
 constructor
 · intro h
   rcases Int.lt_trichotomy p 0 with h1 | h1 | h1
   · rcases Int.lt_or_le 0 q with h2 | h2
     · exact .inl ⟨h1,h2⟩
     · have:=Int.mul_nonneg_of_nonpos_of_nonpos (Int.le_of_lt h1) h2;omega
   · rw [h1,Int.zero_mul] at h;omega
   · rcases Int.lt_or_le q 0 with h2 | h2
     · exact .inr ⟨h1,h2⟩
     · have:=Int.mul_nonneg (Int.le_of_lt h1) h2;omega
 · exact fun h=>mul_lt_of h
theorem pos_of {p q:Int} (hp:0<p) (h:0<p * q):0<q:=by
 rcases Int.lt_or_le 0 q with h2 | h2
 · exact h2
 · have:=Int.mul_nonpos_of_nonneg_of_nonpos (Int.le_of_lt hp) h2;omega
theorem nn_of {p q:Int} (hp:0<p) (h:0 <= p * q):0 <= q:=by
 rcases Int.lt_or_le q 0 with h2 | h2
 · have:=Int.mul_neg_of_pos_of_neg hp h2;omega
 · exact h2
theorem cross_side {u v w s t:Int} (S:0<c3 x y u v w) (f1:0<c3 x y w u s) (f2:c3 x y w u t<0) (hL:c3 x y s t u * c3 x y s t w<0) (out:c3 x y u v s<0\/c3 x y v w s<0) :
   (c3 x y u v s<0/\0<c3 x y u v t/\c3 x y s t u * c3 x y s t v<0)\/(c3 x y v w s<0/\0<c3 x y v w t/\c3 x y s t v * c3 x y s t w<0)\/(c3 x y s t v=0/\((c3 x y u v s<0/\0<c3 x y u v t)\/(c3 x y v w s<0/\0<c3 x y v w t))):=by
 have b:=bary x y u v w s s t
 have m1:=meetF x y w u s t u v
 have m2:=meetF x y w u s t v w
 have md:=meetD x y w u s t
 rw [c3_aba] at b
 rw [c3_aba,c3_cyc x y u v w] at m1
 rw [c3_abb x y v w] at m2
 rw [c3_cyc x y u v w] at S b
 rw [Int.mul_zero] at b m1 m2
 obtain ⟨l1,l2⟩:0<c3 x y s t u/\c3 x y s t w<0:=by
   rcases mul_neg_iff.1 hL with l | l <;> omega
 have k1:c3 x y u v s<0->0<c3 x y u v t:=fun h=>by
   have a1:=Int.mul_pos_of_neg_of_neg f2 h
   have a2:=Int.mul_pos l1 S
   exact pos_of f1 (by omega)
 have k2:c3 x y v w s<0->0<c3 x y v w t:=fun h=>by
   have a1:=Int.mul_pos_of_neg_of_neg f2 h
   have a2:=Int.mul_neg_of_neg_of_pos l2 S
   exact pos_of f1 (by omega)
 rcases Int.lt_trichotomy (c3 x y s t v) 0 with lv | lv | lv
 · have h1 : c3 x y u v s < 0 := by
     rcases Int.lt_or_le (c3 x y u v s) 0 with h | h
     · exact h
     · have h2:c3 x y v w s<0:=by rcases out with o | o <;> omega
       have a1:=Int.mul_neg_of_neg_of_pos h2 l1
       have a2:=Int.mul_neg_of_pos_of_neg f1 lv
       have a3:=Int.mul_nonpos_of_nonneg_of_nonpos h (Int.le_of_lt l2)
       omega
   exact .inl ⟨h1,k1 h1,Int.mul_neg_of_pos_of_neg l1 lv⟩
 · refine .inr (.inr ⟨lv,?_⟩)
   rcases out with o | o
   · exact .inl ⟨o,k1 o⟩
   · exact .inr ⟨o,k2 o⟩
 · have h1 : c3 x y v w s < 0 := by
     rcases Int.lt_or_le (c3 x y v w s) 0 with h | h
     · exact h
     · have h2:c3 x y u v s<0:=by rcases out with o | o <;> omega
       have a1:=Int.mul_nonneg h (Int.le_of_lt l1)
       have a2:=Int.mul_pos f1 lv
       have a3:=Int.mul_pos_of_neg_of_neg h2 l2
       omega
   exact .inr (.inl ⟨h1,k2 h1,Int.mul_neg_of_pos_of_neg lv l2⟩)
theorem cap1 {u v w z s t:Int} (S:0<c3 x y u v w) (z1:0<c3 x y u v z) (z2:0<c3 x y v w z) (z3:0 <= c3 x y w u z) (g1:0<c3 x y v z s) (g2:c3 x y v z t<0) (hL:c3 x y s t v * c3 x y s t z<0) (hf:c3 x y w u t <= c3 x y w u s) :
   c3 x y w u z<c3 x y w u s/\(0 <= c3 x y u v s->0<c3 x y v w s)/\(c3 x y u v s<0->0<c3 x y u v t/\c3 x y s t u * c3 x y s t v<0):=by
 have md:=meetD x y v z s t
 obtain ⟨l1,l2⟩:c3 x y s t v<0/\0<c3 x y s t z:=by
   rcases mul_neg_iff.1 hL with l | l <;> omega
 have mf:=meetF x y v z s t w u
 have four:=c3_four x y u v w z
 rw [c3_cyc x y w u v] at mf
 have fs:c3 x y w u z<c3 x y w u s:=by
   rcases Int.lt_or_le (c3 x y w u z) (c3 x y w u s) with h | h
   · exact h
   · have a1:=Int.mul_le_mul_of_nonneg_left (show c3 x y w u s <= c3 x y w u z from h) (show 0 <= - c3 x y v z t by omega)
     have a2:=Int.mul_le_mul_of_nonneg_left (show c3 x y w u t <= c3 x y w u z by omega) (Int.le_of_lt g1)
     have a3:=Int.mul_pos l2 (show 0<c3 x y u v w - c3 x y w u z by omega)
     have e:(c3 x y s t v - c3 x y s t z) * c3 x y w u z=(c3 x y v z t - c3 x y v z s) * c3 x y w u z:=by rw [md]
     rw [Int.sub_mul,Int.sub_mul] at e
     rw [Int.mul_sub] at a3
     rw [Int.neg_mul,Int.neg_mul] at a1
     omega
 refine ⟨fs,fun h=>?_,fun h=>?_⟩
 · have b:=bary x y u v z s v w
   rw [c3_aba,Int.mul_zero,c3_cyc x y v w u,c3_cyc x y w u v] at b
   have a1:=Int.mul_pos g1 S
   have a2:=Int.mul_nonneg h (Int.le_of_lt z2)
   exact pos_of z1 (by omega)
 · have me:=meetF x y v z s t u v
   rw [c3_abb,Int.mul_zero] at me
   have a1:=Int.mul_pos_of_neg_of_neg g2 h
   have a2:=Int.mul_neg_of_neg_of_pos l1 z1
   have b1:=bary x y u v z s s t
   rw [c3_aba,Int.mul_zero] at b1
   have b2:=bary x y u v z s w u
   rw [c3_abb,Int.mul_zero,c3_cyc x y w u v] at b2
   have a3:=Int.mul_pos z1 (show 0<c3 x y w u s by omega)
   have a4:=Int.mul_nonpos_of_nonpos_of_nonneg (Int.le_of_lt h) z3
   have hh:0<c3 x y z u s:=pos_of S (by rw [Int.mul_comm];omega)
   have a5:=Int.mul_neg_of_pos_of_neg hh l1
   have a6:=Int.mul_neg_of_neg_of_pos h l2
   exact ⟨pos_of g1 (by omega),Int.mul_neg_of_pos_of_neg (pos_of g1 (by omega)) l1⟩
theorem c3_mir (x y:Int->Int) (a b c:Int):c3 (fun i=>- x i) y a b c = - c3 x y a b c:=by unfold c3;grind
theorem cap2 {u v w z s t:Int} (S:0<c3 x y u v w) (z1:0<c3 x y u v z) (z2:0<c3 x y v w z) (z3:0 <= c3 x y w u z) (g1:c3 x y v z s<0) (g2:0<c3 x y v z t) (hL:c3 x y s t v * c3 x y s t z<0) (hf:c3 x y w u t <= c3 x y w u s) :
   c3 x y w u z<c3 x y w u s/\(0 <= c3 x y v w s->0<c3 x y u v s)/\(c3 x y v w s<0->0<c3 x y v w t/\c3 x y s t w * c3 x y s t v<0):=by
 have sw:∀ a b c,c3 (fun i=>- x i) y a b c=c3 x y b a c:=fun a b c=>by rw [c3_mir,c3_neg x y a b]
 have nn:∀ p q:Int,-p * -q=p * q:=fun p q=>by grind
 have:=cap1 (x:=fun i=>- x i) (y:=y) (u:=w) (v:=v) (w:=u) (z:=z) (s:=s) (t:=t) (by rw [sw,<- c3_cyc];exact S) (by rw [sw];exact z2) (by rw [sw];exact z1) (by rw [sw];exact z3) (by rw [c3_mir];omega) (by rw [c3_mir];omega) (by rw [c3_mir,c3_mir,nn];exact hL) (by rw [sw,sw];exact hf)
 rw [sw,sw,sw,sw,sw,c3_mir,c3_mir,nn] at this
 exact this
theorem line_btw {u v s t:Int} (h:c3 x y s t v=0) (h1:c3 x y u v s<0) (h2:0<c3 x y u v t) (n1:y s ≠ y v) (n2:y t ≠ y v):(y s<y v/\y v<y t)\/(y t<y v/\y v<y s):=by
 have l:=line_y x y u v s t
 rw [h,Int.mul_zero] at l
 rcases Int.lt_or_lt_of_ne n1 with a | a <;> rcases Int.lt_or_lt_of_ne n2 with b | b
 · have a1:=Int.mul_neg_of_pos_of_neg h2 (show y s - y v<0 by omega)
   have a2:=Int.mul_pos_of_neg_of_neg h1 (show y t - y v<0 by omega)
   omega
 · exact .inl ⟨a,b⟩
 · exact .inr ⟨b,a⟩
 · have a1:=Int.mul_pos h2 (show 0<y s - y v by omega)
   have a2:=Int.mul_neg_of_neg_of_pos h1 (show 0<y t - y v by omega)
   omega
end
end PArea
namespace PArea
section
variable {n:Nat} {x y:Int->Int} {D κ:Int}
def WY (n:Nat) (x y:Int->Int) (D Y T:Int):Int:=WX n x y (mD x y D) D Y Y T
theorem WY_or (C:PolyC n x y D) (hκ:Kap n x y D κ) (Y T:Int):WY n x y D Y T=0\/WY n x y D Y T=κ:=off_or C.P hκ Y T
theorem WY_corner (C:PolyC n x y D) (hκ:Kap n x y D κ) (a:Int):WY n x y D (y (a+1)) (D * x (a+1))+WY n x y D (y (a+1)) (D * x (a+1)+1)=κ+tau x y a:=at_corner C.P hκ a
theorem WY_parts (C:PolyC n x y D) (a:Int) {d d':Nat} (hd:d+d'=n) (h0:0<d) (h0':0<d') (Y T:Int):WY n x y D Y T=WY (d+1) (pt x a d) (pt y a d) D Y T+WY (d'+1) (pt x (a+d) d') (pt y (a+d) d') D Y T:=by
 unfold WY
 rw [WX_ec,WX_ec,WX_ec]
 have hne:=mod_ne (n:=n) (u:=a) (v:=a+d) (by omega) (by omega)
 have hr:=ec_rev (j:=Y) (Y:=Y) (T:=T) (x1:=x a) (x2:=x (a+d)) (C.dv _ _ hne) (C.P.hy _ _ hne)
 exact sum_parts (φ:=fun x1 y1 x2 y2=>ec D Y Y T x1 y1 x2 y2) C.P.px C.P.py a hd (by show ec D Y Y T (x a) (y a) (x (a+d)) (y (a+d)) = - ec D Y Y T (x (a+d)) (y (a+d)) (x a) (y a);rw [hr];omega)
theorem tau_pt (x y:Int->Int) (a:Int) {d:Nat} {r:Int} (h0:0<r) (h1:r<d):tau (pt x a d) (pt y a d) (r - 1)=tau x y (a+r - 1):=by
 have e:∀ (f:Int->Int) (s t:Int),0 <= s->s <= d->a+s=t->pt f a d s=f t:=fun f s t s0 s1 ht=>by rw [pt_at f a s0 s1,ht]
 unfold tau Sv cr
 rw [show r - 1+1+1=r+1 by omega,show r - 1+1=r by omega,show r - 1+2=r+1 by omega,show a+r - 1+1+1=a+r+1 by omega,show a+r - 1+1=a+r by omega,show a+r - 1+2=a+r+1 by omega,
   e x (r - 1) (a+r - 1) (by omega) (by omega) (by omega),e y (r - 1) (a+r - 1) (by omega) (by omega) (by omega),e x r (a+r) (by omega) (by omega) rfl,e y r (a+r) (by omega) (by omega) rfl,e x (r+1) (a+r+1) (by omega) (by omega) (by omega),e y (r+1) (a+r+1) (by omega) (by omega) (by omega)]
theorem other_side (C:PolyC n x y D) (hκ:Kap n x y D κ) (a:Int) {d d':Nat} (hd:d+d'=n) (h0:0<d) (h0':0<d') {κ':Int} (C':PolyC (d'+1) (pt x (a+d) d') (pt y (a+d) d') D) (hκ':Kap (d'+1) (pt x (a+d) d') (pt y (a+d) d') D κ')
   {r:Int} (r0:0<r) (r1:r<d'):WY (d+1) (pt x a d) (pt y a d) D (y (a+d+r)) (D * x (a+d+r))+WY (d+1) (pt x a d) (pt y a d) D (y (a+d+r)) (D * x (a+d+r)+1)=κ - κ':=by
 have p1:=WY_parts C a hd h0 h0' (y (a+d+r)) (D * x (a+d+r))
 have p2:=WY_parts C a hd h0 h0' (y (a+d+r)) (D * x (a+d+r)+1)
 have c1:=WY_corner C hκ (a+d+r - 1)
 have c2:=WY_corner C' hκ' (r - 1)
 rw [show a+d+r - 1+1=a+d+r by omega] at c1
 rw [show r - 1+1=r by omega,pt_at x (a+d) (by omega) (by omega),pt_at y (a+d) (by omega) (by omega),tau_pt x y (a+d) r0 r1] at c2
 omega
theorem Rgen (P:Poly n x y (mD x y D) D) (a px Y:Int):(y (a+1) - y a) * (X x y (mD x y D) D a Y - D * px)=D * ((x (a+1) - x a) * (Y - y a) - (y (a+1) - y a) * (px - x a)):=by
 have:=P.hm a
 unfold X
 grind
theorem half (C:PolyC n x y D) {px Y α β:Int} (hα:α ≠ 0) (h:∀ c,0 <= α * (x c - px)+β * (y c - Y)) (off:∀ b,act y b Y->X x y (mD x y D) D b Y ≠ D * px):WY n x y D Y (D * px)=0:=by
 have P:=C.P
 have side:∀ b,act y b Y->0 <= α * (X x y (mD x y D) D b Y - D * px):=fun b hb=>by
   have r:=Rgen P b px Y
   have l1:=h b
   have l2:=h (b+1)
   have e:(y (b+1) - Y) * (α * (x b - px)+β * (y b - Y))+(Y - y b) * (α * (x (b+1) - px)+β * (y (b+1) - Y))=α * ((x (b+1) - x b) * (Y - y b) - (y (b+1) - y b) * (px - x b)):=by grind
   have e2:(y (b+1) - y b) * (α * (X x y (mD x y D) D b Y - D * px))=D * (α * ((x (b+1) - x b) * (Y - y b) - (y (b+1) - y b) * (px - x b))):=by
     have:(y (b+1) - y b) * (α * (X x y (mD x y D) D b Y - D * px))=α * ((y (b+1) - y b) * (X x y (mD x y D) D b Y - D * px)):=by grind
     rw [this,r];grind
   have hD:=P.hD
   rcases hb with ⟨b1,b2⟩ | ⟨b1,b2⟩
   · have a1:=Int.mul_nonneg (show 0 <= y (b+1) - Y by omega) l1
     have a2:=Int.mul_nonneg (show 0 <= Y - y b by omega) l2
     have a3:=Int.mul_nonneg (Int.le_of_lt hD) (show 0 <= α * ((x (b+1) - x b) * (Y - y b) - (y (b+1) - y b) * (px - x b)) by omega)
     exact nn_of (show 0<y (b+1) - y b by omega) (by omega)
   · have a1:=Int.mul_nonpos_of_nonpos_of_nonneg (show y (b+1) - Y <= 0 by omega) l1
     have a2:=Int.mul_nonpos_of_nonpos_of_nonneg (show Y - y b <= 0 by omega) l2
     have a3:=Int.mul_nonpos_of_nonneg_of_nonpos (Int.le_of_lt hD) (show α * ((x (b+1) - x b) * (Y - y b) - (y (b+1) - y b) * (px - x b)) <= 0 by omega)
     refine nn_of (show 0<y b - y (b+1) by omega) ?_
     have:(y b - y (b+1)) * (α * (X x y (mD x y D) D b Y - D * px)) = -((y (b+1) - y b) * (α * (X x y (mD x y D) D b Y - D * px))):=by grind
     omega
 unfold WY WX
 rcases Int.lt_or_lt_of_ne hα with hn | hp
 · rw [<- q_sum P Y]
   refine sm_cong fun i _=>?_
   by_cases hb:act y (i:Int) Y
   · have s:=side _ hb
     have o:=off _ hb
     rw [ind_t,Int.mul_one]
     rcases Int.lt_or_le 0 (X x y (mD x y D) D (i:Int) Y - D * px) with g | g
     · have:=Int.mul_neg_of_neg_of_pos hn g;omega
     · omega
   · rw [q_no hb,Int.zero_mul]
 · refine (sm_cong (g:=fun _=>0) fun i _=>?_).trans (sm_zero n)
   by_cases hb:act y (i:Int) Y
   · have s:=nn_of hp (side _ hb)
     rw [ind_f (by omega),Int.mul_zero]
   · rw [q_no hb,Int.zero_mul]
def sd (x y:Int->Int) (a b px Y:Int):Int:=(x b - x a) * (Y - y a) - (y b - y a) * (px - x a)
theorem tri_in (C:PolyC 3 x y D) (hκ:Kap 3 x y D (-1)) (S:0<c3 x y 0 1 2) {px Y:Int} (h0:0 <= sd x y 0 1 px Y) (h1:0 <= sd x y 1 2 px Y) (h2:0 <= sd x y 2 0 px Y) (nc:∀ c:Int,¬ (px=x c/\Y=y c)) :
   WY 3 x y D Y (D * px)+WY 3 x y D Y (D * px+1) <= -1:=by
 have P:=C.P
 have o1:=WY_or C hκ Y (D * px)
 have o2:=WY_or C hκ Y (D * px+1)
 by_cases hz:WY 3 x y D Y (D * px)=0/\WY 3 x y D Y (D * px+1)=0
 rotate_left
 · omega
 exfalso
 obtain ⟨z1,z2⟩:=hz
 have x3:x 3=x 0:=P.px 3 0 rfl
 have y3:y 3=y 0:=P.py 3 0 rfl
 have sdn:∀ i:Nat,i<3->0 <= sd x y (i:Int) ((i:Int)+1) px Y:=fun i hi=>by
   match i,hi with
   | 0,_=>exact h0
   | 1,_=>exact h1
   | 2,_ =>
     show 0 <= sd x y 2 3 px Y
     unfold sd at h2 ⊢
     rw [x3,y3];exact h2
 have hD:=P.hD
 have up:∀ i:Nat,i<3->act y (i:Int) Y->(q y Y i=1/\D * px <= X x y (mD x y D) D i Y)\/(q y Y i = -1/\X x y (mD x y D) D i Y <= D * px):=fun i hi hb=>by
   have r:=Rgen P (i:Int) px Y
   have s:=Int.mul_nonneg (Int.le_of_lt hD) (sdn i hi)
   unfold sd at s
   rcases hb with ⟨b1,b2⟩ | ⟨b1,b2⟩
   · refine .inl ⟨q_up b1 b2,?_⟩
     have:=nn_of (show 0<y ((i:Int)+1) - y i by omega) (q:=X x y (mD x y D) D i Y - D * px) (by omega)
     omega
   · refine .inr ⟨q_dn b1 b2,?_⟩
     have e:(y i - y ((i:Int)+1)) * (D * px - X x y (mD x y D) D i Y)=(y ((i:Int)+1) - y i) * (X x y (mD x y D) D i Y - D * px):=by grind
     have:=nn_of (show 0<y i - y ((i:Int)+1) by omega) (q:=D * px - X x y (mD x y D) D i Y) (by omega)
     omega
 -- all edges at that height pass at the point
 have same:∀ i:Nat,i<3->act y (i:Int) Y->X x y (mD x y D) D i Y=D * px:=fun i hi hb=>by
   rcases up i hi hb with ⟨u1,u2⟩ | ⟨u1,u2⟩
   · have neg := sum_neg (M := 3) (f := fun b => if 0 <= b /\ b < 3 then q y Y b * ind (X x y (mD x y D) D b Y < D * px + 1) - q y Y b else 0) (fun b => by
       by_cases g:0 <= b/\b<3
       · rw [if_pos g]
         obtain ⟨k,rfl⟩:∃ k:Nat,b=k:=⟨b.toNat,by omega⟩
         by_cases hb':act y (k:Int) Y
         · rcases up k (by omega) hb' with ⟨v1,v2⟩ | ⟨v1,v2⟩
           · rw [v1]
             by_cases c:X x y (mD x y D) D (k:Int) Y<D * px+1
             · rw [ind_t c];omega
             · rw [ind_f c];omega
           · rw [v1,ind_t (by omega)];omega
         · rw [q_no hb'];omega
       · rw [if_neg g];omega)
     have e:sm (fun b=>if 0 <= b/\b<3 then q y Y b * ind (X x y (mD x y D) D b Y<D * px+1) - q y Y b else 0) 3=0:=by
       have e1:sm (fun b=>if 0 <= b/\b<3 then q y Y b * ind (X x y (mD x y D) D b Y<D * px+1) - q y Y b else 0) 3=sm (fun b=>q y Y b * ind (X x y (mD x y D) D b Y<D * px+1) - q y Y b) 3:=sm_cong fun k hk=>by rw [if_pos (by omega)]
       have e2:=q_sum P Y
       change sm (fun b=>q y Y b) 3=0 at e2
       rw [e1,sm_sub,e2]
       have z2:sm (fun b=>q y Y b * ind (X x y (mD x y D) D b Y<D * px+1)) 3=0:=z2
       omega
     by_cases c:X x y (mD x y D) D (i:Int) Y<D * px+1
     · omega
     · have := neg.2 i hi (by
         show (if 0 <= (i:Int)/\(i:Int)<3 then _ else _)<(0:Int)
         rw [if_pos (by omega),u1,ind_f c];omega)
       omega
   · have neg := sum_neg (M := 3) (f := fun b => if 0 <= b /\ b < 3 then q y Y b * ind (X x y (mD x y D) D b Y < D * px) else 0) (fun b => by
       by_cases g:0 <= b/\b<3
       · rw [if_pos g]
         obtain ⟨k,rfl⟩:∃ k:Nat,b=k:=⟨b.toNat,by omega⟩
         by_cases hb':act y (k:Int) Y
         · rcases up k (by omega) hb' with ⟨v1,v2⟩ | ⟨v1,v2⟩
           · rw [v1,ind_f (by omega)];omega
           · rw [v1]
             by_cases c:X x y (mD x y D) D (k:Int) Y<D * px
             · rw [ind_t c];omega
             · rw [ind_f c];omega
         · rw [q_no hb'];omega
       · rw [if_neg g];omega)
     have e:sm (fun b=>if 0 <= b/\b<3 then q y Y b * ind (X x y (mD x y D) D b Y<D * px) else 0) 3=0:=by
       have e1:sm (fun b=>if 0 <= b/\b<3 then q y Y b * ind (X x y (mD x y D) D b Y<D * px) else 0) 3=sm (fun b=>q y Y b * ind (X x y (mD x y D) D b Y<D * px)) 3:=sm_cong fun k hk=>by rw [if_pos (by omega)]
       rw [e1];exact z1
     by_cases c:X x y (mD x y D) D (i:Int) Y<D * px
     · have := neg.2 i hi (by
         show (if 0 <= (i:Int)/\(i:Int)<3 then _ else _)<(0:Int)
         rw [if_pos (by omega),u1,ind_t c];omega)
       omega
     · omega
 -- two of them would meet there in a corner
 have none:∀ i k:Nat,i<3->k<3->i ≠ k->act y (i:Int) Y->¬ act y (k:Int) Y:=fun i k hi hk hne a1 a2=>by
   have s1:=same i hi a1
   have s2:=same k hk a2
   have cn:∀ c:Int,y c=Y->X x y (mD x y D) D c Y=D * px->False:=fun c hc hX=>by
     rw [<- hc,X_lo] at hX
     exact nc c ⟨Int.eq_of_mul_eq_mul_left (by omega) hX.symm,hc.symm⟩
   have ne:(k:Int) % ((3:Nat):Int) ≠ (i:Int) % ((3:Nat):Int):=by omega
   rcases (sep P a1 a2 ne).2.2.2 (by omega) with ⟨q1,q2⟩ | ⟨q1,q2⟩
   · exact cn (k:Int) ((P.py _ _ q1).trans q2) s2
   · exact cn _ q2 s1
 have hs:=q_sum P Y
 have hs:q y Y 0+q y Y 1+q y Y 2=0:=by
   unfold sm sm sm at hs
   have:sm (q y Y) 0=0:=rfl
   rw [this] at hs
   change 0+q y Y 0+q y Y 1+q y Y 2=0 at hs
   omega
 have na0:¬ act y 0 Y:=fun a=>by
   have:=q_one a
   have:=q_no (none 0 1 (by omega) (by omega) (by omega) a)
   have:=q_no (none 0 2 (by omega) (by omega) (by omega) a)
   change q y Y 1=0 at *
   change q y Y 2=0 at *
   omega
 have na1:¬ act y 1 Y:=fun a=>by
   have:=q_one a
   have h2:q y Y 2=0:=q_no (none 1 2 (by omega) (by omega) (by omega) a)
   have h0:q y Y 0=0:=q_no na0
   omega
 have f1:sd x y 1 2 px Y+sd x y 2 0 px Y+sd x y 0 1 px Y=c3 x y 0 1 2:=by unfold sd c3;grind
 have f2:sd x y 1 2 px Y * (y 0 - Y)+sd x y 2 0 px Y * (y 1 - Y)+sd x y 0 1 px Y * (y 2 - Y)=0:=by unfold sd;grind
 have f3:sd x y 1 2 px Y * (x 0 - px)+sd x y 2 0 px Y * (x 1 - px)+sd x y 0 1 px Y * (x 2 - px)=0:=by unfold sd;grind
 have d01:y 0 ≠ y 1:=P.hy 0 1 (by decide)
 have d12:y 1 ≠ y 2:=P.hy 1 2 (by decide)
 have d02:y 0 ≠ y 2:=P.hy 0 2 (by decide)
 unfold act at na0 na1
 rw [show (0:Int)+1=1 from rfl] at na0
 rw [show (1:Int)+1=2 from rfl] at na1
 generalize sd x y 1 2 px Y=e0 at *
 generalize sd x y 2 0 px Y=e1 at *
 generalize sd x y 0 1 px Y=e2 at *
 have ge:∀ e t:Int,0 <= e->1 <= t->e <= e * t:=fun e t he ht=>by
   have:=Int.mul_le_mul_of_nonneg_left ht he
   omega
 have z0:∀ e t:Int,0 <= e->0 <= t->0 <= e * t:=fun e t he ht=>Int.mul_nonneg he ht
 have sn:∀ e t:Int,e * -t = -(e * t):=fun e t=>Int.mul_neg e t
 by_cases all:Y<y 0
 · have:=ge e0 (y 0 - Y) h1 (by omega)
   have:=ge e1 (y 1 - Y) h2 (by omega)
   have:=ge e2 (y 2 - Y) h0 (by omega)
   omega
 · have p0:=z0 e0 (Y - y 0) h1 (by omega)
   have p1:=z0 e1 (Y - y 1) h2 (by omega)
   have p2:=z0 e2 (Y - y 2) h0 (by omega)
   have m0:=sn e0 (y 0 - Y)
   have m1:=sn e1 (y 1 - Y)
   have m2:=sn e2 (y 2 - Y)
   rw [show -(y 0 - Y)=Y - y 0 by omega] at m0
   rw [show -(y 1 - Y)=Y - y 1 by omega] at m1
   rw [show -(y 2 - Y)=Y - y 2 by omega] at m2
   have k0:y 0 ≠ Y->e0=0:=fun h=>by
     have:=ge e0 (Y - y 0) h1 (by omega);omega
   have k1:y 1 ≠ Y->e1=0:=fun h=>by
     have:=ge e1 (Y - y 1) h2 (by omega);omega
   have k2:y 2 ≠ Y->e2=0:=fun h=>by
     have:=ge e2 (Y - y 2) h0 (by omega);omega
   have zz:∀ e t:Int,0<e->e * t=0->t=0:=fun e t he h=>by
     rcases Int.mul_eq_zero.1 h with g | g
     · omega
     · exact g
   by_cases c0:y 0=Y
   · rw [k1 (by omega),k2 (by omega),Int.zero_mul,Int.zero_mul] at f3
     have:=zz e0 (x 0 - px) (by have:=k1 (by omega);have:=k2 (by omega);omega) (by omega)
     exact nc 0 ⟨by omega,c0.symm⟩
   · by_cases c1:y 1=Y
     · rw [k0 c0,k2 (by omega),Int.zero_mul,Int.zero_mul] at f3
       have:=zz e1 (x 1 - px) (by have:=k0 c0;have:=k2 (by omega);omega) (by omega)
       exact nc 1 ⟨by omega,c1.symm⟩
     · by_cases c2:y 2=Y
       · rw [k0 c0,k1 c1,Int.zero_mul,Int.zero_mul] at f3
         have:=zz e2 (x 2 - px) (by have:=k0 c0;have:=k1 c1;omega) (by omega)
         exact nc 2 ⟨by omega,c2.symm⟩
       · have:=k0 c0;have:=k1 c1;have:=k2 c2;omega
end
end PArea
namespace PArea
section
variable {n:Nat} {x y:Int->Int} {D κ:Int}
theorem Kex (C:PolyC n x y D):∃ κ,(κ=1\/κ = -1)/\Kap n x y D κ:=by
 obtain ⟨κ,h⟩:=K_all C.P
 exact ⟨κ,κ_one C.P h,h⟩
theorem c3_per (C:PolyC n x y D) {a b c a' b' c':Int} (h1:a % (n:Int)=a' % (n:Int)) (h2:b % (n:Int)=b' % (n:Int)) (h3:c % (n:Int)=c' % (n:Int)):c3 x y a b c=c3 x y a' b' c':=by
 unfold c3
 rw [C.P.px _ _ h1,C.P.py _ _ h1,C.P.px _ _ h2,C.P.py _ _ h2,C.P.px _ _ h3,C.P.py _ _ h3]
theorem half_lt (C:PolyC n x y D) {px Y α β:Int} (hα:α ≠ 0) (h:∀ c,0<α * (x c - px)+β * (y c - Y)):WY n x y D Y (D * px)=0:=by
 refine half C (β:=β) hα (fun c=>Int.le_of_lt (h c)) fun b hb hX=>?_
 have r:=Rgen C.P b px Y
 rw [hX,Int.sub_self,Int.mul_zero] at r
 have l1:=h b
 have l2:=h (b+1)
 have e:(y (b+1) - Y) * (α * (x b - px)+β * (y b - Y))+(Y - y b) * (α * (x (b+1) - px)+β * (y (b+1) - Y))=α * ((x (b+1) - x b) * (Y - y b) - (y (b+1) - y b) * (px - x b)):=by grind
 have z:(x (b+1) - x b) * (Y - y b) - (y (b+1) - y b) * (px - x b)=0:=by
   rcases Int.mul_eq_zero.1 r.symm with g | g
   · have:=C.P.hD;omega
   · exact g
 rw [z,Int.mul_zero] at e
 rcases hb with ⟨b1,b2⟩ | ⟨b1,b2⟩
 · have a1:=Int.mul_pos (show 0<y (b+1) - Y by omega) l1
   have a2:=Int.mul_nonneg (show 0 <= Y - y b by omega) (Int.le_of_lt l2)
   omega
 · have a1:=Int.mul_nonpos_of_nonpos_of_nonneg (show y (b+1) - Y <= 0 by omega) (Int.le_of_lt l1)
   have a2:=Int.mul_neg_of_neg_of_pos (show Y - y b<0 by omega) l2
   omega
theorem all3 {p:Int->Prop} (h:∀ a b:Int,a % ((3:Nat):Int)=b % ((3:Nat):Int)->p b->p a) (h0:p 0) (h1:p 1) (h2:p 2) (c:Int):p c:=by
 have hc:c % ((3:Nat):Int)=0\/c % ((3:Nat):Int)=1\/c % ((3:Nat):Int)=2:=by omega
 rcases hc with e | e | e
 · exact h c 0 e h0
 · exact h c 1 e h1
 · exact h c 2 e h2
theorem tri_out (C:PolyC 3 x y D) (S:0<c3 x y 0 1 2) {px Y:Int} (h:sd x y 0 1 px Y<0\/sd x y 1 2 px Y<0\/sd x y 2 0 px Y<0):WY 3 x y D Y (D * px)=0:=by
 have P:=C.P
 have key:∀ a b:Int,y a ≠ y b->sd x y a b px Y<0->0 <= c3 x y a b 0->0 <= c3 x y a b 1->0 <= c3 x y a b 2->WY 3 x y D Y (D * px)=0:=fun a b hne hs q0 q1 q2=>by
   refine half_lt C (α:=-(y b - y a)) (β:=x b - x a) (by omega) ?_
   have e:∀ c,-(y b - y a) * (x c - px)+(x b - x a) * (y c - Y)=c3 x y a b c - sd x y a b px Y:=fun c=>by unfold c3 sd;grind
   refine all3 (fun c c' hc h=>by rw [P.px _ _ hc,P.py _ _ hc];exact h) ?_ ?_ ?_
   · rw [e];omega
   · rw [e];omega
   · rw [e];omega
 have c1:c3 x y 1 2 0=c3 x y 0 1 2:=(c3_cyc x y 0 1 2).symm
 have c2:c3 x y 2 0 1=c3 x y 0 1 2:=by rw [c3_cyc x y 0 1 2,c3_cyc x y 1 2 0]
 rcases h with h | h | h
 · exact key 0 1 (P.hy 0 1 (by decide)) h (by rw [c3_aba];omega) (by rw [c3_abb];omega) (by omega)
 · exact key 1 2 (P.hy 1 2 (by decide)) h (by omega) (by rw [c3_aba];omega) (by rw [c3_abb];omega)
 · exact key 2 0 (P.hy 2 0 (by decide)) h (by rw [c3_abb];omega) (by omega) (by rw [c3_aba];omega)
theorem kap_tri (C:PolyC 3 x y D) (S:0<c3 x y 0 1 2):Kap 3 x y D (-1):=by
 obtain ⟨κ,h1,h2⟩:=Kex C
 have a:=area_sg C.P h2
 have e:sm (fun b=>(x b+x (b+1)) * (y (b+1) - y b)) 3=c3 x y 0 1 2:=by
   have x3:x 3=x 0:=C.P.px 3 0 rfl
   have y3:y 3=y 0:=C.P.py 3 0 rfl
   show 0+(x 0+x 1) * (y 1 - y 0)+(x 1+x 2) * (y 2 - y 1)+(x 2+x 3) * (y 3 - y 2)=_
   rw [x3,y3]
   unfold c3;grind
 rw [e] at a
 rcases h1 with rfl | rfl
 · omega
 · exact h2
theorem tri_poly (C:PolyC n x y D) (a:Int) (S:0<c3 x y a (a+1) (a+2)):PolyC 3 (pt x a 2) (pt y a 2) D/\Kap 3 (pt x a 2) (pt y a 2) D (-1)/\(∀ p q r:Int,0 <= p->p <= 2->0 <= q->q <= 2->0 <= r->r <= 2->c3 (pt x a 2) (pt y a 2) p q r=c3 x y (a+p) (a+q) (a+r)):=by
 have hn:=C.P.hn
 have e:∀ p q r:Int,0 <= p->p <= 2->0 <= q->q <= 2->0 <= r->r <= 2->c3 (pt x a 2) (pt y a 2) p q r=c3 x y (a+p) (a+q) (a+r):=fun p q r p0 p1 q0 q1 r0 r1=>by
   unfold c3
   rw [pt_at x a p0 (by omega),pt_at y a p0 (by omega),pt_at x a q0 (by omega),pt_at y a q0 (by omega),pt_at x a r0 (by omega),pt_at y a r0 (by omega)]
 have s2:c3 x y (a+1) (a+2) a=c3 x y a (a+1) (a+2):=(c3_cyc x y a (a+1) (a+2)).symm
 have s3:c3 x y (a+2) a (a+1)=c3 x y a (a+1) (a+2):=by rw [c3_cyc x y a,c3_cyc x y (a+1)]
 have T : PolyC 3 (pt x a 2) (pt y a 2) D := part_poly C (d := 2) (Nat.le_refl _) (by omega) ⟨fun r r0 r1 _ _ => by
     rw [show r=1 by omega]
     show c3 x y (a+2) a (a+1) ≠ 0
     omega,fun r r0 r1=>by omega,fun h=>by
     have h:c3 x y (a+2 - 1) (a+2) a=0:=h
     rw [show a+2 - 1=a+1 by omega] at h
     omega,fun h=>by
     have h:c3 x y (a+2) a (a+1)=0:=h
     omega⟩
 refine ⟨T,kap_tri T ?_,e⟩
 rw [e 0 1 2 (by omega) (by omega) (by omega) (by omega) (by omega) (by omega),Int.add_zero]
 exact S
def Ear (n:Nat) (x y:Int->Int) (a:Int):Prop:=0<c3 x y a (a+1) (a+2) /\ ∀ k:Int,k % (n:Int) ≠ a % (n:Int)->k % (n:Int) ≠ (a+1) % (n:Int)->k % (n:Int) ≠ (a+2) % (n:Int)->¬ (0 <= c3 x y a (a+1) k/\0 <= c3 x y (a+1) (a+2) k/\0 <= c3 x y (a+2) a k)
theorem no3 (P:Poly n x y (mD x y D) D) {a b:Int} (h:far n a b) (h1:c3 x y a (a+1) b * c3 x y a (a+1) (b+1)<0) (h2:c3 x y b (b+1) a * c3 x y b (b+1) (a+1)<0):False:=P.no a b h ⟨h1,h2⟩
theorem on3 (P:Poly n x y (mD x y D) D) {b c:Int} (h:c3 x y b (b+1) c=0) (hs:(y b<y c/\y c<y (b+1))\/(y (b+1)<y c/\y c<y b)):False:=by
 have r:=R1 P b c
 rw [cr_c3,h,Int.mul_zero] at r
 have dne:=dy_ne P b
 rcases Int.mul_eq_zero.1 r with z | z
 · omega
 · exact no_in P hs (by omega)
theorem on_side {u t w k:Int} (S:0<c3 x y u t w) (h:c3 x y u w k=0) (hne:y u ≠ y w) (h1:min (y w) (y u) <= y k) (h2:y k <= max (y w) (y u)):0 <= c3 x y u t k/\0 <= c3 x y t w k/\0 <= c3 x y w u k:=by
 have l1:=line_F x y u w k u t
 have l2:=line_F x y u w k t w
 rw [h,c3_aba,Int.mul_zero,Int.mul_zero] at l1
 rw [h,c3_abb,Int.mul_zero,Int.mul_zero,<- c3_cyc x y u t w] at l2
 have l3:c3 x y w u k=0:=by rw [c3_neg];omega
 rcases Int.lt_or_lt_of_ne hne with g | g
 · refine ⟨nn_of (show 0<y w - y u by omega) ?_,nn_of (show 0<y w - y u by omega) ?_,by omega⟩
   · have:=Int.mul_nonneg (show 0 <= y k - y u by omega) (Int.le_of_lt S);omega
   · have:=Int.mul_nonneg (show 0 <= y w - y k by omega) (Int.le_of_lt S);omega
 · have sw:∀ p q r:Int,(p - q) * r = -((q - p) * r):=fun p q r=>by grind
   refine ⟨nn_of (show 0<y u - y w by omega) ?_,nn_of (show 0<y u - y w by omega) ?_,by omega⟩
   · have:=Int.mul_nonneg (show 0 <= y u - y k by omega) (Int.le_of_lt S)
     have:=sw (y u) (y w) (c3 x y u t k)
     have:=sw (y u) (y k) (c3 x y u t w)
     omega
   · have:=Int.mul_nonneg (show 0 <= y k - y w by omega) (Int.le_of_lt S)
     have:=sw (y u) (y w) (c3 x y t w k)
     have:=sw (y k) (y w) (c3 x y u t w)
     omega
theorem ear_clean (C:PolyC n x y D) (h4:4 <= n) {a:Int} (E:Ear n x y a):Clean x y (a+2) (n - 2):=by
 have P:=C.P
 obtain ⟨S,hE⟩:=E
 have ed:a+2+((n - 2:Nat):Int)=a+n:=by omega
 have xa:x (a+n)=x a:=P.px _ _ (by rw [Int.add_emod_right])
 have ya:y (a+n)=y a:=P.py _ _ (by rw [Int.add_emod_right])
 have ca:∀ p q,c3 x y (a+n) p q=c3 x y a p q:=fun p q=>by unfold c3;rw [xa,ya]
 have cb:∀ p q,c3 x y p (a+n) q=c3 x y p a q:=fun p q=>by unfold c3;rw [xa,ya]
 have cc:∀ p q,c3 x y p q (a+n)=c3 x y p q a:=fun p q=>by unfold c3;rw [xa,ya]
 have hne:y a ≠ y (a+2):=P.hy _ _ (two_ne P.hn a)
 have ne3:∀ k,2<k - a->k - a<n->k % (n:Int) ≠ a % (n:Int)/\k % (n:Int) ≠ (a+1) % (n:Int)/\k % (n:Int) ≠ (a+2) % (n:Int):=fun k k1 k2 =>
   ⟨(mod_ne (by omega) (by omega)).symm,(mod_ne (by omega) (by omega)).symm,(mod_ne (by omega) (by omega)).symm⟩
 have onseg:∀ k,2<k - a->k - a<n->c3 x y a (a+2) k=0->¬ (min (y (a+2)) (y a) <= y k/\y k <= max (y (a+2)) (y a)):=fun k k1 k2 h ⟨h1,h2⟩=>by
   obtain ⟨q1,q2,q3⟩:=ne3 k k1 k2
   exact hE k q1 q2 q3 (on_side S h hne h1 h2)
 -- an edge that crosses the third side
 have cross:∀ b s t:Int,((s=b/\t=b+1)\/(s=b+1/\t=b))->2<b - a->b+1 - a<n->0<c3 x y (a+2) a s->c3 x y (a+2) a t<0->c3 x y s t a * c3 x y s t (a+2)<0->False:=fun b s t hb b1 b2 f1 f2 hL=>by
   have hs:2<s - a/\s - a<n:=by rcases hb with ⟨rfl,rfl⟩ | ⟨rfl,rfl⟩ <;> omega
   obtain ⟨q1,q2,q3⟩:=ne3 s hs.1 hs.2
   have out:c3 x y a (a+1) s<0\/c3 x y (a+1) (a+2) s<0:=by
     rcases Int.lt_or_le (c3 x y a (a+1) s) 0 with g | g
     · exact .inl g
     · rcases Int.lt_or_le (c3 x y (a+1) (a+2) s) 0 with g' | g'
       · exact .inr g'
       · exact (hE s q1 q2 q3 ⟨g,g',Int.le_of_lt f1⟩).elim
   have fa:far n a b:=far_of (by omega) (by omega)
   have fb:far n (a+1) b:=far_of (by omega) (by omega)
   have sgn:∀ q r:Int,c3 x y s t q * c3 x y s t r<0->c3 x y b (b+1) q * c3 x y b (b+1) r<0:=fun q r h=>by
     rcases hb with ⟨rfl,rfl⟩ | ⟨rfl,rfl⟩
     · exact h
     · rw [c3_neg x y t (t+1),c3_neg x y t (t+1),Int.neg_mul_neg] at h;exact h
   have opp:∀ p q:Int,c3 x y p q s<0->0<c3 x y p q t->c3 x y p q b * c3 x y p q (b+1)<0:=fun p q g1 g2=>by
     rcases hb with ⟨rfl,rfl⟩ | ⟨rfl,rfl⟩
     · exact Int.mul_neg_of_neg_of_pos g1 g2
     · exact Int.mul_neg_of_pos_of_neg g2 g1
   rcases cross_side S f1 f2 hL out with ⟨g1,g2,g3⟩ | ⟨g1,g2,g3⟩ | ⟨g1,g2⟩
   · exact no3 P fa (opp _ _ g1 g2) (sgn _ _ g3)
   · refine no3 P fb ?_ ?_
     · rw [show a+1+1=a+2 by omega];exact opp _ _ g1 g2
     · rw [show a+1+1=a+2 by omega];exact sgn _ _ g3
   · have n1:y s ≠ y (a+1):=P.hy _ _ q2
     have ht:2<t - a/\t - a<n:=by rcases hb with ⟨rfl,rfl⟩ | ⟨rfl,rfl⟩ <;> omega
     have n2:y t ≠ y (a+1):=P.hy _ _ (ne3 t ht.1 ht.2).2.1
     have btw:(y s<y (a+1)/\y (a+1)<y t)\/(y t<y (a+1)/\y (a+1)<y s):=by
       rcases g2 with ⟨g2,g3⟩ | ⟨g2,g3⟩
       · exact line_btw g1 g2 g3 n1 n2
       · have:=line_btw (x:=x) (y:=y) (u:=a+2) (v:=a+1) (s:=t) (t:=s) (by rw [c3_neg];omega) (by rw [c3_neg];omega) (by rw [c3_neg];omega) n2 n1
         exact this.symm
     rcases hb with ⟨rfl,rfl⟩ | ⟨rfl,rfl⟩
     · exact on3 P g1 btw
     · exact on3 P (by rw [c3_neg];omega) btw.symm
 refine ⟨fun r r0 r1 h1 h2 h=>?_,fun r r0 r1 h=>?_,fun h=>?_,fun h=>?_⟩
 · rw [ed,ya] at h1 h2
   rw [ed,ca] at h
   exact onseg (a+2+r) (by omega) (by omega) h ⟨by omega,by omega⟩
 · rw [ed,ca,ca,cc] at h
   obtain ⟨g,hL⟩:=h
   have f:∀ k,c3 x y (a+2) a k = - c3 x y a (a+2) k:=fun k=>c3_neg x y a (a+2) k
   rcases mul_neg_iff.1 g with ⟨g1,g2⟩ | ⟨g1,g2⟩
   · exact cross (a+2+r) (a+2+r) (a+2+r+1) (.inl ⟨rfl,rfl⟩) (by omega) (by omega) (by rw [f];omega) (by rw [f];omega) hL
   · refine cross (a+2+r) (a+2+r+1) (a+2+r) (.inr ⟨rfl,rfl⟩) (by omega) (by omega) (by rw [f];omega) (by rw [f];omega) ?_
     rw [c3_neg x y (a+2+r),c3_neg x y (a+2+r),Int.neg_mul_neg];exact hL
 · rw [ed] at h ⊢
   rw [cb] at h
   have k1:=onseg (a+n - 1) (by omega) (by omega) (by rw [c3_cyc,c3_cyc];exact h)
   have d1:y (a+n - 1) ≠ y a:=P.hy _ _ (ne3 _ (by omega) (by omega)).1
   have d2:y (a+n - 1) ≠ y (a+2):=P.hy _ _ (ne3 _ (by omega) (by omega)).2.2
   rw [ya]
   by_cases g:(y (a+n - 1)<y (a+2)/\y (a+2)<y a)\/(y a<y (a+2)/\y (a+2)<y (a+n - 1))
   · refine (on3 P (b:=a+n - 1) (c:=a+2) ?_ ?_).elim
     · rw [show a+n - 1+1=a+n by omega,cb];exact h
     · rw [show a+(n:Int) - 1+1=a+n by omega,ya];omega
   · omega
 · rw [ed] at h ⊢
   rw [ca] at h
   rw [show a+2+1=a+3 by omega] at h ⊢
   have k1:=onseg (a+3) (by omega) (by omega) h
   have d1:y (a+3) ≠ y a:=P.hy _ _ (ne3 _ (by omega) (by omega)).1
   have d2:y (a+3) ≠ y (a+2):=P.hy _ _ (ne3 _ (by omega) (by omega)).2.2
   rw [ya]
   by_cases g:(y (a+2)<y a/\y a<y (a+3))\/(y (a+3)<y a/\y a<y (a+2))
   · refine (on3 P (b:=a+2) (c:=a) ?_ ?_).elim
     · rw [show a+2+1=a+3 by omega,<- c3_cyc];exact h
     · rw [show a+2+1=a+3 by omega];omega
   · omega
theorem ear_cut (C:PolyC n x y D) (h4:4 <= n) (hκ:Kap n x y D (-1)) {a:Int} (E:Ear n x y a):PolyC (n - 2+1) (pt x (a+2) (n - 2)) (pt y (a+2) (n - 2)) D/\Kap (n - 2+1) (pt x (a+2) (n - 2)) (pt y (a+2) (n - 2)) D (-1):=by
 have R:PolyC (n - 2+1) (pt x (a+2) (n - 2)) (pt y (a+2) (n - 2)) D:=part_poly C (by omega) (by omega) (ear_clean C h4 E)
 refine ⟨R,?_⟩
 obtain ⟨T,hT,e⟩:=tri_poly C a E.1
 obtain ⟨κ,h1,h2⟩:=Kex R
 rcases h1 with rfl | rfl
 rotate_left
 · exact h2
 have o:=other_side C hκ a (d:=2) (d':=n - 2) (by omega) (by omega) (by omega) R h2 (r:=1) (by omega) (by omega)
 have o1:=WY_or T hT (y (a+((2:Nat):Int)+1)) (D * x (a+((2:Nat):Int)+1))
 have o2:=WY_or T hT (y (a+((2:Nat):Int)+1)) (D * x (a+((2:Nat):Int)+1)+1)
 have hk:a+((2:Nat):Int)+1=a+3:=by omega
 rw [hk] at o o1 o2
 have hE:=E.2 (a+3) (mod_ne (by omega) (by omega)).symm (mod_ne (by omega) (by omega)).symm (mod_ne (by omega) (by omega)).symm
 have sdp:∀ p q:Int,0 <= p->p <= 2->0 <= q->q <= 2->sd (pt x a 2) (pt y a 2) p q (x (a+3)) (y (a+3))=c3 x y (a+p) (a+q) (a+3):=fun p q p0 p1 q0 q1=>by
   unfold sd c3
   rw [pt_at x a p0 (by omega),pt_at y a p0 (by omega),pt_at x a q0 (by omega),pt_at y a q0 (by omega)]
 have z:=tri_out T (by rw [e 0 1 2 (by omega) (by omega) (by omega) (by omega) (by omega) (by omega),Int.add_zero];exact E.1) (px:=x (a+3)) (Y:=y (a+3)) (by
   rw [sdp 0 1 (by omega) (by omega) (by omega) (by omega),sdp 1 2 (by omega) (by omega) (by omega) (by omega),sdp 2 0 (by omega) (by omega) (by omega) (by omega),Int.add_zero]
   omega)
 have o':WY 3 (pt x a 2) (pt y a 2) D (y (a+3)) (D * x (a+3))+WY 3 (pt x a 2) (pt y a 2) D (y (a+3)) (D * x (a+3)+1) = -1 - 1:=o
 omega
end
end PArea
namespace PArea
section
variable {n:Nat} {x y:Int->Int} {D κ:Int}
theorem ear_per (C:PolyC n x y D) {a b:Int} (h:a % (n:Int)=b % (n:Int)) (E:Ear n x y a):Ear n x y b:=by
 have s1:=succ_mod h 1
 have s2:=succ_mod h 2
 refine ⟨by rw [<- c3_per C h s1 s2];exact E.1,fun k k1 k2 k3=>?_⟩
 have:=E.2 k (by rw [h];exact k1) (by rw [s1];exact k2) (by rw [s2];exact k3)
 rw [c3_per C h s1 rfl,c3_per C s1 s2 rfl,c3_per C s2 h rfl] at this
 exact this
theorem c3_pt (x y:Int->Int) (b:Int) {e:Nat} {p q r:Int} (p0:0 <= p) (p1:p <= e) (q0:0 <= q) (q1:q <= e) (r0:0 <= r) (r1:r <= e):c3 (pt x b e) (pt y b e) p q r=c3 x y (b+p) (b+q) (b+r):=by
 unfold c3
 rw [pt_at x b p0 p1,pt_at y b p0 p1,pt_at x b q0 q1,pt_at y b q0 q1,pt_at x b r0 r1,pt_at y b r0 r1]
theorem sd_pt (x y:Int->Int) (b:Int) {e:Nat} {p q:Int} (p0:0 <= p) (p1:p <= e) (q0:0 <= q) (q1:q <= e) (k:Int):sd (pt x b e) (pt y b e) p q (x k) (y k)=c3 x y (b+p) (b+q) k:=by
 unfold sd c3
 rw [pt_at x b p0 p1,pt_at y b p0 p1,pt_at x b q0 q1,pt_at y b q0 q1]
theorem ear_neg {e:Nat} (h2:2 <= e) (A:PolyC (e+1) x y D) (hA:Kap (e+1) x y D (-1)) {r:Int} (E:Ear (e+1) x y r) {px Y:Int} (q0:0 <= sd x y r (r+1) px Y) (q1:0 <= sd x y (r+1) (r+2) px Y) (q2:0 <= sd x y (r+2) r px Y)
   (nc:∀ c:Int,¬ (px=x c/\Y=y c)):WY (e+1) x y D Y (D * px)+WY (e+1) x y D Y (D * px+1) <= -1:=by
 obtain ⟨T,hT,ce⟩:=tri_poly A r E.1
 have sp:∀ p q:Int,0 <= p->p <= 2->0 <= q->q <= 2->sd (pt x r 2) (pt y r 2) p q px Y=sd x y (r+p) (r+q) px Y:=fun p q p0 p1 q0 q1=>by
   unfold sd
   rw [pt_at x r p0 (by omega),pt_at y r p0 (by omega),pt_at x r q0 (by omega),pt_at y r q0 (by omega)]
 have ht:=tri_in T hT (by rw [ce 0 1 2 (by omega) (by omega) (by omega) (by omega) (by omega) (by omega),Int.add_zero];exact E.1) (px:=px) (Y:=Y)
   (by rw [sp 0 1 (by omega) (by omega) (by omega) (by omega),Int.add_zero];exact q0) (by rw [sp 1 2 (by omega) (by omega) (by omega) (by omega)];exact q1) (by rw [sp 2 0 (by omega) (by omega) (by omega) (by omega),Int.add_zero];exact q2) (fun c=>nc _)
 by_cases h3:e=2
 · subst h3
   have f:∀ (g:Int->Int),(∀ a b:Int,a % ((3:Nat):Int)=b % ((3:Nat):Int)->g a=g b) -> ∀ i,pt g r 2 i=g (r+i):=fun g hg i=>by
     unfold pt pos
     exact hg _ _ (by omega)
   have fx:pt x r 2=fun i=>x (r+i):=funext (f x A.P.px)
   have fy:pt y r 2=fun i=>y (r+i):=funext (f y A.P.py)
   have same:∀ T',WY 3 (pt x r 2) (pt y r 2) D Y T'=WY 3 x y D Y T':=fun T'=>by
     unfold WY
     rw [WX_ec,WX_ec,fx,fy]
     have hp:per 3 (fun b=>ec D Y Y T' (x b) (y b) (x (b+1)) (y (b+1))):=fun u v h=>by
       show ec D Y Y T' (x u) (y u) (x (u+1)) (y (u+1))=_
       rw [A.P.px u v h,A.P.py u v h,A.P.px _ _ (succ_mod h 1),A.P.py _ _ (succ_mod h 1)]
     have h0:=Int.emod_nonneg r (show ((3:Nat):Int) ≠ 0 by decide)
     rw [<- sm_shift (r % ((3:Nat):Int)).toNat hp]
     refine sm_cong fun i _=>?_
     have:=hp (r+i) ((i:Int)+((r % ((3:Nat):Int)).toNat:Int)) (by rw [Int.toNat_of_nonneg h0,Int.add_emod_emod,Int.add_comm])
     show ec D Y Y T' (x (r+i)) (y (r+i)) (x (r+(i+1))) (y (r+(i+1)))=_
     rw [<- Int.add_assoc]
     exact this
   rw [same,same] at ht
   exact ht
 · obtain ⟨R,hR⟩:=ear_cut A (by omega) hA E
   have p1:=WY_parts A r (d:=2) (d':=e+1 - 2) (by omega) (by omega) (by omega) Y (D * px)
   have p2:=WY_parts A r (d:=2) (d':=e+1 - 2) (by omega) (by omega) (by omega) Y (D * px+1)
   have o1:=WY_or R hR Y (D * px)
   have o2:=WY_or R hR Y (D * px+1)
   have p1:WY (e+1) x y D Y (D * px)=WY 3 (pt x r 2) (pt y r 2) D Y (D * px)+WY (e+1 - 2+1) (pt x (r+2) (e+1 - 2)) (pt y (r+2) (e+1 - 2)) D Y (D * px):=p1
   have p2:WY (e+1) x y D Y (D * px+1)=WY 3 (pt x r 2) (pt y r 2) D Y (D * px+1)+WY (e+1 - 2+1) (pt x (r+2) (e+1 - 2)) (pt y (r+2) (e+1 - 2)) D Y (D * px+1):=p2
   omega
theorem lift (C:PolyC n x y D) (hκ:Kap n x y D (-1)) {b:Int} {e e':Nat} (he:e+e'=n) (h2:2 <= e) (h2':2 <= e') (A:PolyC (e+1) (pt x b e) (pt y b e) D) (hA:Kap (e+1) (pt x b e) (pt y b e) D (-1))
   (B:PolyC (e'+1) (pt x (b+e) e') (pt y (b+e) e') D) (hB:Kap (e'+1) (pt x (b+e) e') (pt y (b+e) e') D (-1)) {r:Int} (r0:0 <= r) (r1:r+2 <= e) (E:Ear (e+1) (pt x b e) (pt y b e) r):Ear n x y (b+r):=by
 have hS:=E.1
 rw [c3_pt x y b (by omega) (by omega) (by omega) (by omega) (by omega) (by omega),<- Int.add_assoc,<- Int.add_assoc] at hS
 refine ⟨hS,fun k k1 k2 k3=>?_⟩
 -- k lies in the part or beyond it
 obtain ⟨j,j0,j1,hj⟩:∃ j:Int,0 <= j/\j<n/\k % (n:Int)=(b+j) % (n:Int):=by
   have hn:=C.P.hn
   refine ⟨(k - b) % (n:Int),Int.emod_nonneg _ (by omega),Int.emod_lt_of_pos _ (by omega),?_⟩
   rw [Int.add_emod_emod,show b+(k - b)=k by omega]
 rw [hj] at k1 k2 k3
 have n1:j ≠ r:=fun h=>k1 (by rw [h])
 have n2:j ≠ r+1:=fun h=>k2 (by rw [h,<- Int.add_assoc])
 have n3:j ≠ r+2:=fun h=>k3 (by rw [h,<- Int.add_assoc])
 rw [c3_per C rfl rfl hj,c3_per C rfl rfl hj,c3_per C rfl rfl hj]
 by_cases hje:j <= e
 · have md : ∀ t : Int, 0 <= t -> t <= e -> j ≠ t -> j % ((e + 1:Nat):Int) ≠ t % ((e + 1:Nat):Int) := fun t t0 t1 ht => by
     rcases Int.lt_or_lt_of_ne ht with g | g
     · exact mod_ne (by omega) (by omega)
     · exact (mod_ne (by omega) (by omega)).symm
   have:=E.2 j (md r r0 (by omega) n1) (md (r+1) (by omega) (by omega) n2) (md (r+2) (by omega) r1 n3)
   rw [c3_pt x y b (by omega) (by omega) (by omega) (by omega) (by omega) (by omega),c3_pt x y b (by omega) (by omega) (by omega) (by omega) (by omega) (by omega),c3_pt x y b (by omega) (by omega) (by omega) (by omega) (by omega) (by omega),<- Int.add_assoc,<- Int.add_assoc] at this
   exact this
 · rintro ⟨g0,g1,g2⟩
   have o:=other_side C hκ b he (by omega) (by omega) B hB (r:=j - e) (by omega) (by omega)
   rw [show b+(e:Int)+(j - e)=b+j by omega] at o
   have dist:∀ t:Int,0 <= t->t <= e->y (b+t) ≠ y (b+j):=fun t t0 t1=>C.P.hy _ _ (mod_ne (by omega) (by omega))
   have:=ear_neg h2 A hA E (px:=x (b+j)) (Y:=y (b+j)) (by rw [sd_pt x y b (by omega) (by omega) (by omega) (by omega),<- Int.add_assoc];exact g0)
     (by rw [sd_pt x y b (by omega) (by omega) (by omega) (by omega),<- Int.add_assoc,<- Int.add_assoc];exact g1) (by rw [sd_pt x y b (by omega) (by omega) (by omega) (by omega),<- Int.add_assoc];exact g2) (fun c hcc=>by
       obtain ⟨t,t0,t1,ht⟩:=red e c
       have:=hcc.2
       rw [pt_per y b e c t ht,pt_at y b t0 t1] at this
       exact dist t t0 t1 this.symm)
   omega
theorem area3 (C:PolyC 3 x y D) (hκ:Kap 3 x y D (-1)):0<c3 x y 0 1 2:=by
 have a:=area_sg C.P hκ
 have e:sm (fun b=>(x b+x (b+1)) * (y (b+1) - y b)) 3=c3 x y 0 1 2:=by
   have x3:x 3=x 0:=C.P.px 3 0 rfl
   have y3:y 3=y 0:=C.P.py 3 0 rfl
   show 0+(x 0+x 1) * (y 1 - y 0)+(x 1+x 2) * (y 2 - y 1)+(x 2+x 3) * (y 3 - y 2)=_
   rw [x3,y3]
   unfold c3;grind
 rw [e] at a
 omega
theorem low_turn (C:PolyC n x y D) (hκ:Kap n x y D κ) {a:Int} (h0:∀ b,y (a+1) <= y b):sg (c3 x y a (a+1) (a+2)) = - κ:=by
 have t:=lowest C.P hκ h0
 have d1:=dy_ne C.P a
 have d2:=dy_ne C.P (a+1)
 rw [aa] at d2
 have l1:=h0 a
 have l2:=h0 (a+2)
 rw [tau_ext C.P (.inr ⟨by omega,by omega⟩)] at t
 exact t
theorem sg_one {v:Int} (h:sg v=1):0<v:=by
 unfold sg at h
 by_cases g:0<v
 · exact g
 · rw [if_neg g] at h
   by_cases g':v<0
   · rw [if_pos g'] at h;omega
   · rw [if_neg g'] at h;omega
theorem lowest_ex (C:PolyC n x y D):∃ a:Int,∀ b,y (a+1) <= y b:=by
 have hn:=C.P.hn
 obtain ⟨k,h1,_,h3⟩:=exists_min (p:=fun _=>True) (v:=fun i=>y (i:Int)) (n:=n) ⟨0,by omega,trivial⟩
 refine ⟨(k:Int) - 1,fun b=>?_⟩
 have h0:=Int.emod_nonneg b (show (n:Int) ≠ 0 by omega)
 have h1:=Int.emod_lt_of_pos b (show 0<(n:Int) by omega)
 rw [C.P.py b ((b % (n:Int)).toNat:Int) (by rw [Int.toNat_of_nonneg h0,Int.emod_emod]),show (k:Int) - 1+1=k by omega]
 exact h3 _ (by omega) trivial
theorem diag (C:PolyC n x y D) (h4:4 <= n) {a:Int} (h0:∀ b,y (a+1) <= y b) (S:0<c3 x y a (a+1) (a+2)) (hE:¬ Ear n x y a) :
   ∃ d:Nat,2 <= d/\d+2 <= n/\0<c3 x y a (a+1) (a+1+d)/\0<c3 x y (a+1) (a+2) (a+1+d)/\Clean x y (a+1) d/\Clean x y (a+1+d) (n - d):=by
 have P:=C.P
 have low:∀ b,b % (n:Int) ≠ (a+1) % (n:Int)->y (a+1)<y b:=fun b hb=>by
   have:=h0 b
   have:=P.hy _ _ hb
   omega
 -- the corner farthest from the side
 obtain ⟨i, hi, hT, hmax⟩ : ∃ i : Nat, i < n - 3 /\ (0 <= c3 x y a (a + 1) (a + 3 + i) /\ 0 <= c3 x y (a + 1) (a + 2) (a + 3 + i) /\ 0 <= c3 x y (a + 2) a (a + 3 + i)) /\
     ∀ j:Nat,j<n - 3->(0 <= c3 x y a (a+1) (a+3+j)/\0 <= c3 x y (a+1) (a+2) (a+3+j)/\0 <= c3 x y (a+2) a (a+3+j))->c3 x y (a+2) a (a+3+j) <= c3 x y (a+2) a (a+3+i):=by
   have ex:∃ k:Nat,k<n - 3/\(0 <= c3 x y a (a+1) (a+3+k)/\0 <= c3 x y (a+1) (a+2) (a+3+k)/\0 <= c3 x y (a+2) a (a+3+k)):=by
     refine Classical.byContradiction fun hno=>hE ⟨S,fun k k1 k2 k3 hk=>hno ?_⟩
     have m0:=Int.emod_nonneg (k - (a+3)) (show (n:Int) ≠ 0 by omega)
     have m1:=Int.emod_lt_of_pos (k - (a+3)) (show 0<(n:Int) by omega)
     have e:k % (n:Int)=(a+3+(k - (a+3)) % (n:Int)) % (n:Int):=by rw [Int.add_emod_emod,show a+3+(k - (a+3))=k by omega]
     have ne:∀ t:Int,t ∈ [0,1,2]->k % (n:Int) ≠ (a+t) % (n:Int)->(k - (a+3)) % (n:Int) ≠ n - 3+t:=fun t _ hne h=>hne (by
       rw [e,h,show a+3+((n:Int) - 3+t)=a+t+n by omega,Int.add_emod_right])
     have n0:=ne 0 (by simp) (by rw [Int.add_zero];exact k1)
     have n1:=ne 1 (by simp) k2
     have n2:=ne 2 (by simp) k3
     rw [c3_per C rfl rfl e,c3_per C rfl rfl e,c3_per C rfl rfl e] at hk
     refine ⟨((k - (a+3)) % (n:Int)).toNat,by omega,?_⟩
     rw [Int.toNat_of_nonneg m0]
     exact hk
   obtain ⟨i,h1,h2,h3⟩:=exists_min (v:=fun k=>- c3 x y (a+2) a (a+3+k)) ex
   exact ⟨i,h1,h2,fun j hj hp=>by have:=h3 j hj hp;omega⟩
 have ez:a+1+((i+2:Nat):Int)=a+3+i:=by omega
 generalize hz:a+3+(i:Int)=z at *
 obtain ⟨t1,t2,t3⟩:=hT
 have nz:∀ t:Int,0 <= t->t <= 2->z % (n:Int) ≠ (a+t) % (n:Int):=fun t _ _=>(mod_ne (by omega) (by omega)).symm
 have nz0:z % (n:Int) ≠ a % (n:Int):=by have:=nz 0 (by omega) (by omega);rwa [Int.add_zero] at this
 have nz1:=nz 1 (by omega) (by omega)
 have nz2:=nz 2 (by omega) (by omega)
 have yz:=low z nz1
 have yu:=low a (mod_ne (by omega) (by have:=P.hn;omega))
 have yw:=low (a+2) (mod_ne (by omega) (by have:=P.hn;omega)).symm
 have four:=c3_four x y a (a+1) (a+2) z
 have by':=bary_y x y a (a+1) (a+2) z
 have z1:0<c3 x y a (a+1) z:=by
   rcases Int.lt_or_le 0 (c3 x y a (a+1) z) with g | g
   · exact g
   · exfalso
     have e:c3 x y a (a+1) z=0:=by omega
     refine on3 P e (.inr ⟨yz,?_⟩)
     have hne:=P.hy _ _ nz0
     rw [e,Int.zero_mul,<- four,e] at by'
     have k:(c3 x y (a+1) (a+2) z+c3 x y (a+2) a z) * (y a - y z)=c3 x y (a+2) a z * (y a - y (a+1)):=by grind
     have:=Int.mul_nonneg t3 (show 0 <= y a - y (a+1) by omega)
     have:=nn_of (p:=c3 x y (a+1) (a+2) z+c3 x y (a+2) a z) (q:=y a - y z) (by omega) (by omega)
     omega
 have z2:0<c3 x y (a+1) (a+2) z:=by
   rcases Int.lt_or_le 0 (c3 x y (a+1) (a+2) z) with g | g
   · exact g
   · exfalso
     have e:c3 x y (a+1) (a+2) z=0:=by omega
     refine on3 P (b:=a+1) (c:=z) (by rw [aa];exact e) (.inl ⟨yz,?_⟩)
     rw [aa]
     have hne:=P.hy _ _ nz2
     rw [e,Int.zero_mul,<- four,e] at by'
     have k:(c3 x y a (a+1) z+c3 x y (a+2) a z) * (y (a+2) - y z)=c3 x y (a+2) a z * (y (a+2) - y (a+1)):=by grind
     have:=Int.mul_nonneg t3 (show 0 <= y (a+2) - y (a+1) by omega)
     have:=nn_of (p:=c3 x y a (a+1) z+c3 x y (a+2) a z) (q:=y (a+2) - y z) (by omega) (by omega)
     omega
 -- who lies in the triangle,farther than z
 have far':∀ k,k % (n:Int) ≠ a % (n:Int)->k % (n:Int) ≠ (a+1) % (n:Int)->k % (n:Int) ≠ (a+2) % (n:Int)->0 <= c3 x y a (a+1) k->0 <= c3 x y (a+1) (a+2) k->c3 x y (a+2) a z<c3 x y (a+2) a k->False:=fun k k1 k2 k3 q1 q2 q3=>by
   have m0:=Int.emod_nonneg (k - (a+3)) (show (n:Int) ≠ 0 by omega)
   have m1:=Int.emod_lt_of_pos (k - (a+3)) (show 0<(n:Int) by omega)
   have e:k % (n:Int)=(a+3+(k - (a+3)) % (n:Int)) % (n:Int):=by rw [Int.add_emod_emod,show a+3+(k - (a+3))=k by omega]
   have ne:∀ t:Int,k % (n:Int) ≠ (a+t) % (n:Int)->(k - (a+3)) % (n:Int) ≠ n - 3+t:=fun t hne h=>hne (by
     rw [e,h,show a+3+((n:Int) - 3+t)=a+t+n by omega,Int.add_emod_right])
   have n0:=ne 0 (by rw [Int.add_zero];exact k1)
   have n1:=ne 1 k2
   have n2:=ne 2 k3
   rw [c3_per C rfl rfl e] at q1 q2 q3
   have:=hmax ((k - (a+3)) % (n:Int)).toNat (by omega) (by rw [Int.toNat_of_nonneg m0];exact ⟨q1,q2,by omega⟩)
   rw [Int.toNat_of_nonneg m0] at this
   omega
 have gu:c3 x y (a+1) z a=c3 x y a (a+1) z:=(c3_cyc x y a (a+1) z).symm
 have gw:c3 x y (a+1) z (a+2) = - c3 x y (a+1) (a+2) z:=by unfold c3;grind
 have onv:∀ k,k % (n:Int) ≠ (a+1) % (n:Int)->k % (n:Int) ≠ z % (n:Int)->c3 x y (a+1) z k=0->y z<y k:=fun k k1 k2 h=>by
   rcases Int.lt_or_le (y z) (y k) with g | g
   · exact g
   exfalso
   have hne:=P.hy _ _ k2
   have yk:=low k k1
   have ku:k % (n:Int) ≠ a % (n:Int):=fun e=>by rw [c3_per C rfl rfl e,gu] at h;omega
   have kw:k % (n:Int) ≠ (a+2) % (n:Int):=fun e=>by rw [c3_per C rfl rfl e,gw] at h;omega
   have l1:=line_F x y (a+1) z k a (a+1)
   have l2:=line_F x y (a+1) z k (a+1) (a+2)
   have l3:=line_F x y (a+1) z k (a+2) a
   rw [h,Int.mul_zero,c3_abb,Int.mul_zero] at l1
   rw [h,Int.mul_zero,c3_aba,Int.mul_zero] at l2
   rw [h,Int.mul_zero,show c3 x y (a+2) a (a+1)=c3 x y a (a+1) (a+2) by rw [c3_cyc x y a,c3_cyc x y (a+1)]] at l3
   have p1:=Int.mul_pos (show 0<y k - y (a+1) by omega) z1
   have p2:=Int.mul_pos (show 0<y k - y (a+1) by omega) z2
   have p3:=Int.mul_pos (show 0<y z - y k by omega) (show 0<c3 x y a (a+1) (a+2) - c3 x y (a+2) a z by omega)
   have e3:(y z - y (a+1)) * (c3 x y (a+2) a k - c3 x y (a+2) a z)=(y z - y k) * (c3 x y a (a+1) (a+2) - c3 x y (a+2) a z):=by rw [Int.mul_sub,l3];grind
   have q1:=pos_of (show 0<y z - y (a+1) by omega) (q:=c3 x y a (a+1) k) (by omega)
   have q2:=pos_of (show 0<y z - y (a+1) by omega) (q:=c3 x y (a+1) (a+2) k) (by omega)
   have q3:=pos_of (show 0<y z - y (a+1) by omega) (q:=c3 x y (a+2) a k - c3 x y (a+2) a z) (by omega)
   exact far' k ku k1 kw (by omega) (by omega) (by omega)
 have cross:∀ b s t:Int,((s=b/\t=b+1)\/(s=b+1/\t=b))->s % (n:Int) ≠ (a+1) % (n:Int)->t % (n:Int) ≠ (a+1) % (n:Int)->0<c3 x y (a+1) z s->c3 x y (a+1) z t<0->c3 x y s t (a+1) * c3 x y s t z<0->False:=fun b s t hb sv tv gs gt hL=>by
   have sgn:∀ q r:Int,c3 x y s t q * c3 x y s t r<0->c3 x y b (b+1) q * c3 x y b (b+1) r<0:=fun q r h=>by
     rcases hb with ⟨rfl,rfl⟩ | ⟨rfl,rfl⟩
     · exact h
     · rw [c3_neg x y t (t+1),c3_neg x y t (t+1),Int.neg_mul_neg] at h;exact h
   have opp:∀ p q:Int,c3 x y p q s * c3 x y p q t<0->c3 x y p q b * c3 x y p q (b+1)<0:=fun p q g=>by
     rcases hb with ⟨rfl,rfl⟩ | ⟨rfl,rfl⟩
     · exact g
     · rw [Int.mul_comm];exact g
   have bs:∀ m:Int,s % (n:Int) ≠ m->t % (n:Int) ≠ m->b % (n:Int) ≠ m/\(b+1) % (n:Int) ≠ m:=fun m h1 h2=>by
     rcases hb with ⟨rfl,rfl⟩ | ⟨rfl,rfl⟩
     · exact ⟨h1,h2⟩
     · exact ⟨h2,h1⟩
   have su:t % (n:Int) ≠ a % (n:Int):=fun e=>by rw [c3_per C rfl rfl e,gu] at gt;omega
   have sw:s % (n:Int) ≠ (a+2) % (n:Int):=fun e=>by rw [c3_per C rfl rfl e,gw] at gs;omega
   have bv:=bs _ sv tv
   rcases Int.le_total (c3 x y (a+2) a t) (c3 x y (a+2) a s) with hf | hf
   · obtain ⟨k1,k2,k3⟩:=cap1 S z1 z2 t3 gs gt hL hf
     have ss:s % (n:Int) ≠ a % (n:Int):=fun e=>by rw [c3_per C rfl rfl e,c3_abb] at k1;omega
     rcases Int.lt_or_le (c3 x y a (a+1) s) 0 with g | g
     · obtain ⟨m1,m2⟩:=k3 g
       have bu:=bs _ ss su
       exact no3 P (a:=a) (b:=b) ⟨fun e=>bu.1 e.symm,fun e=>bu.2 e.symm,fun e=>bv.1 e.symm⟩ (opp _ _ (Int.mul_neg_of_neg_of_pos g m1)) (sgn _ _ m2)
     · exact far' s ss sv sw g (Int.le_of_lt (k2 g)) k1
   · obtain ⟨k1,k2,k3⟩:=cap2 S z1 z2 t3 gt gs (by rw [c3_neg x y s t,c3_neg x y s t,Int.neg_mul_neg];exact hL) hf
     have tt:t % (n:Int) ≠ (a+2) % (n:Int):=fun e=>by rw [c3_per C rfl rfl e,c3_aba] at k1;omega
     rcases Int.lt_or_le (c3 x y (a+1) (a+2) t) 0 with g | g
     · obtain ⟨m1,m2⟩:=k3 g
       have bw:=bs _ sw tt
       rw [c3_neg x y s t,c3_neg x y s t,Int.neg_mul_neg,Int.mul_comm] at m2
       refine no3 P (a:=a+1) (b:=b) ⟨fun e=>bv.1 e.symm,fun e=>bv.2 e.symm,fun e=>bw.1 (by rw [<- e,aa])⟩ ?_ ?_
       · rw [aa];exact opp _ _ (Int.mul_neg_of_pos_of_neg m1 g)
       · rw [aa];exact sgn _ _ m2
     · exact far' t su tv tt (Int.le_of_lt (k2 g)) g k1
 have cross':∀ b:Int,b % (n:Int) ≠ (a+1) % (n:Int)->(b+1) % (n:Int) ≠ (a+1) % (n:Int)->c3 x y (a+1) z b * c3 x y (a+1) z (b+1)<0->c3 x y b (b+1) (a+1) * c3 x y b (b+1) z<0->False:=fun b b1 b2 h hL=>by
   rcases mul_neg_iff.1 h with ⟨g1,g2⟩ | ⟨g1,g2⟩
   · exact cross b (b+1) b (.inr ⟨rfl,rfl⟩) b2 b1 g2 g1 (by rw [c3_neg x y b,c3_neg x y b,Int.neg_mul_neg];exact hL)
   · exact cross b b (b+1) (.inl ⟨rfl,rfl⟩) b1 b2 g1 g2 hL
 have zv:∀ k,c3 x y z (a+1) k = - c3 x y (a+1) z k:=fun k=>c3_neg x y (a+1) z k
 refine ⟨i+2,by omega,by omega,by rw [ez];exact z1,by rw [ez];exact z2,?_,?_⟩
 · have nv:∀ r:Int,1 <= r->r <= i+2->(a+1+r) % (n:Int) ≠ (a+1) % (n:Int):=fun r r0 r1=>(mod_ne (by omega) (by omega)).symm
   have nz':∀ r:Int,0 <= r->r <= i+1->(a+1+r) % (n:Int) ≠ z % (n:Int):=fun r r0 r1=>mod_ne (by omega) (by omega)
   refine ⟨fun r r0 r1 h1 h2 h=>?_,fun r r0 r1 h=>?_,fun h=>?_,fun h=>?_⟩
   · rw [ez] at h1 h2 h
     rw [zv] at h
     have:=onv (a+1+r) (nv r r0 (by omega)) (nz' r (by omega) (by omega)) (by omega)
     omega
   · rw [ez,zv,zv,Int.neg_mul_neg] at h
     refine cross' (a+1+r) (nv r r0 (by omega)) (by rw [Int.add_assoc];exact nv (r+1) (by omega) (by omega)) h.1 ?_
     rw [Int.mul_comm];exact h.2
   · rw [ez] at h ⊢
     rw [c3_cyc,zv] at h
     have:=onv (z - 1) (by have:=nv (i+1) (by omega) (by omega);rwa [show a+1+((i:Int)+1)=z - 1 by omega] at this) (by have:=nz' (i+1) (by omega) (by omega);rwa [show a+1+((i:Int)+1)=z - 1 by omega] at this) (by omega)
     exact .inr ⟨yz,this⟩
   · rw [ez,zv,show a+1+1=a+2 by omega,gw] at h
     omega
 · have ed:a+1+((i+2:Nat):Int)+((n - (i+2):Nat):Int)=a+1+n:=by omega
   have xv:x (a+1+n)=x (a+1):=P.px _ _ (by rw [Int.add_emod_right])
   have yv:y (a+1+n)=y (a+1):=P.py _ _ (by rw [Int.add_emod_right])
   have ca:∀ p q,c3 x y (a+1+n) p q=c3 x y (a+1) p q:=fun p q=>by unfold c3;rw [xv,yv]
   have cb:∀ p q,c3 x y p (a+1+n) q=c3 x y p (a+1) q:=fun p q=>by unfold c3;rw [xv,yv]
   have cc:∀ p q,c3 x y p q (a+1+n)=c3 x y p q (a+1):=fun p q=>by unfold c3;rw [xv,yv]
   have nv:∀ r:Int,0 <= r->r<n - (i+2)->(z+r) % (n:Int) ≠ (a+1) % (n:Int):=fun r r0 r1=>(mod_ne (by omega) (by omega)).symm
   have nz':∀ r:Int,1 <= r->r <= n - (i+2)->(z+r) % (n:Int) ≠ z % (n:Int):=fun r r0 r1=>(mod_ne (by omega) (by omega)).symm
   refine ⟨fun r r0 r1 h1 h2 h=>?_,fun r r0 r1 h=>?_,fun h=>?_,fun h=>?_⟩
   · rw [ed,ez,yv] at h1 h2
     rw [ed,ez,ca] at h
     have:=onv (z+r) (nv r (by omega) (by omega)) (nz' r r0 (by omega)) h
     omega
   · rw [ed,ez,ca,ca,cc] at h
     exact cross' (z+r) (nv r (by omega) (by omega)) (by rw [Int.add_assoc];exact nv (r+1) (by omega) (by omega)) h.1 h.2
   · rw [ed,ez,cb,show a+1+(n:Int) - 1=a+n by omega,c3_per C (a:=a+n) (a':=a) (by rw [Int.add_emod_right]) rfl rfl] at h
     omega
   · rw [ed,ez,ca] at h
     rw [ed,ez,yv]
     have:=onv (z+1) (nv 1 (by omega) (by omega)) (nz' 1 (by omega) (by omega)) h
     exact .inl ⟨yz,this⟩
end
end PArea
namespace PArea
section
variable {n:Nat} {x y:Int->Int} {D κ:Int}
theorem low_out {u v w k:Int} (S:0<c3 x y u v w) (h1:y k<y u) (h2:y k<y v) (h3:y k<y w):¬ (0 <= c3 x y u v k/\0 <= c3 x y v w k/\0 <= c3 x y w u k):=fun ⟨a,b,c⟩=>by
 have e:=bary_y x y u v w k
 have f:=c3_four x y u v w k
 have i:c3 x y v w k * (y u - y k)+c3 x y w u k * (y v - y k)+c3 x y u v k * (y w - y k)=0:=by rw [<- f] at e;grind
 have ge:∀ p t:Int,0 <= p->1 <= t->p <= p * t:=fun p t hp ht=>by
   have:=Int.mul_le_mul_of_nonneg_left ht hp;omega
 have:=ge _ (y u - y k) b (by omega)
 have:=ge _ (y v - y k) c (by omega)
 have:=ge _ (y w - y k) a (by omega)
 omega
theorem ears:∀ (N:Nat) {n:Nat} {x y:Int->Int},n <= N->PolyC n x y D->Kap n x y D (-1) -> ∀ s:Int,∃ a,Ear n x y a/\(a+1) % (n:Int) ≠ s % (n:Int)/\(a+1) % (n:Int) ≠ (s+1) % (n:Int)
 | 0,n,x,y,hN,C,_,_=>by have:=C.P.hn;omega
 | N+1,n,x,y,hN,C,hκ,s=>by
   have hn:=C.P.hn
   by_cases h3:n=3
   · subst h3
     have S:=area3 C hκ
     have all:∀ a,0<c3 x y a (a+1) (a+2):=all3 (fun a b h hp=>by rw [c3_per C h (succ_mod h 1) (succ_mod h 2)];exact hp) S
       (by show 0<c3 x y 1 2 3;rw [c3_per C (c:=3) (c':=0) rfl rfl rfl,<- c3_cyc];exact S)
       (by show 0<c3 x y 2 3 4;rw [c3_per C (b:=3) (b':=0) (c:=4) (c':=1) rfl rfl rfl,c3_cyc];exact S)
     exact ⟨s+1,⟨all _,fun k k1 k2 k3=>by omega⟩,by omega,by omega⟩
   · have h4:4 <= n:=by omega
     obtain ⟨a,h0⟩:=lowest_ex C
     have S:0<c3 x y a (a+1) (a+2):=sg_one (low_turn C hκ h0)
     -- the marked edge
     obtain ⟨m,m0,m1,em⟩:∃ m:Int,0 <= m/\m<n/\s % (n:Int)=(a+1+m) % (n:Int) :=
       ⟨(s - (a+1)) % (n:Int),Int.emod_nonneg _ (by omega),Int.emod_lt_of_pos _ (by omega),by rw [Int.add_emod_emod,show a+1+(s - (a+1))=s by omega]⟩
     have em1:(s+1) % (n:Int)=(a+1+(m+1)) % (n:Int):=by rw [<- Int.add_assoc];exact succ_mod em 1
     rw [em,em1]
     -- an ear of a part,moved to lie at a place below the diagonal's
     have place : ∀ {e : Nat} {b : Int}, 2 <= e -> PolyC (e + 1) (pt x b e) (pt y b e) D -> ∀ {a' : Int}, Ear (e + 1) (pt x b e) (pt y b e) a' -> (a' + 1) % ((e + 1:Nat):Int) ≠ (e:Int) % ((e + 1:Nat):Int) -> (a' + 1) % ((e + 1:Nat):Int) ≠ ((e:Int) + 1) % ((e + 1:Nat):Int) ->
         ∃ r:Int,0 <= r/\r+2 <= e/\Ear (e+1) (pt x b e) (pt y b e) r:=fun {e b} h2 A {a'} E e1 e2=>by
       obtain ⟨r,r0,r1,er⟩:=red e (a'+1)
       have ne1:r ≠ e:=fun g=>e1 (by rw [er,g])
       have ne2:r ≠ 0:=fun g=>e2 (by rw [er,g,show (e:Int)+1=((e+1:Nat):Int) by omega,Int.emod_self,Int.zero_emod])
       refine ⟨r - 1,by omega,by omega,ear_per A ?_ E⟩
       have:=succ_mod er (-1)
       rwa [show a'+1 + -1=a' by omega,show r + -1=r - 1 by omega] at this
     by_cases hE:Ear n x y a
     · by_cases hs:m=0\/m=n - 1
       · -- cut it off
         obtain ⟨R,hR⟩:=ear_cut C h4 hκ hE
         obtain ⟨a',E',e1,e2⟩:=ears N (by omega) R hR ((n - 2:Nat):Int)
         obtain ⟨r,r0,r1,E⟩:=place (by omega) R E' e1 e2
         have hS:=E.1
         rw [c3_pt x y (a+2) (by omega) (by omega) (by omega) (by omega) (by omega) (by omega),<- Int.add_assoc,<- Int.add_assoc] at hS
         refine ⟨a+2+r,⟨hS,fun k k1 k2 k3=>?_⟩,?_,?_⟩
         · obtain ⟨j, j0, j1, hj⟩ : ∃ j : Int, 0 <= j /\ j < n /\ k % (n:Int) = (a + 2 + j) % (n:Int) :=
             ⟨(k - (a+2)) % (n:Int),Int.emod_nonneg _ (by omega),Int.emod_lt_of_pos _ (by omega),by rw [Int.add_emod_emod,show a+2+(k - (a+2))=k by omega]⟩
           rw [hj] at k1 k2 k3
           have n1:j ≠ r:=fun h=>k1 (by rw [h])
           have n2:j ≠ r+1:=fun h=>k2 (by rw [h,<- Int.add_assoc])
           have n3:j ≠ r+2:=fun h=>k3 (by rw [h,<- Int.add_assoc])
           rw [c3_per C rfl rfl hj,c3_per C rfl rfl hj,c3_per C rfl rfl hj]
           by_cases hje:j <= ((n - 2:Nat):Int)
           · have md : ∀ t : Int, 0 <= t -> t <= ((n - 2:Nat):Int) -> j ≠ t -> j % ((n - 2 + 1:Nat):Int) ≠ t % ((n - 2 + 1:Nat):Int) := fun t t0 t1 ht => by
               rcases Int.lt_or_lt_of_ne ht with g | g
               · exact mod_ne (by omega) (by omega)
               · exact (mod_ne (by omega) (by omega)).symm
             have:=E.2 j (md r r0 (by omega) n1) (md (r+1) (by omega) (by omega) n2) (md (r+2) (by omega) r1 n3)
             rw [c3_pt x y (a+2) (by omega) (by omega) (by omega) (by omega) (by omega) (by omega),c3_pt x y (a+2) (by omega) (by omega) (by omega) (by omega) (by omega) (by omega),c3_pt x y (a+2) (by omega) (by omega) (by omega) (by omega) (by omega) (by omega),<- Int.add_assoc,<- Int.add_assoc] at this
             exact this
           · have ev:(a+2+j) % (n:Int)=(a+1) % (n:Int):=by rw [show a+2+j=a+1+n by omega,Int.add_emod_right]
             have yv:y (a+2+j)=y (a+1):=C.P.py _ _ ev
             have gt:∀ t:Int,0 <= t->t <= ((n - 2:Nat):Int)->y (a+2+j)<y (a+2+t):=fun t t0 t1=>by
               have:=h0 (a+2+t)
               have:=C.P.hy (a+1) (a+2+t) (mod_ne (by omega) (by omega))
               omega
             exact low_out hS (gt r r0 (by omega)) (by rw [Int.add_assoc (a+2)];exact gt (r+1) (by omega) (by omega)) (by rw [Int.add_assoc (a+2)];exact gt (r+2) (by omega) (by omega))
         · rcases hs with rfl | rfl
           · exact (mod_ne (by omega) (by omega)).symm
           · rw [show a+1+((n:Int) - 1)=a+n by omega,Int.add_emod_right]
             exact (mod_ne (by omega) (by omega)).symm
         · rcases hs with rfl | rfl
           · exact (mod_ne (by omega) (by omega)).symm
           · rw [show a+1+((n:Int) - 1+1)=a+1+n by omega,Int.add_emod_right]
             exact (mod_ne (by omega) (by omega)).symm
       · refine ⟨a,hE,?_,?_⟩
         · exact mod_ne (by omega) (by omega)
         · exact mod_ne (by omega) (by omega)
     · obtain ⟨d,d2,dn,z1,z2,Q1,Q2⟩:=diag C h4 h0 S hE
       have A:=part_poly C d2 (by omega) Q1
       have B:=part_poly C (a:=a+1+d) (d:=n - d) (by omega) (by omega) Q2
       have pA:(-1:Int) % ((d+1:Nat):Int)=(d:Int) % ((d+1:Nat):Int):=by rw [show (d:Int) = -1+((d+1:Nat):Int) by omega,Int.add_emod_right]
       have hA:Kap (d+1) (pt x (a+1) d) (pt y (a+1) d) D (-1):=by
         obtain ⟨κ,h1,h2⟩:=Kex A
         have l:=low_turn A h2 (a:=-1) (fun b=>by
           rw [show (-1:Int)+1=0 from rfl,pt_at y (a+1) (Int.le_refl _) (by omega),Int.add_zero]
           exact h0 _)
         rw [c3_per A pA (b:=-1+1) (b':=0) rfl (c:=-1+2) (c':=1) rfl,c3_pt x y (a+1) (by omega) (by omega) (by omega) (by omega) (by omega) (by omega),Int.add_zero,c3_cyc,show a+1+1=a+2 by omega,sg_pos z2] at l
         rcases h1 with rfl | rfl
         · omega
         · exact h2
       have ev:(a+1+(d:Int)+((n - d:Nat):Int)) % (n:Int)=(a+1) % (n:Int):=by rw [show a+1+(d:Int)+((n - d:Nat):Int)=a+1+n by omega,Int.add_emod_right]
       have eu:(a+1+(d:Int)+(((n - d:Nat):Int) - 1)) % (n:Int)=a % (n:Int):=by rw [show a+1+(d:Int)+(((n - d:Nat):Int) - 1)=a+n by omega,Int.add_emod_right]
       have hB:Kap (n - d+1) (pt x (a+1+d) (n - d)) (pt y (a+1+d) (n - d)) D (-1):=by
         obtain ⟨κ,h1,h2⟩:=Kex B
         have l:=low_turn B h2 (a:=((n - d:Nat):Int) - 1) (fun b=>by
           rw [show ((n - d:Nat):Int) - 1+1=((n - d:Nat):Int) by omega,pt_at y (a+1+d) (by omega) (Int.le_refl _),C.P.py _ _ ev]
           exact h0 _)
         rw [show ((n - d:Nat):Int) - 1+1=((n - d:Nat):Int) by omega,c3_per B rfl rfl (c:=((n - d:Nat):Int) - 1+2) (c':=0) (by rw [show ((n - d:Nat):Int) - 1+2=0+((n - d+1:Nat):Int) by omega,Int.add_emod_right]),c3_pt x y (a+1+d) (by omega) (by omega) (by omega) (by omega) (by omega) (by omega),Int.add_zero,c3_per C eu ev rfl,sg_pos z1] at l
         rcases h1 with rfl | rfl
         · omega
         · exact h2
       by_cases hm:m<d
       · obtain ⟨a',E',e1,e2⟩:=ears N (by omega) B hB ((n - d:Nat):Int)
         obtain ⟨r,r0,r1,E⟩:=place (by omega) B E' e1 e2
         have back:∀ t:Int,0 <= t->t <= d->pt x (a+1) d t=x (a+1+t):=fun t t0 t1=>pt_at x (a+1) t0 t1
         have ea:∀ f:Int->Int,(∀ u v:Int,u % (n:Int)=v % (n:Int)->f u=f v)->pt f (a+1+d+((n - d:Nat):Int)) d=pt f (a+1) d:=fun f hf=>funext fun i=>by
           unfold pt pos
           exact hf _ _ (succ_mod ev _)
         have A':PolyC (d+1) (pt x (a+1+d+((n - d:Nat):Int)) d) (pt y (a+1+d+((n - d:Nat):Int)) d) D:=by rw [ea x C.P.px,ea y C.P.py];exact A
         have hA':Kap (d+1) (pt x (a+1+d+((n - d:Nat):Int)) d) (pt y (a+1+d+((n - d:Nat):Int)) d) D (-1):=by rw [ea x C.P.px,ea y C.P.py];exact hA
         refine ⟨a+1+d+r,lift C hκ (e:=n - d) (e':=d) (by omega) (by omega) d2 B hB A' hA' r0 r1 E,?_,?_⟩
         · exact (mod_ne (by omega) (by omega)).symm
         · exact (mod_ne (by omega) (by omega)).symm
       · obtain ⟨a',E',e1,e2⟩:=ears N (by omega) A hA (d:Int)
         obtain ⟨r,r0,r1,E⟩:=place d2 A E' e1 e2
         refine ⟨a+1+r,lift C hκ (e:=d) (e':=n - d) (by omega) d2 (by omega) A hA B hB r0 r1 E,?_,?_⟩
         · exact mod_ne (by omega) (by omega)
         · exact mod_ne (by omega) (by omega)
end
end PArea
theorem inj_of {x:L.Sq L.Pt} (h:(L.toL x).Nodup) {i k:Nat} (hi:i<x.n) (hk:k<x.n) (e:x.g i=x.g k):i=k:=by
 unfold L.toL at h
 rw [List.nodup_iff_pairwise_ne,List.pairwise_map,List.pairwise_iff_getElem] at h
 simp only [List.getElem_range] at h
 rcases Nat.lt_trichotomy i k with q | q | q
 · exact absurd e (h i k (by simpa using hi) (by simpa using hk) q)
 · exact q
 · exact absurd e.symm (h k i (by simpa using hk) (by simpa using hi) q)
theorem c3_hx (x:L.Sq L.Pt) (a b c:Int):PArea.c3 (L.hx x) (L.hy x) a b c=8000001 * L.cross (L.cy x a) (L.cy x b) (L.cy x c):=by
 unfold PArea.c3 L.hx L.hy L.cross
 grind
def L.dist_ (x:L.Sq L.Pt):Prop:=3 <= x.n/\(∀ a,L.bd (L.cy x a)) /\ ∀ a b:Int,L.cy x a=L.cy x b->a % (x.n:Int)=b % (x.n:Int)
theorem fine_dist {x:L.Sq L.Pt} (h:L.fine x):L.dist_ x:=by
 obtain ⟨h3,hn,hs,hnd,hb⟩:=h
 refine ⟨h3,fun a=>hb _ (mem_toL.2 ⟨_,ix_lt (by omega),rfl⟩),fun a b e=>?_⟩
 have:=inj_of hnd (ix_lt (i:=a) (by omega)) (ix_lt (i:=b) (by omega)) e
 rw [<- ix_emod (a:=a) (by omega),<- ix_emod (a:=b) (by omega),this]
theorem hy_dist {x:L.Sq L.Pt} (h:L.dist_ x) (a b:Int) (hab:a % (x.n:Int) ≠ b % (x.n:Int)):L.hy x a ≠ L.hy x b:=fun e=>hab (h.2.2 a b (by
 have b1:=h.2.1 a
 have b2:=h.2.1 b
 unfold L.bd at b1 b2
 unfold L.hy at e
 have e1:(L.cy x a).y=(L.cy x b).y:=by omega
 have e2:(L.cy x a).x=(L.cy x b).x:=by omega
 generalize L.cy x a=p at *
 generalize L.cy x b=r at *
 cases p;cases r;simp only at e1 e2;rw [e1,e2]))
theorem hy_per (x:L.Sq L.Pt) (hn:0<x.n) (a b:Int) (h:a % (x.n:Int)=b % (x.n:Int)):L.hx x a=L.hx x b/\L.hy x a=L.hy x b:=by
 unfold L.hx L.hy;rw [cy_per hn h];exact ⟨rfl,rfl⟩
theorem dv_ex {x:L.Sq L.Pt} (h:L.dist_ x):∃ D,0<D/\PArea.dvd x.n (L.hy x) D:=by
 have hn:0<x.n:=by have:=h.1;omega
 obtain ⟨D,h1,h2⟩:=mult_ex (fun t=>L.hy x ((t / x.n:Nat):Int) - L.hy x ((t % x.n:Nat):Int)) (x.n * x.n)
 refine ⟨D,h1,fun a b hab=>?_⟩
 have red:∀ a:Int,∃ k:Nat,k<x.n/\a % (x.n:Int)=(k:Int) % (x.n:Int):=fun a=>by
   have h0:=Int.emod_nonneg a (show (x.n:Int) ≠ 0 by omega)
   have h1:=Int.emod_lt_of_pos a (show 0<(x.n:Int) by omega)
   exact ⟨(a % (x.n:Int)).toNat,by omega,by rw [Int.toNat_of_nonneg h0,Int.emod_emod]⟩
 obtain ⟨i,hi,ei⟩:=red a
 obtain ⟨k,hk,ek⟩:=red b
 have hne:=hy_dist h a b hab
 rw [(hy_per x hn _ _ ei).2,(hy_per x hn _ _ ek).2] at hne ⊢
 have hlt:k * x.n+i<x.n * x.n:=by
   have:k * x.n+x.n <= x.n * x.n:=by
     have:=Nat.mul_le_mul_right x.n (show k+1 <= x.n by omega)
     rw [Nat.add_mul,Nat.one_mul] at this;exact this
   omega
 have e1:(k * x.n+i) / x.n=k:=by rw [Nat.mul_comm,Nat.mul_add_div hn,Nat.div_eq_of_lt hi,Nat.add_zero]
 have e2:(k * x.n+i) % x.n=i:=by rw [Nat.mul_comm,Nat.mul_add_mod,Nat.mod_eq_of_lt hi]
 have:=h2 (k * x.n+i) hlt
 rw [e1,e2] at this
 exact this (by omega)
theorem polyC_fine {x:L.Sq L.Pt} (h:L.fine x) {D:Int} (hD:0<D) (dv:PArea.dvd x.n (L.hy x) D):PArea.PolyC x.n (L.hx x) (L.hy x) D:=by
 have hd:=fine_dist h
 obtain ⟨h3,hn,hs,hnd,hb⟩:=h
 have n0:0<x.n:=by omega
 have bd:=hd.2.1
 have inj:=hd.2.2
 have ne1:∀ a,L.cy x a ≠ L.cy x (a+1):=fun a e=>PArea.next_ne h3 a (inj _ _ e)
 refine PArea.poly_make h3 (fun a b h=>(hy_per x n0 a b h).1) (fun a b h=>(hy_per x n0 a b h).2) hD dv (hy_dist hd) ?_ ?_ ?_
 · intro a b h c hcb hw e
   rw [cr_cross] at e
   have e0:L.cross (L.cy x a) (L.cy x (a+1)) (L.cy x c)=0:=by omega
   have ho:=on_of e0 (ne1 a) (bd _) (bd _) (bd _) hw.1 hw.2
   refine meet_none (far_meet h3 hs h) (L.cy x c) ?_
   rcases hcb with rfl | rfl
   · exact .inr (.inr (.inl ⟨ho,rfl⟩))
   · exact .inr (.inr (.inr ⟨ho,rfl⟩))
 · intro a b h ⟨g1,g2⟩
   rw [cr_cross,cr_cross] at g1 g2
   exact meet_noX (far_meet h3 hs h) ⟨decide_eq_true (cmp_sg (cr_neg g1)),decide_eq_true (cmp_sg (cr_neg g2))⟩
 · intro a e
   rw [cr_cross] at e
   have e0:L.cross (L.cy x a) (L.cy x (a+1)) (L.cy x (a+2))=0:=by omega
   have m:=simpC_of n0 hs a (a+1) (PArea.next_ne h3 a)
   rw [if_pos (.inl (by rw [show a+1 - a=1 by omega,Int.emod_eq_of_lt (by omega) (by omega)])),show a+1+1=a+2 by omega] at m
   obtain ⟨q,_,huni⟩:=meet_one.1 m
   have u1:=huni (L.cy x (a+1)) (.inr (.inl ⟨on_left,rfl⟩))
   have n1:=hy_dist hd a (a+1) (PArea.next_ne h3 a)
   have n2:=hy_dist hd (a+1) (a+2) (by have:=PArea.next_ne h3 (a+1);rwa [show a+1+1=a+2 by omega] at this)
   have n3:=hy_dist hd a (a+2) (PArea.two_ne h3 a)
   have far2:¬ L.on (L.cy x a) (L.cy x (a+1)) (L.cy x (a+2))=true:=fun ho=>by
     have u2:=huni (L.cy x (a+2)) (.inr (.inr (.inr ⟨ho,rfl⟩)))
     exact n2 (by unfold L.hy;rw [u1,<- u2])
   have far0:¬ L.on (L.cy x (a+1)) (L.cy x (a+2)) (L.cy x a)=true:=fun ho=>by
     have u2:=huni (L.cy x a) (.inl ⟨ho,rfl⟩)
     exact n1 (by unfold L.hy;rw [u2,<- u1])
   have w2:¬ (min (L.hy x a) (L.hy x (a+1)) <= L.hy x (a+2)/\L.hy x (a+2) <= max (L.hy x a) (L.hy x (a+1))):=fun ⟨p1,p2⟩=>far2 (on_of e0 (ne1 a) (bd _) (bd _) (bd _) p1 p2)
   have w0:¬ (min (L.hy x (a+1)) (L.hy x (a+2)) <= L.hy x a/\L.hy x a <= max (L.hy x (a+1)) (L.hy x (a+2))):=fun ⟨p1,p2⟩=>far0 (on_of (by unfold L.cross at e0 ⊢;grind) (by have:=ne1 (a+1);rwa [show a+1+1=a+2 by omega] at this) (bd _) (bd _) (bd _) p1 p2)
   omega
namespace PArea
theorem polyC_shift {n:Nat} {x y:Int->Int} {D κ:Int} (C:PolyC n x y D) (hκ:Kap n x y D κ) (c:Int):PolyC n (fun a=>x (a+c)) (fun a=>y (a+c)) D/\Kap n (fun a=>x (a+c)) (fun a=>y (a+c)) D κ:=by
 have S:=shift C.P c
 have M:PolyC n (fun a=>x (a+c)) (fun a=>y (a+c)) D:=poly_make S.hn S.px S.py S.hD (fun a b h=>C.dv _ _ (fun e=>h (pred_mod e))) S.hy S.on S.no S.co
 refine ⟨M,?_⟩
 obtain ⟨κ',h1,h2⟩:=Kex M
 have a1:=area_sg C.P hκ
 have a2:κ' * sm (fun b=>(x (b+c)+x (b+1+c)) * (y (b+1+c) - y (b+c))) n<0:=area_sg M.P h2
 have hn:=C.P.hn
 have hp:per n (fun b=>(x b+x (b+1)) * (y (b+1) - y b)):=fun a b h=>by
   show (x a+x (a+1)) * (y (a+1) - y a)=_
   rw [C.P.px a b h,C.P.py a b h,C.P.px _ _ (succ_mod h 1),C.P.py _ _ (succ_mod h 1)]
 have h0:=Int.emod_nonneg c (show (n:Int) ≠ 0 by omega)
 have e:sm (fun b=>(x (b+c)+x (b+1+c)) * (y (b+1+c) - y (b+c))) n=sm (fun b=>(x b+x (b+1)) * (y (b+1) - y b)) n:=by
   rw [<- sm_shift (c % (n:Int)).toNat hp]
   refine sm_cong fun i _=>?_
   have:=hp ((i:Int)+c) ((i:Int)+((c % (n:Int)).toNat:Int)) (by rw [Int.toNat_of_nonneg h0,Int.add_emod_emod])
   show (x (i+c)+x (i+1+c)) * (y (i+1+c) - y (i+c))=_
   rw [show (i:Int)+1+c=i+c+1 by omega]
   exact this
 rw [e] at a2
 have hk:=κ_one C.P hκ
 have:κ'=κ:=by
   rcases h1 with rfl | rfl <;> rcases hk with rfl | rfl <;> omega
 rw [<- this];exact h2
end PArea
end Go.Proofs.YtinfalehnaejbaaGreat
namespace Go.Proofs.YtinfalehnaejbaaGreat
open Go.SE Go.RowKit
set_option maxRecDepth 100000
set_option maxHeartbeats 4000000
set_option linter.unusedVariables false
attribute [local irreducible] vc
open Conf
def L.pl (l:L.Sq L.Pt) (f:L.Sq Int):L.Sq L.Pt:=⟨f.n,fun i=>L.lp l f i⟩
theorem cy_rem (l:L.Sq L.Pt) (f:L.Sq Int) {i:Nat} (hi:i<f.n) (h2:2 <= f.n) (j:Int):L.cy (L.pl l (L.rem f i)) j=L.cy (L.pl l f) (PArea.pos ((i:Int)+1) (f.n - 2) (j - i)):=by
 obtain ⟨n,hn⟩:∃ n,f.n=n+2:=⟨f.n - 2,by omega⟩
 have e1:(L.rem f i).n=n+1:=by show f.n - 1=n+1;omega
 have hj:=ix_emod (n:=n+1) (a:=j) (by omega)
 have hlt:=ix_lt (n:=n+1) (i:=j) (by omega)
 have eL:L.cy (L.pl l (L.rem f i)) j=L.lp l f (if L.ix (n+1) j<i then L.ix (n+1) j else L.ix (n+1) j+1):=by
   show L.lp l (L.rem f i) (L.ix (L.rem f i).n j)=_
   rw [e1]
   unfold L.lp
   show l.g (bif decide (L.ix (n+1) j<i) then f.g (L.ix (n+1) j) else f.g (L.ix (n+1) j+1)).toNat=_
   by_cases g:L.ix (n+1) j<i
   · rw [decide_eq_true g,if_pos g];rfl
   · rw [decide_eq_false g,if_neg g];rfl
 rw [eL]
 generalize L.ix (n+1) j=t at *
 have hq:=Int.emod_add_mul_ediv j ((n+1:Nat):Int)
 rw [<- hj] at hq
 have em:(j - (i:Int)) % (((f.n - 2:Nat):Int)+1)=((t:Int) - i) % ((n+1:Nat):Int):=by
   rw [show ((f.n - 2:Nat):Int)+1=((n+1:Nat):Int) by omega,show j - (i:Int)=((t:Int) - i)+((n+1:Nat):Int) * (j / ((n+1:Nat):Int)) by omega,Int.add_mul_emod_self_left]
 unfold PArea.pos
 rw [em]
 have pn:(L.pl l f).n=n+2:=hn
 by_cases g:t<i
 · rw [if_pos g, <- Int.add_emod_right, Int.emod_eq_of_lt (by omega) (by omega), show (i:Int) + 1 + ((t:Int) - i + ((n + 1:Nat):Int)) = (t:Int) + (((L.pl l f).n:Nat):Int) by rw [pn]; omega,
     cy_per (l:=L.pl l f) (by omega) (a:=(t:Int)+(((L.pl l f).n:Nat):Int)) (b:=t) (by rw [Int.add_emod_right]),cy_nat (by omega)];rfl
 · rw [if_neg g,Int.emod_eq_of_lt (by omega) (by omega),show (i:Int)+1+((t:Int) - i)=((t+1:Nat):Int) by omega,cy_nat (by omega)];rfl
theorem cy_three {p:L.Sq L.Pt} {i:Nat} (hi:i<p.n):L.cy p ((i:Int) - 1)=p.g (L.prev p.n i)/\L.cy p (i:Int)=p.g i/\L.cy p ((i:Int)+1)=p.g (L.next p.n i):=by
 refine ⟨?_,cy_nat hi,cy_next hi⟩
 unfold L.cy;rw [ix_prev hi]
theorem inTri_iff {a b c p:L.Pt}:L.inTri a b c p=true ↔ (p ≠ a/\p ≠ b/\p ≠ c)/\0 <= L.cross a b p/\0 <= L.cross b c p/\0 <= L.cross c a p:=by
 have sm:∀ q:L.Pt,(!L.same p q)=true ↔ p ≠ q:=fun q=>by
   constructor
   · intro h e
     rw [e,same_refl] at h;cases h
   · intro h
     cases hs:L.same p q with
     | true=>exact absurd (same_eq hs) h
     | false=>rfl
 unfold L.inTri
 rw [band,band,band,band,band,Bool.and_eq_true,Bool.and_eq_true,Bool.and_eq_true,Bool.and_eq_true,Bool.and_eq_true,sm,sm,sm,decide_eq_true_eq,decide_eq_true_eq,decide_eq_true_eq]
 exact ⟨fun ⟨⟨⟨⟨⟨h1,h2⟩,h3⟩,h4⟩,h5⟩,h6⟩=>⟨⟨h1,h2,h3⟩,h4,h5,h6⟩,fun ⟨⟨h1,h2,h3⟩,h4,h5,h6⟩=>⟨⟨⟨⟨⟨h1,h2⟩,h3⟩,h4⟩,h5⟩,h6⟩⟩
theorem ear_iff {l:L.Sq L.Pt} {f:L.Sq Int} {D:Int} (C:PArea.PolyC (L.pl l f).n (L.hx (L.pl l f)) (L.hy (L.pl l f)) D) {i:Nat} (hi:i<f.n):L.ear l f i=true ↔ PArea.Ear f.n (L.hx (L.pl l f)) (L.hy (L.pl l f)) ((i:Int) - 1):=by
 obtain ⟨c0,c1,c2⟩:=cy_three (p:=L.pl l f) (i:=i) hi
 have c0:L.cy (L.pl l f) ((i:Int) - 1)=L.lp l f (L.prev f.n i):=c0
 have c1:L.cy (L.pl l f) (i:Int)=L.lp l f i:=c1
 have c2:L.cy (L.pl l f) ((i:Int)+1)=L.lp l f (L.next f.n i):=c2
 have hn:0<f.n:=by omega
 have dist:∀ a b:Int,a % (f.n:Int) ≠ b % (f.n:Int)->L.cy (L.pl l f) a ≠ L.cy (L.pl l f) b:=fun a b h e=>C.P.hy a b h (by unfold L.hy;rw [e])
 unfold PArea.Ear L.ear
 rw [show (i:Int) - 1+1=i by omega,show (i:Int) - 1+2=i+1 by omega]
 simp only [c3_hx]
 rw [c0,c1,c2]
 constructor
 · intro h
   have hp:¬ L.cross (L.lp l f (L.prev f.n i)) (L.lp l f i) (L.lp l f (L.next f.n i)) <= 0:=fun g=>by rw [decide_eq_true g] at h;cases h
   rw [decide_eq_false hp] at h
   refine ⟨by omega,fun k k1 k2 k3 ⟨g1,g2,g3⟩=>?_⟩
   have h:=notT h
   have:=L.anyB f.n (fun k=>L.inTri (L.lp l f (L.prev f.n i)) (L.lp l f i) (L.lp l f (L.next f.n i)) (L.lp l f k))
   have hk:L.inTri (L.lp l f (L.prev f.n i)) (L.lp l f i) (L.lp l f (L.next f.n i)) (L.lp l f (L.ix f.n k))=true:=by
     have ek:L.cy (L.pl l f) k=L.lp l f (L.ix f.n k):=rfl
     rw [<- ek]
     refine inTri_iff.2 ⟨⟨?_,?_,?_⟩,by omega,by omega,by omega⟩
     · rw [<- c0];exact dist _ _ k1
     · rw [<- c1];exact dist _ _ k2
     · rw [<- c2];exact dist _ _ k3
   rw [anyB_iff.2 ⟨L.ix f.n k,ix_lt hn,hk⟩] at h
   cases h
 · rintro ⟨h1,h2⟩
   rw [decide_eq_false (by omega),cond_false,anyB_no];rfl
   intro k hk
   cases hc:L.inTri (L.lp l f (L.prev f.n i)) (L.lp l f i) (L.lp l f (L.next f.n i)) (L.lp l f k) with
   | false=>rfl
   | true =>
     obtain ⟨⟨n0,n1,n2⟩,g1,g2,g3⟩:=inTri_iff.1 hc
     have ek:L.cy (L.pl l f) (k:Int)=L.lp l f k:=cy_nat hk
     have ne:∀ a:Int,L.lp l f k ≠ L.cy (L.pl l f) a->(k:Int) % (f.n:Int) ≠ a % (f.n:Int):=fun a h e=>h (by rw [<- ek];exact cy_per (l:=L.pl l f) hn e)
     refine absurd ⟨?_,?_,?_⟩ (h2 (k:Int) (ne _ (by rw [c0];exact n0)) (ne _ (by rw [c1];exact n1)) (ne _ (by rw [c2];exact n2)))
     · rw [ek];omega
     · rw [ek];omega
     · rw [ek];omega
def L.PK (l:L.Sq L.Pt) (D:Int) (f:L.Sq Int):Prop:=PArea.PolyC f.n (L.hx (L.pl l f)) (L.hy (L.pl l f)) D/\PArea.Kap f.n (L.hx (L.pl l f)) (L.hy (L.pl l f)) D (-1)
theorem earK_ear {l:L.Sq L.Pt} {f:L.Sq Int} {D:Int} (h:L.PK l D f) (h4:4 <= f.n):PArea.Ear f.n (L.hx (L.pl l f)) (L.hy (L.pl l f)) ((L.earK l f:Int) - 1):=by
 have hn:0<f.n:=by omega
 obtain ⟨a,E,_,_⟩:=PArea.ears f.n (Nat.le_refl _) h.1 h.2 0
 have hx:=ix_emod (n:=f.n) (a:=a+1) hn
 have E':PArea.Ear f.n (L.hx (L.pl l f)) (L.hy (L.pl l f)) (((L.ix f.n (a+1):Nat):Int) - 1):=PArea.ear_per h.1 (by
   have:=PArea.succ_mod (n:=f.n) (a:=a+1) (b:=((L.ix f.n (a+1):Nat):Int)) (by rw [hx,Int.emod_emod]) (-1)
   rwa [show a+1 + -1=a by omega] at this) E
 have hi:=ix_lt (n:=f.n) (i:=a+1) hn
 have e1:=(ear_iff h.1 hi).2 E'
 unfold L.earK
 rw [decide_eq_true (show (3:Int)<(f.n:Int) by omega),cond_true]
 rcases idx_cases (f:=L.ear l f) (n:=f.n - 1) with ⟨q1,q2⟩ | ⟨i,q1,q2,q3,_⟩
 · rw [q1,decide_eq_true (show (-1:Int)<0 by decide),cond_true]
   have:L.ix f.n (a+1)=f.n - 1:=by
     rcases Nat.lt_or_ge (L.ix f.n (a+1)) (f.n - 1) with g | g
     · rw [q2 _ g] at e1;cases e1
     · omega
   rw [this] at E'
   exact E'
 · rw [q2,decide_eq_false (show ¬ (i:Int)<0 by omega),cond_false,Int.toNat_natCast]
   exact (ear_iff h.1 (by omega)).1 q3
theorem PK_rem {l:L.Sq L.Pt} {f:L.Sq Int} {D:Int} (h:L.PK l D f) (h4:4 <= f.n):L.PK l D (L.rem f (L.earK l f)):=by
 have hi:=earK_lt (l:=l) (f:=f) (by omega)
 obtain ⟨R,hR⟩:=PArea.ear_cut h.1 h4 h.2 (earK_ear h h4)
 rw [show (L.earK l f:Int) - 1+2=(L.earK l f:Int)+1 by omega] at R hR
 obtain ⟨S,hS⟩:=PArea.polyC_shift R hR (-(L.earK l f:Int))
 have ex:L.hx (L.pl l (L.rem f (L.earK l f)))=fun a=>PArea.pt (L.hx (L.pl l f)) ((L.earK l f:Int)+1) (f.n - 2) (a + -(L.earK l f:Int)):=funext fun a=>by
   unfold L.hx
   rw [cy_rem l f hi (by omega)];rfl
 have ey:L.hy (L.pl l (L.rem f (L.earK l f)))=fun a=>PArea.pt (L.hy (L.pl l f)) ((L.earK l f:Int)+1) (f.n - 2) (a + -(L.earK l f:Int)):=funext fun a=>by
   unfold L.hy
   rw [cy_rem l f hi (by omega)];rfl
 have en:f.n - 2+1=(L.rem f (L.earK l f)).n:=by show f.n - 2+1=f.n - 1;omega
 unfold L.PK
 rw [ex,ey,<- en]
 exact ⟨S,hS⟩
theorem pl_zero (l:L.Sq L.Pt):L.pl l (L.lft l 0)=l:=by
 show (⟨l.n,fun i=>l.g ((i:Int)).toNat⟩:L.Sq L.Pt)=l
 simp only [Int.toNat_natCast]
theorem PK_all {l:L.Sq L.Pt} {D:Int} (C:PArea.PolyC l.n (L.hx l) (L.hy l) D) (hκ:PArea.Kap l.n (L.hx l) (L.hy l) D (-1)):∀ k,k+3 <= l.n->L.PK l D (L.lft l k)
 | 0,_=>by
   have e:(L.lft l 0).n=l.n:=rfl
   unfold L.PK
   rw [pl_zero,e]
   exact ⟨C,hκ⟩
 | k+1,h=>PK_rem (PK_all C hκ k (by omega)) (by rw [lft_n];omega)
def L.crT (l:L.Sq L.Pt) (k:Nat):Int:=L.cross (L.lp l (L.lft l k) (L.prev (L.lft l k).n (L.earK l (L.lft l k)))) (L.lp l (L.lft l k) (L.earK l (L.lft l k))) (L.lp l (L.lft l k) (L.next (L.lft l k).n (L.earK l (L.lft l k))))
theorem crT_pos {l:L.Sq L.Pt} {D:Int} (C:PArea.PolyC l.n (L.hx l) (L.hy l) D) (hκ:PArea.Kap l.n (L.hx l) (L.hy l) D (-1)) {k:Nat} (h:k+3 <= l.n):0<L.crT l k:=by
 have H:=PK_all C hκ k h
 have hn:(L.lft l k).n=l.n - k:=lft_n
 have hi:=earK_lt (l:=l) (f:=L.lft l k) (by omega)
 obtain ⟨c0,c1,c2⟩:=cy_three (p:=L.pl l (L.lft l k)) (i:=L.earK l (L.lft l k)) hi
 have key:0<PArea.c3 (L.hx (L.pl l (L.lft l k))) (L.hy (L.pl l (L.lft l k))) ((L.earK l (L.lft l k):Int) - 1) (L.earK l (L.lft l k)) ((L.earK l (L.lft l k):Int)+1):=by
   by_cases h4:4 <= (L.lft l k).n
   · have:=(earK_ear H h4).1
     rwa [show (L.earK l (L.lft l k):Int) - 1+1=L.earK l (L.lft l k) by omega,show (L.earK l (L.lft l k):Int) - 1+2=L.earK l (L.lft l k)+1 by omega] at this
   · have h3:(L.lft l k).n=3:=by omega
     have e0:L.earK l (L.lft l k)=0:=by
       unfold L.earK
       rw [decide_eq_false (show ¬ (3:Int)<((L.lft l k).n:Int) by omega)];rfl
     obtain ⟨H1,H2⟩:=H
     rw [h3] at H1 H2
     have S:=PArea.area3 H1 H2
     rw [e0]
     show 0<PArea.c3 _ _ (0 - 1) 0 (0+1)
     rw [PArea.c3_per H1 (a:=0 - 1) (a':=2) rfl rfl (c:=0+1) (c':=1) rfl,<- PArea.c3_cyc,<- PArea.c3_cyc] at *
     rw [PArea.c3_cyc,PArea.c3_cyc] at *
     first
       | exact S
       | (rw [PArea.c3_cyc];exact S)
       | (rw [PArea.c3_cyc,PArea.c3_cyc];exact S)
 rw [c3_hx,c0,c1,c2] at key
 have key:0<8000001 * L.crT l k:=key
 omega
theorem area_rem (l:L.Sq L.Pt) {f:L.Sq Int} {i:Nat} (hi:i<f.n) (h3:3 <= f.n):L.areaTo (L.pl l f) f.n=L.cross (L.lp l f (L.prev f.n i)) (L.lp l f i) (L.lp l f (L.next f.n i))+L.areaTo (L.pl l (L.rem f i)) (f.n - 1):=by
 have hn:0<f.n:=by omega
 obtain ⟨c0,c1,c2⟩:=cy_three (p:=L.pl l f) (i:=i) hi
 have c0:L.cy (L.pl l f) ((i:Int) - 1)=L.lp l f (L.prev f.n i):=c0
 have c1:L.cy (L.pl l f) (i:Int)=L.lp l f i:=c1
 have c2:L.cy (L.pl l f) ((i:Int)+1)=L.lp l f (L.next f.n i):=c2
 have px:PArea.per f.n (fun a=>(L.cy (L.pl l f) a).x):=fun a b h=>by show (L.cy (L.pl l f) a).x=(L.cy (L.pl l f) b).x;rw [cy_per (l:=L.pl l f) hn h]
 have py:PArea.per f.n (fun a=>(L.cy (L.pl l f) a).y):=fun a b h=>by show (L.cy (L.pl l f) a).y=(L.cy (L.pl l f) b).y;rw [cy_per (l:=L.pl l f) hn h]
 have s:=PArea.sum_parts (φ:=fun x1 y1 x2 y2=>x1 * y2 - x2 * y1) px py ((i:Int) - 1) (d:=2) (d':=f.n - 2) (by omega) (by omega)
 have eA:L.areaTo (L.pl l f) f.n=PArea.sm (fun b=>(L.cy (L.pl l f) b).x * (L.cy (L.pl l f) (b+1)).y - (L.cy (L.pl l f) (b+1)).x * (L.cy (L.pl l f) b).y) f.n:=by
   have:=area_sm (l:=L.pl l f) (k:=f.n) (Nat.le_refl _)
   rw [this,sm_P];rfl
 have eR:L.areaTo (L.pl l (L.rem f i)) (f.n - 1)=PArea.sm (fun b=>(L.cy (L.pl l (L.rem f i)) b).x * (L.cy (L.pl l (L.rem f i)) (b+1)).y - (L.cy (L.pl l (L.rem f i)) (b+1)).x * (L.cy (L.pl l (L.rem f i)) b).y) (f.n - 1):=by
   have:=area_sm (l:=L.pl l (L.rem f i)) (k:=f.n - 1) (Nat.le_refl _)
   rw [this,sm_P];rfl
 have eT:PArea.sm (fun b=>PArea.pt (fun a=>(L.cy (L.pl l f) a).x) ((i:Int) - 1) 2 b * PArea.pt (fun a=>(L.cy (L.pl l f) a).y) ((i:Int) - 1) 2 (b+1) - PArea.pt (fun a=>(L.cy (L.pl l f) a).x) ((i:Int) - 1) 2 (b+1) * PArea.pt (fun a=>(L.cy (L.pl l f) a).y) ((i:Int) - 1) 2 b) (2+1)=L.cross (L.lp l f (L.prev f.n i)) (L.lp l f i) (L.lp l f (L.next f.n i)):=by
   have t:=PArea.sum_part (fun x1 y1 x2 y2=>x1 * y2 - x2 * y1) (fun a=>(L.cy (L.pl l f) a).x) (fun a=>(L.cy (L.pl l f) a).y) ((i:Int) - 1) 2
   rw [t]
   show 0+((L.cy (L.pl l f) ((i:Int) - 1+0)).x * (L.cy (L.pl l f) ((i:Int) - 1+0+1)).y - (L.cy (L.pl l f) ((i:Int) - 1+0+1)).x * (L.cy (L.pl l f) ((i:Int) - 1+0)).y)+((L.cy (L.pl l f) ((i:Int) - 1+1)).x * (L.cy (L.pl l f) ((i:Int) - 1+1+1)).y - (L.cy (L.pl l f) ((i:Int) - 1+1+1)).x * (L.cy (L.pl l f) ((i:Int) - 1+1)).y)+((L.cy (L.pl l f) ((i:Int) - 1+2)).x * (L.cy (L.pl l f) ((i:Int) - 1)).y - (L.cy (L.pl l f) ((i:Int) - 1)).x * (L.cy (L.pl l f) ((i:Int) - 1+2)).y)=_
   rw [show (i:Int) - 1+0=i - 1 by omega,show (i:Int) - 1+1=i by omega,show (i:Int) - 1+2=i+1 by omega,c0,c1,c2]
   unfold L.cross
   grind
 have eS:PArea.sm (fun b=>PArea.pt (fun a=>(L.cy (L.pl l f) a).x) ((i:Int) - 1+((2:Nat):Int)) (f.n - 2) b * PArea.pt (fun a=>(L.cy (L.pl l f) a).y) ((i:Int) - 1+((2:Nat):Int)) (f.n - 2) (b+1) - PArea.pt (fun a=>(L.cy (L.pl l f) a).x) ((i:Int) - 1+((2:Nat):Int)) (f.n - 2) (b+1) * PArea.pt (fun a=>(L.cy (L.pl l f) a).y) ((i:Int) - 1+((2:Nat):Int)) (f.n - 2) b) (f.n - 2+1)=L.areaTo (L.pl l (L.rem f i)) (f.n - 1):=by
   rw [eR,show (i:Int) - 1+((2:Nat):Int)=(i:Int)+1 by omega,show f.n - 2+1=f.n - 1 by omega]
   have hp:PArea.per (f.n - 1) (fun b=>(L.cy (L.pl l (L.rem f i)) b).x * (L.cy (L.pl l (L.rem f i)) (b+1)).y - (L.cy (L.pl l (L.rem f i)) (b+1)).x * (L.cy (L.pl l (L.rem f i)) b).y):=fun a b h=>by
     have h1:L.cy (L.pl l (L.rem f i)) a=L.cy (L.pl l (L.rem f i)) b:=cy_per (l:=L.pl l (L.rem f i)) (show 0<f.n - 1 by omega) h
     have h2:L.cy (L.pl l (L.rem f i)) (a+1)=L.cy (L.pl l (L.rem f i)) (b+1):=cy_per (l:=L.pl l (L.rem f i)) (show 0<f.n - 1 by omega) (PArea.succ_mod h 1)
     show (L.cy (L.pl l (L.rem f i)) a).x * (L.cy (L.pl l (L.rem f i)) (a+1)).y - (L.cy (L.pl l (L.rem f i)) (a+1)).x * (L.cy (L.pl l (L.rem f i)) a).y=_
     rw [h1,h2]
   rw [<- PArea.sm_shift i hp]
   refine PArea.sm_cong fun b _=>?_
   show _=(L.cy (L.pl l (L.rem f i)) ((b:Int)+(i:Int))).x * (L.cy (L.pl l (L.rem f i)) ((b:Int)+(i:Int)+1)).y - (L.cy (L.pl l (L.rem f i)) ((b:Int)+(i:Int)+1)).x * (L.cy (L.pl l (L.rem f i)) ((b:Int)+(i:Int))).y
   rw [cy_rem l f hi (by omega),cy_rem l f hi (by omega),show (b:Int)+i - i=b by omega,show (b:Int)+i+1 - i=b+1 by omega]
   rfl
 rw [eT,eS] at s
 rw [eA]
 exact s
theorem area_trs (l:L.Sq L.Pt):∀ k,k+2 <= l.n->L.areaTo l l.n=PArea.sm (fun j=>L.crT l j.toNat) k+L.areaTo (L.pl l (L.lft l k)) (l.n - k)
 | 0,_=>by
   rw [pl_zero]
   show _=0+L.areaTo l l.n
   omega
 | k+1,h=>by
   have ih:=area_trs l k (by omega)
   have hn:(L.lft l k).n=l.n - k:=lft_n
   have r:=area_rem l (f:=L.lft l k) (i:=L.earK l (L.lft l k)) (earK_lt (by omega)) (by omega)
   rw [hn] at r
   rw [ih,PArea.sm,Int.toNat_natCast,r]
   show _=_+L.crT l k+L.areaTo (L.pl l (L.rem (L.lft l k) (L.earK l (L.lft l k)))) (l.n - (k+1))
   unfold L.crT
   rw [hn,show l.n - (k+1)=l.n - k - 1 by omega]
   omega
theorem two_gon {p:L.Sq L.Pt}:L.areaTo ⟨2,p.g⟩ 2=0:=by
 show 0+((p.g 0).x * (p.g (L.next 2 0)).y - (p.g (L.next 2 0)).x * (p.g 0).y)+((p.g 1).x * (p.g (L.next 2 1)).y - (p.g (L.next 2 1)).x * (p.g 1).y)=0
 have e0:L.next 2 0=1:=rfl
 have e1:L.next 2 1=0:=rfl
 rw [e0,e1];grind
theorem area_tr {l:L.Sq L.Pt} (h2:2 <= l.n):PArea.sm (fun j=>L.crT l j.toNat) (l.n - 2)=L.areaTo l l.n:=by
 have h:=area_trs l (l.n - 2) (by omega)
 have e:L.pl l (L.lft l (l.n - 2))=⟨2,(L.pl l (L.lft l (l.n - 2))).g⟩:=by
   have:(L.lft l (l.n - 2)).n=2:=by rw [lft_n];omega
   unfold L.pl
   rw [this]
 rw [show l.n - (l.n - 2)=2 by omega,e,two_gon] at h
 omega
theorem lft_mono {l:L.Sq L.Pt}:∀ {k a b:Nat},a<b->b<(L.lft l k).n->(L.lft l k).g a<(L.lft l k).g b
 | 0,a,b,h,_=>by show (a:Int)<(b:Int);omega
 | k+1,a,b,h,hb=>by
   have hb:b<(L.lft l k).n - 1:=hb
   show (bif decide (a<L.earK l (L.lft l k)) then (L.lft l k).g a else (L.lft l k).g (a+1))<(bif decide (b<L.earK l (L.lft l k)) then (L.lft l k).g b else (L.lft l k).g (b+1))
   have i1:=fun c d=>lft_mono (l:=l) (k:=k) (a:=c) (b:=d)
   by_cases g1:a<L.earK l (L.lft l k) <;> by_cases g2:b<L.earK l (L.lft l k)
   · rw [decide_eq_true g1,decide_eq_true g2];exact i1 a b h (by omega)
   · rw [decide_eq_true g1,decide_eq_false g2];exact i1 a (b+1) (by omega) (by omega)
   · omega
   · rw [decide_eq_false g1,decide_eq_false g2];exact i1 (a+1) (b+1) (by omega) (by omega)
theorem trg_ok {l:L.Sq L.Pt} {k:Nat} (h:k+3 <= l.n):0 <= (L.trg l k).a/\(L.trg l k).a<(L.trg l k).b/\(L.trg l k).b<(L.trg l k).c/\(L.trg l k).c<(l.n:Int)/\L.cross (l.g (L.trg l k).a.toNat) (l.g (L.trg l k).b.toNat) (l.g (L.trg l k).c.toNat)=L.crT l k:=by
 have hn:(L.lft l k).n=l.n - k:=lft_n
 have hi:=earK_lt (l:=l) (f:=L.lft l k) (by omega)
 have hin:L.inds l.n (L.lft l k):=lft_inds
 have mono:=fun a b=>lft_mono (l:=l) (k:=k) (a:=a) (b:=b)
 have cyc:∀ a b c:L.Pt,L.cross b c a=L.cross a b c:=fun a b c=>by unfold L.cross;grind
 unfold L.trg L.crT L.lp
 generalize L.earK l (L.lft l k)=i at *
 rw [prev_at hi,next_at hi]
 have d0:=hin i hi
 unfold L.tri
 dsimp only
 have three:∀ {a b c:Nat},a<b->b<c->c<(L.lft l k).n->0 <= (L.lft l k).g a/\(L.lft l k).g a<(L.lft l k).g b/\(L.lft l k).g b<(L.lft l k).g c/\(L.lft l k).g c<(l.n:Int):=fun {a b c} h1 h2 h3 =>
   ⟨(hin a (by omega)).1,mono a b h1 (by omega),mono b c h2 h3,(hin c h3).2⟩
 by_cases g0:i=0
 · subst g0
   rw [if_pos rfl,if_neg (by omega)]
   obtain ⟨t1,t2,t3,t4⟩:=three (a:=0) (b:=0+1) (c:=(L.lft l k).n - 1) (by omega) (by omega) (by omega)
   have e1:min ((L.lft l k).g ((L.lft l k).n - 1)) (min ((L.lft l k).g 0) ((L.lft l k).g (0+1)))=(L.lft l k).g 0:=by omega
   have e2:max ((L.lft l k).g ((L.lft l k).n - 1)) (max ((L.lft l k).g 0) ((L.lft l k).g (0+1)))=(L.lft l k).g ((L.lft l k).n - 1):=by omega
   rw [e1,e2,show (L.lft l k).g ((L.lft l k).n - 1)+(L.lft l k).g 0+(L.lft l k).g (0+1) - (L.lft l k).g 0 - (L.lft l k).g ((L.lft l k).n - 1)=(L.lft l k).g (0+1) by omega]
   exact ⟨t1,t2,t3,t4,cyc _ _ _⟩
 · by_cases g1:i+1=(L.lft l k).n
   · rw [if_neg g0,if_pos g1]
     obtain ⟨t1,t2,t3,t4⟩:=three (a:=0) (b:=i - 1) (c:=i) (by omega) (by omega) (by omega)
     have e1:min ((L.lft l k).g (i - 1)) (min ((L.lft l k).g i) ((L.lft l k).g 0))=(L.lft l k).g 0:=by omega
     have e2:max ((L.lft l k).g (i - 1)) (max ((L.lft l k).g i) ((L.lft l k).g 0))=(L.lft l k).g i:=by omega
     rw [e1,e2,show (L.lft l k).g (i - 1)+(L.lft l k).g i+(L.lft l k).g 0 - (L.lft l k).g 0 - (L.lft l k).g i=(L.lft l k).g (i - 1) by omega]
     exact ⟨t1,t2,t3,t4,(cyc _ _ _).symm⟩
   · rw [if_neg g0,if_neg g1]
     obtain ⟨t1,t2,t3,t4⟩:=three (a:=i - 1) (b:=i) (c:=i+1) (by omega) (by omega) (by omega)
     have e1:min ((L.lft l k).g (i - 1)) (min ((L.lft l k).g i) ((L.lft l k).g (i+1)))=(L.lft l k).g (i - 1):=by omega
     have e2:max ((L.lft l k).g (i - 1)) (max ((L.lft l k).g i) ((L.lft l k).g (i+1)))=(L.lft l k).g (i+1):=by omega
     rw [e1,e2,show (L.lft l k).g (i - 1)+(L.lft l k).g i+(L.lft l k).g (i+1) - (L.lft l k).g (i - 1) - (L.lft l k).g (i+1)=(L.lft l k).g i by omega]
     exact ⟨t1,t2,t3,t4,rfl⟩
end Go.Proofs.YtinfalehnaejbaaGreat
namespace Go.Proofs.YtinfalehnaejbaaGreat
open Go.SE Go.RowKit
set_option maxRecDepth 100000
set_option maxHeartbeats 4000000
set_option linter.unusedVariables false
attribute [local irreducible] vc
open Conf
def L.cx (l:L.Sq L.Pt) (a:Int):Int:=(L.cy l a).x
def L.cz (l:L.Sq L.Pt) (a:Int):Int:=(L.cy l a).y
theorem cross_crs (a b:L.Pt) (u v:Int):L.cross a b ⟨u,v⟩=PArea.crs a.x a.y b.x b.y u v:=rfl
theorem onE_on (l:L.Sq L.Pt) (b u v:Int):PArea.eOn (L.cx l) (L.cz l) b u v ↔ L.on (L.cy l b) (L.cy l (b+1)) ⟨u,v⟩=true:=by
 unfold L.on PArea.eOn PArea.onE L.within
 rw [cross_crs]
 simp only [Bool.and_eq_true,decide_eq_true_eq,and_assoc]
 exact Iff.rfl
theorem crE_crP (a b:L.Pt) (u v:Int):L.crE a b ⟨u,v⟩=true ↔ PArea.crP a.x a.y b.x b.y u v:=by
 unfold L.crE L.upE PArea.crP
 rw [cross_crs]
 simp only [bor,band,Bool.or_eq_true,Bool.and_eq_true,decide_eq_true_eq,and_assoc]
theorem par_sum (l:L.Sq L.Pt) (u v:Int):∀ k,k <= l.n->(L.par l ⟨u,v⟩ k=true ↔ PArea.sm (fun b=>PArea.ind (PArea.crP (L.cx l b) (L.cz l b) (L.cx l (b+1)) (L.cz l (b+1)) u v)) k % 2=1)
 | 0,_=>⟨fun h=>absurd h Bool.noConfusion,fun h=>absurd h (by unfold PArea.sm;decide)⟩
 | k+1,h=>by
   have ih:=par_sum l u v k (by omega)
   have e:=crE_crP (l.g k) (l.g (L.next l.n k)) u v
   have e1:L.cy l (k:Int)=l.g k:=cy_nat (by omega)
   have e2:L.cy l ((k:Int)+1)=l.g (L.next l.n k):=cy_next (by omega)
   unfold L.par
   rw [PArea.sm]
   have eb:PArea.ind (PArea.crP (L.cx l (k:Int)) (L.cz l (k:Int)) (L.cx l ((k:Int)+1)) (L.cz l ((k:Int)+1)) u v)=if L.crE (l.g k) (l.g (L.next l.n k)) ⟨u,v⟩ then 1 else 0:=by
     unfold PArea.ind L.cx L.cz
     rw [e1,e2]
     by_cases g:L.crE (l.g k) (l.g (L.next l.n k)) ⟨u,v⟩=true
     · rw [if_pos g,if_pos (e.1 g)]
     · rw [if_neg g,if_neg (fun z=>g (e.2 z))]
   rw [eb]
   cases L.crE (l.g k) (l.g (L.next l.n k)) ⟨u,v⟩ <;> cases hp:L.par l ⟨u,v⟩ k <;> rw [hp] at ih <;> simp at ih ⊢ <;> omega
theorem tells {l:L.Sq L.Pt} (hn:0<l.n) (u v:Int):PArea.Tells l.n (L.cx l) (L.cz l) (fun u v=>L.wher l ⟨u,v⟩) u v:=by
 have red:∀ b:Int,∃ k:Nat,k<l.n/\L.cy l b=l.g k/\L.cy l (b+1)=l.g (L.next l.n k):=fun b=>by
   refine ⟨L.ix l.n b,ix_lt hn,rfl,?_⟩
   unfold L.cy
   rw [<- ix_next (ix_lt hn),ix_ix hn]
 refine ⟨fun ⟨b,hb⟩=>?_,fun off=>?_⟩
 · obtain ⟨k,hk,e1,e2⟩:=red b
   rw [onE_on,e1,e2] at hb
   exact (wher_on hk hb).symm
 · have no : ∀ j, j < l.n -> L.onE l ⟨u, v⟩ j = false := fun j hj => by
     have:=off (j:Int)
     rw [onE_on,cy_nat hj,cy_next hj] at this
     exact Bool.eq_false_iff.2 this
   have p:=par_sum l u v l.n (Nat.le_refl _)
   show (L.wher l ⟨u,v⟩=1/\_)\/(L.wher l ⟨u,v⟩ = -1/\_)
   rw [<- wher_off no]
   cases hp:L.par l ⟨u,v⟩ l.n with
   | true=>exact .inl ⟨rfl,p.1 hp⟩
   | false =>
     refine .inr ⟨rfl,?_⟩
     rw [hp] at p
     have:¬ _:=fun z=>absurd (p.2 z) Bool.noConfusion
     omega
theorem red_sub {F:L.Pt->L.Pt->L.Pt->Prop} {l m:List L.Pt} (h:Red F l m):m.length <= l.length /\ ∀ x,x ∈ m->x ∈ l:=by
 induction h with
 | refl r=>exact ⟨Nat.le_of_eq r.len.symm,fun x hx=>r.mem.2 hx⟩
 | step s _ ih =>
   obtain ⟨b,t,r1,_,r2⟩:=s
   have e1:=r1.len
   have e2:=r2.len
   rw [List.length_cons] at e1
   exact ⟨by omega,fun x hx=>r1.mem.2 (List.mem_cons_of_mem _ (r2.mem.2 (ih.2 x hx)))⟩
theorem sub_valid {l x:L.Sq L.Pt} (hv:L.validOutline l=true) (h:∀ k,k<x.n -> ∃ j,j<l.n/\x.g k=l.g j):L.validPts x=true :=
 valid_mem.2 (fun p hp=>by
   obtain ⟨k,hk,rfl⟩:=mem_toL.1 hp
   obtain ⟨j,hj,e⟩:=h k hk
   rw [e];exact (outline_all hv).1 j hj)
theorem valid_parts {l:L.Sq L.Pt} (h:L.validOutline l=true):L.simple l=true/\L.sharp l/\0<L.areaTo l l.n:=by
 unfold L.validOutline at h
 rw [Bool.and_eq_true,Bool.and_eq_true] at h
 obtain ⟨h1,h2,h3⟩:=h
 refine ⟨h3,fun i hi=>?_,?_⟩
 · have:=notT (allB_iff.1 h2 i hi)
   rw [bor,Bool.or_eq_false_iff] at this
   exact this.1
 · unfold L.valid3 at h1
   cases hc:(bif !L.within (l.n:Int) 3 24 then true else !L.validPts l) with
   | true=>rw [hc] at h1;exact absurd h1 Bool.noConfusion
   | false=>rw [hc] at h1;exact of_decide_eq_true h1
theorem area_hy (x:L.Sq L.Pt) (hn:0<x.n):PArea.sm (fun b=>(L.hx x b+L.hx x (b+1)) * (L.hy x (b+1) - L.hy x b)) x.n=8000001 * L.areaTo x x.n:=by
 rw [area_sm (Nat.le_refl _),sm_P]
 have t1:=PArea.per_tele (n:=x.n) (g:=fun b=>L.hx x b * L.hx x b) (fun a b h=>by show L.hx x a * L.hx x a=_;rw [(hy_per x hn a b h).1])
 have t2:=PArea.per_tele (n:=x.n) (g:=fun b=>(L.cy x b).x * (L.cy x b).y) (fun a b h=>by show (L.cy x a).x * (L.cy x a).y=_;rw [cy_per hn h])
 have s1:=PArea.sm_add (f:=fun b=>8000001 * L.ct x b) (g:=fun b=>(L.hx x (b+1) * L.hx x (b+1) - L.hx x b * L.hx x b)+8000001 * ((L.cy x (b+1)).x * (L.cy x (b+1)).y - (L.cy x b).x * (L.cy x b).y)) x.n
 have s2:=PArea.sm_add (f:=fun b=>L.hx x (b+1) * L.hx x (b+1) - L.hx x b * L.hx x b) (g:=fun b=>8000001 * ((L.cy x (b+1)).x * (L.cy x (b+1)).y - (L.cy x b).x * (L.cy x b).y)) x.n
 rw [PArea.sm_mul] at s1 s2
 have u:PArea.sm (fun b=>(L.hx x b+L.hx x (b+1)) * (L.hy x (b+1) - L.hy x b)) x.n=PArea.sm (fun b=>8000001 * L.ct x b+((L.hx x (b+1) * L.hx x (b+1) - L.hx x b * L.hx x b)+8000001 * ((L.cy x (b+1)).x * (L.cy x (b+1)).y - (L.cy x b).x * (L.cy x b).y))) x.n:=PArea.sm_cong fun b _=>by
   unfold L.hx L.hy L.ct L.tm;grind
 change PArea.sm (fun b=>L.hx x (b+1) * L.hx x (b+1) - L.hx x b * L.hx x b) x.n=0 at t1
 change PArea.sm (fun b=>(L.cy x (b+1)).x * (L.cy x (b+1)).y - (L.cy x b).x * (L.cy x b).y) x.n=0 at t2
 change _=8000001 * PArea.sm (L.ct x) x.n+_ at s1
 rw [u,s1,s2,t1,t2]
 omega
namespace PArea
theorem polyC_dbl {n:Nat} {x y:Int->Int} {D:Int} (C:PolyC n x y D):PolyC n (fun a=>2 * x a) (fun a=>2 * y a) (2 * D):=by
 have P:=C.P
 have hD:=P.hD
 have c4:∀ a c,cr (fun a=>2 * x a) (fun a=>2 * y a) a c=4 * cr x y a c:=fun a c=>by unfold cr;grind
 have s16:∀ p q:Int,4 * p * (4 * q)=16 * (p * q):=fun p q=>by grind
 refine poly_make P.hn (fun a b h=>by show 2 * x a=2 * x b;rw [P.px a b h]) (fun a b h=>by show 2 * y a=2 * y b;rw [P.py a b h]) (by omega) (fun a b h=>?_) (fun a b h=>?_) (fun a b h c hc hw=>?_) (fun a b h=>?_) (fun a h=>?_)
 · show (2 * y b - 2 * y a) ∣ 2 * D
   rw [<- Int.mul_sub]
   exact Int.mul_dvd_mul_left 2 (C.dv a b h)
 · show 2 * y a ≠ 2 * y b
   have:=P.hy a b h
   omega
 · rw [c4]
   have:=P.on a b h c hc (by
     unfold within at hw ⊢
     dsimp only at hw
     omega)
   omega
 · rw [c4,c4,c4,c4,s16,s16]
   have:=P.no a b h
   omega
 · rw [c4] at h
   have:=P.co a (by omega)
   omega
theorem dvd_pt {n:Nat} {x y:Int->Int} {D:Int} (C:PolyC n x y D) (a:Int) {d:Nat} (hd:d<n):dvd (d+1) (pt y a d) D:=fun i k h=>by
 obtain ⟨r,r0,r1,er⟩:=red d i
 obtain ⟨s,s0,s1,es⟩:=red d k
 rw [pt_per y a d i r er,pt_per y a d k s es,pt_at y a r0 r1,pt_at y a s0 s1]
 rw [er,es] at h
 refine C.dv _ _ ?_
 rcases Int.lt_trichotomy r s with g | g | g
 · exact mod_ne (by omega) (by omega)
 · exact absurd (by rw [g]) h
 · exact (mod_ne (by omega) (by omega)).symm
end PArea
theorem cyA {l:L.Sq L.Pt} {a d:Nat} (h:a+d<l.n) (i:Int):(L.ptA l (a:Int) ((a+d:Nat):Int)).n=d+1/\L.cy (L.ptA l (a:Int) ((a+d:Nat):Int)) i=L.cy l (PArea.pos (a:Int) d i):=by
 have en:(L.ptA l (a:Int) ((a+d:Nat):Int)).n=d+1:=by show (((a+d:Nat):Int)+1 - (a:Int)).toNat=d+1;omega
 refine ⟨en,?_⟩
 have hx:=ix_emod (n:=d+1) (a:=i) (by omega)
 have hl:=ix_lt (n:=d+1) (i:=i) (by omega)
 unfold PArea.pos
 rw [show (d:Int)+1=((d+1:Nat):Int) by omega,<- hx,show (a:Int)+((L.ix (d+1) i:Nat):Int)=((a+L.ix (d+1) i:Nat):Int) by omega,cy_nat (by omega)]
 show l.g ((a:Int).toNat+L.ix (L.ptA l (a:Int) ((a+d:Nat):Int)).n i)=_
 rw [en,Int.toNat_natCast]
theorem cyB {l:L.Sq L.Pt} {a d:Nat} (h:a+d<l.n) (i:Int):(L.ptB l (a:Int) ((a+d:Nat):Int)).n=l.n - d+1/\L.cy (L.ptB l (a:Int) ((a+d:Nat):Int)) i=L.cy l (PArea.pos ((a:Int)+d) (l.n - d) i):=by
 have n1:((l.n:Int) - ((a+d:Nat):Int)).toNat=l.n - (a+d):=by omega
 have n2:((a:Int)+1 - 0).toNat=a+1:=by omega
 have en:(L.ptB l (a:Int) ((a+d:Nat):Int)).n=l.n - d+1:=by
   show 0+((l.n:Int) - ((a+d:Nat):Int)).toNat+((a:Int)+1 - 0).toNat=_
   rw [n1,n2];omega
 refine ⟨en,?_⟩
 have hx:=ix_emod (n:=l.n - d+1) (a:=i) (by omega)
 have hl:=ix_lt (n:=l.n - d+1) (i:=i) (by omega)
 unfold PArea.pos
 rw [show ((l.n - d:Nat):Int)+1=((l.n - d+1:Nat):Int) by omega,<- hx]
 have eL:L.cy (L.ptB l (a:Int) ((a+d:Nat):Int)) i=(L.ptB l (a:Int) ((a+d:Nat):Int)).g (L.ix (l.n - d+1) i):=by
   show (L.ptB l (a:Int) ((a+d:Nat):Int)).g (L.ix (L.ptB l (a:Int) ((a+d:Nat):Int)).n i)=_
   rw [en]
 rw [eL]
 generalize L.ix (l.n - d+1) i=k at *
 show (bif decide (k<0+((l.n:Int) - ((a+d:Nat):Int)).toNat) then (bif decide (k<0) then (⟨0,0⟩:L.Pt) else l.g (((a+d:Nat):Int).toNat+(k - 0))) else l.g ((0:Int).toNat+(k - (0+((l.n:Int) - ((a+d:Nat):Int)).toNat))))=_
 rw [n1,Nat.zero_add]
 by_cases c:k<l.n - (a+d)
 · rw [decide_eq_true c,decide_eq_false (Nat.not_lt_zero k),Int.toNat_natCast,show (a:Int)+(d:Int)+(k:Int)=((a+d+k:Nat):Int) by omega,cy_nat (by omega)];rfl
 · rw [decide_eq_false c, show (0:Int).toNat + (k - (l.n - (a + d))) = k - (l.n - (a + d)) by simp, cy_per (l := l) (by omega) (a := (a:Int) + (d:Int) + (k:Int)) (b := ((k - (l.n - (a + d)):Nat):Int)) (by
     rw [show (a:Int)+(d:Int)+(k:Int)=((k - (l.n - (a+d)):Nat):Int)+(l.n:Int) by omega,Int.add_emod_right]),cy_nat (by omega)];rfl
theorem mid_edge {n:Nat} {x y:Int->Int} {D κ mu mv:Int} (C:PArea.PolyC n (fun a=>2 * x a) (fun a=>2 * y a) D) (hκ:PArea.Kap n (fun a=>2 * x a) (fun a=>2 * y a) D κ) (a:Int) (h1:x a+x (a+1)=mu) (h2:y a+y (a+1)=mv) (hne:y a ≠ y (a+1)) :
   PArea.WY n (fun a=>2 * x a) (fun a=>2 * y a) D mv (D * mu)+PArea.WY n (fun a=>2 * x a) (fun a=>2 * y a) D mv (D * mu+1)=κ:=by
 have r:=PArea.Rgen C.P a mu mv
 have z:(2 * x (a+1) - 2 * x a) * (mv - 2 * y a) - (2 * y (a+1) - 2 * y a) * (mu - 2 * x a)=0:=by rw [<- h1,<- h2];grind
 rw [z,Int.mul_zero] at r
 have hX:PArea.X (fun a=>2 * x a) (fun a=>2 * y a) (PArea.mD (fun a=>2 * x a) (fun a=>2 * y a) D) D a mv=D * mu:=by
   rcases Int.mul_eq_zero.1 r with g | g
   · omega
   · omega
 have:=PArea.in_edge C.P hκ (a:=a) (Y:=mv) (by omega)
 rw [hX] at this
 exact this
theorem area_thin {x:L.Sq L.Pt} (h:L.fine x):L.areaTo (L.thin L.cFlat x) (L.thin L.cFlat x).n=L.areaTo x x.n:=by
 refine (thin_ind (Q:=fun y=>L.fine y/\L.areaTo y y.n=L.areaTo x x.n) (fun y i hy hi he=>?_) ⟨h,rfl⟩).2
 obtain ⟨hf,ha⟩:=hy
 have hs:=fine_step hf (out_step flat_fl hi he)
 refine ⟨hs,?_⟩
 have h3:=hf.1
 have hc:L.cross (y.g (L.prev y.n i)) (y.g i) (y.g (L.next y.n i))=0:=of_decide_eq_true (p:=L.cross (y.g (L.prev y.n i)) (y.g i) (y.g (L.next y.n i))=0) he
 have r:=area_rem y (f:=L.lft y 0) (i:=i) hi h3
 have lp0:∀ k,L.lp y (L.lft y 0) k=y.g k:=fun k=>by show y.g ((k:Int)).toNat=_;rw [Int.toNat_natCast]
 rw [pl_zero,lp0,lp0,lp0] at r
 have hc:L.cross (y.g (L.prev (L.lft y 0).n i)) (y.g i) (y.g (L.next (L.lft y 0).n i))=0:=hc
 rw [hc] at r
 have e:L.toL (L.pl y (L.rem (L.lft y 0) i))=L.toL ⟨y.n - 1,L.delF y.g i y.n⟩:=by
   show (List.range (y.n - 1)).map (fun k=>L.lp y (L.rem (L.lft y 0) i) k)=(List.range (y.n - 1)).map (L.delF y.g i y.n)
   refine List.map_congr_left fun k hk=>?_
   have hk:=List.mem_range.1 hk
   unfold L.delF L.lp
   show y.g (bif decide (k<i) then (k:Int) else ((k+1:Nat):Int)).toNat=_
   by_cases g:k<i
   · rw [decide_eq_true g];rfl
   · rw [decide_eq_false g,cond_false,cond_false,decide_eq_true (show k+1<y.n by omega)];rfl
 have ar:=area_rot (x:=L.pl y (L.rem (L.lft y 0) i)) (y:=⟨y.n - 1,L.delF y.g i y.n⟩) (show 0<y.n - 1 by omega) (e ▸ Rot.refl _)
 have r:L.areaTo y y.n=0+L.areaTo (L.pl y (L.rem (L.lft y 0) i)) (y.n - 1):=r
 have ar:L.areaTo ⟨y.n - 1,L.delF y.g i y.n⟩ (y.n - 1)=L.areaTo (L.pl y (L.rem (L.lft y 0) i)) (y.n - 1):=ar
 show L.areaTo ⟨y.n - 1,L.delF y.g i y.n⟩ (y.n - 1)=_
 omega
theorem norm_part {x:L.Sq L.Pt} (h:L.fine x) (h24:x.n <= 24) (hv:L.validPts x=true) (ha:0<L.areaTo x x.n):L.validOutline (L.norm (L.thin L.cFlat x))=true/\L.areaTo (L.norm (L.thin L.cFlat x)) (L.norm (L.thin L.cFlat x)).n=L.areaTo x x.n:=by
 have ft:=fine_thin flat_fl h
 have hr:=red_sub (thin_red flat_fl x)
 rw [toL_len,toL_len] at hr
 have hg:L.good (L.thin L.cFlat x):=⟨ft.1,by omega,valid_thin hv,ft.2.2.1,fun i hi=>thinF_out _ _ (Nat.le_refl _) i hi⟩
 refine ⟨norm_valid hg,?_⟩
 have e:=area_thin h
 have ff:L.flip (L.thin L.cFlat x)=L.thin L.cFlat x:=flip_pos (decide_eq_false (by omega))
 have nr:=(norm_rot (x:=L.thin L.cFlat x) (by have:=ft.1;omega)).1
 rw [ff] at nr
 rw [area_rot (by have:=ft.1;omega) nr,e]
theorem split_area {l:L.Sq L.Pt} {u v:Int} (h:L.spErr l u v=0):L.validOutline (L.spA l u v)=true/\L.validOutline (L.spB l u v)=true/\L.areaTo (L.spA l u v) (L.spA l u v).n+L.areaTo (L.spB l u v) (L.spB l u v).n=L.areaTo l l.n:=by
 cases hb:L.spBad l u v with
 | true=>rw [spErr_bad hb] at h;cases h
 | false =>
 cases hN:L.spNb l u v with
 | true=>rw [spErr_nb hb hN] at h;cases h
 | false =>
 rw [spErr_dg hb hN] at h
 cases hd:L.spDg l u v with
 | false=>rw [hd] at h;cases h
 | true =>
 have hE:∀ j,j<l.n->L.spE l u v j=true:=by
   unfold L.spDg at hd
   rw [band,Bool.and_eq_true] at hd
   exact allB_iff.1 hd.1
 have hI:L.spIn l u v=true:=by
   unfold L.spDg at hd
   rw [band,Bool.and_eq_true] at hd
   exact hd.2
 obtain ⟨fA,fB⟩:=parts_fine hb hN hE
 obtain ⟨hv,u0,uv,vn⟩:=spBad_no hb
 obtain ⟨n1,n2⟩:=spNb_no hN
 obtain ⟨n3,n24,hsm,hbd⟩:=validOutline_of hv
 obtain ⟨hs,hc,ha⟩:=valid_parts hv
 obtain ⟨a,rfl⟩:∃ a:Nat,u=(a:Int):=⟨u.toNat,by omega⟩
 obtain ⟨d,rfl⟩:∃ d:Nat,v=((a+d:Nat):Int):=⟨(v - a).toNat,by omega⟩
 have hn:0<l.n:=by omega
 have hlt:a+d<l.n:=by omega
 have d2:2 <= d:=by omega
 have dn:d+2 <= l.n:=by omega
 have hf:=out_fine hv
 obtain ⟨D,hD,dv⟩:=dv_ex (fine_dist hf)
 have C:=polyC_fine hf hD dv
 -- the parts
 have xA:L.hx (L.ptA l (a:Int) ((a+d:Nat):Int))=PArea.pt (L.hx l) (a:Int) d:=funext fun i=>by unfold L.hx;rw [(cyA hlt i).2];rfl
 have yA:L.hy (L.ptA l (a:Int) ((a+d:Nat):Int))=PArea.pt (L.hy l) (a:Int) d:=funext fun i=>by unfold L.hy;rw [(cyA hlt i).2];rfl
 have xB:L.hx (L.ptB l (a:Int) ((a+d:Nat):Int))=PArea.pt (L.hx l) ((a:Int)+d) (l.n - d):=funext fun i=>by unfold L.hx;rw [(cyB hlt i).2];rfl
 have yB:L.hy (L.ptB l (a:Int) ((a+d:Nat):Int))=PArea.pt (L.hy l) ((a:Int)+d) (l.n - d):=funext fun i=>by unfold L.hy;rw [(cyB hlt i).2];rfl
 have nA:=(cyA hlt 0).1
 have nB:=(cyB hlt 0).1
 have CA:PArea.PolyC (d+1) (PArea.pt (L.hx l) (a:Int) d) (PArea.pt (L.hy l) (a:Int) d) D:=by
   have:=polyC_fine fA hD (by rw [nA,yA];exact PArea.dvd_pt C _ (by omega))
   rwa [nA,xA,yA] at this
 have CB:PArea.PolyC (l.n - d+1) (PArea.pt (L.hx l) ((a:Int)+d) (l.n - d)) (PArea.pt (L.hy l) ((a:Int)+d) (l.n - d)) D:=by
   have:=polyC_fine fB hD (by rw [nB,yB];exact PArea.dvd_pt C _ (by omega))
   rwa [nB,xB,yB] at this
 have C2:=PArea.polyC_dbl C
 have A2:=PArea.polyC_dbl CA
 have B2:=PArea.polyC_dbl CB
 obtain ⟨κ,k1,hκ⟩:=PArea.Kex C2
 obtain ⟨κA,kA1,hκA⟩:=PArea.Kex A2
 obtain ⟨κB,kB1,hκB⟩:=PArea.Kex B2
 -- areas and orientations
 have dbl:∀ (m:Nat) (x y:Int->Int),PArea.sm (fun b=>(2 * x b+2 * x (b+1)) * (2 * y (b+1) - 2 * y b)) m=4 * PArea.sm (fun b=>(x b+x (b+1)) * (y (b+1) - y b)) m:=fun m x y=>by
   rw [<- PArea.sm_mul]
   exact PArea.sm_cong fun i _=>by grind
 have sP:κ * PArea.sm (fun b=>(2 * L.hx l b+2 * L.hx l (b+1)) * (2 * L.hy l (b+1) - 2 * L.hy l b)) l.n<0:=PArea.area_sg C2.P hκ
 rw [dbl,area_hy l hn] at sP
 obtain rfl:κ = -1:=by rcases k1 with rfl | rfl <;> omega
 have sA:κA * PArea.sm (fun b=>(2 * PArea.pt (L.hx l) (a:Int) d b+2 * PArea.pt (L.hx l) (a:Int) d (b+1)) * (2 * PArea.pt (L.hy l) (a:Int) d (b+1) - 2 * PArea.pt (L.hy l) (a:Int) d b)) (d+1)<0:=PArea.area_sg A2.P hκA
 have sB:κB * PArea.sm (fun b=>(2 * PArea.pt (L.hx l) ((a:Int)+d) (l.n - d) b+2 * PArea.pt (L.hx l) ((a:Int)+d) (l.n - d) (b+1)) * (2 * PArea.pt (L.hy l) ((a:Int)+d) (l.n - d) (b+1) - 2 * PArea.pt (L.hy l) ((a:Int)+d) (l.n - d) b)) (l.n - d+1)<0:=PArea.area_sg B2.P hκB
 have aA:=area_hy (L.ptA l (a:Int) ((a+d:Nat):Int)) (by omega)
 have aB:=area_hy (L.ptB l (a:Int) ((a+d:Nat):Int)) (by omega)
 rw [dbl,<- xA,<- yA,<- nA,aA] at sA
 rw [dbl,<- xB,<- yB,<- nB,aB] at sB
 -- the middle of the diagonal
 have ga:L.cy l (a:Int)=l.g a:=cy_nat (by omega)
 have gb:L.cy l ((a:Int)+d)=l.g (a+d):=by rw [show (a:Int)+(d:Int)=((a+d:Nat):Int) by omega,cy_nat hlt]
 generalize hmu:(L.cy l (a:Int)).x+(L.cy l ((a:Int)+d)).x=mu
 generalize hmv:(L.cy l (a:Int)).y+(L.cy l ((a:Int)+d)).y=mv
 have hin:L.wher (L.dblS l) ⟨mu,mv⟩=1:=by
   have:=of_decide_eq_true hI
   have em:L.spMid l (a:Int) ((a+d:Nat):Int)=⟨mu,mv⟩:=by
     unfold L.spMid
     rw [Int.toNat_natCast,Int.toNat_natCast,<- hmu,<- hmv,ga,gb]
   rw [em] at this
   exact this
 have vp:∀ i,i<l.n->0 <= (l.g i).x/\(l.g i).x <= 4096/\0 <= (l.g i).y/\(l.g i).y <= 4096:=fun i hi=>pt_rng (pts_valid hv i hi)
 have ehh:PArea.hh (L.cx (L.dblS l)) (L.cz (L.dblS l))=fun a=>2 * L.hy l a:=funext fun i=>by
   show 8000001 * (2 * (L.cy l i).y)+2 * (L.cy l i).x=2 * (8000001 * (L.cy l i).y+(L.cy l i).x)
   omega
 have BX:PArea.Box l.n (L.cx (L.dblS l)) (L.cz (L.dblS l)) (PArea.mD (fun a=>2 * L.hx l a) (fun a=>2 * L.hy l a) (2 * D)) (2 * D) 0 8193 0 8193 :=
   { P:=by rw [ehh];exact C2.P
     yp:=fun a b e=>by show 2 * (L.cy l a).y=2 * (L.cy l b).y;rw [cy_per hn e]
     bx:=fun i=>by
       have:=vp (L.ix l.n i) (ix_lt hn)
       show 0 <= 2 * (l.g (L.ix l.n i)).x/\2 * (l.g (L.ix l.n i)).x<0+((8193:Nat):Int)
       omega
     b2:=fun i=>by
       have:=vp (L.ix l.n i) (ix_lt hn)
       show 0 <= 2 * (l.g (L.ix l.n i)).y/\2 * (l.g (L.ix l.n i)).y<0+((8193:Nat):Int)
       omega
     s1:=by decide
     s2:=by decide
     s3:=by decide
     s4:=by decide }
 have va:=vp a (by omega)
 have vb:=vp (a+d) hlt
 rw [ga,gb] at hmu hmv
 have h5:PArea.Sm mu:=by unfold PArea.Sm;omega
 have h6:PArea.Sm mv:=by unfold PArea.Sm;omega
 have T:=tells (l:=L.dblS l) hn mu mv
 have off:∀ b,¬ PArea.eOn (L.cx (L.dblS l)) (L.cz (L.dblS l)) b mu mv:=fun b hb=>by
   have z:L.wher (L.dblS l) ⟨mu,mv⟩=0:=T.1 ⟨b,hb⟩
   omega
 have odd:PArea.sm (fun b=>PArea.ind (PArea.crP (L.cx (L.dblS l) b) (L.cz (L.dblS l) b) (L.cx (L.dblS l) (b+1)) (L.cz (L.dblS l) (b+1)) mu mv)) l.n % 2=1:=by
   rcases T.2 off with ⟨_,g⟩ | ⟨g,_⟩
   · exact g
   · have g:L.wher (L.dblS l) ⟨mu,mv⟩ = -1:=g
     omega
 have par:=PArea.off_par BX h5 h6 off
 have e0:=PArea.WX_off (n:=l.n) (m:=PArea.mD (fun a=>2 * L.hx l a) (fun a=>2 * L.hy l a) (2 * D)) (D:=2 * D) (x:=L.cx (L.dblS l)) (y:=PArea.hh (L.cx (L.dblS l)) (L.cz (L.dblS l))) (j:=8000001 * mv+mu) (T:=2 * D * mu) (8000001 * mv+mu) (fun b hb hX=>off b (PArea.act_on BX h5 h6 hb hX))
 rw [ehh] at par e0
 have or1:=PArea.WY_or C2 hκ (8000001 * mv+mu) (2 * D * mu)
 have W1:PArea.WY l.n (fun a=>2 * L.hx l a) (fun a=>2 * L.hy l a) (2 * D) (8000001 * mv+mu) (2 * D * mu) = -1:=by
   have par':(PArea.sm (fun b=>PArea.ind (PArea.crP (L.cx (L.dblS l) b) (L.cz (L.dblS l) b) (L.cx (L.dblS l) (b+1)) (L.cz (L.dblS l) (b+1)) mu mv)) l.n+PArea.WY l.n (fun a=>2 * L.hx l a) (fun a=>2 * L.hy l a) (2 * D) (8000001 * mv+mu) (2 * D * mu)) % 2=0:=par
   omega
 have W2:PArea.WY l.n (fun a=>2 * L.hx l a) (fun a=>2 * L.hy l a) (2 * D) (8000001 * mv+mu) (2 * D * mu+1) = -1:=by
   rw [<- W1];exact e0
 have p1:=PArea.WY_parts C2 (a:Int) (d:=d) (d':=l.n - d) (by omega) (by omega) (by omega) (8000001 * mv+mu) (2 * D * mu)
 have p2:=PArea.WY_parts C2 (a:Int) (d:=d) (d':=l.n - d) (by omega) (by omega) (by omega) (8000001 * mv+mu) (2 * D * mu+1)
 have hne:L.hy l (a:Int) ≠ L.hy l ((a:Int)+d):=C.P.hy _ _ (PArea.mod_ne (by omega) (by omega))
 have hmx:L.hx l (a:Int)+L.hx l ((a:Int)+d)=mu:=by unfold L.hx;rw [ga,gb];exact hmu
 have hmy:L.hy l (a:Int)+L.hy l ((a:Int)+d)=8000001 * mv+mu:=by unfold L.hy;rw [ga,gb];omega
 have ev:((a:Int)+(d:Int)+((l.n - d:Nat):Int)) % (l.n:Int)=(a:Int) % (l.n:Int):=by rw [show (a:Int)+(d:Int)+((l.n - d:Nat):Int)=(a:Int)+l.n by omega,Int.add_emod_right]
 have mA:=mid_edge A2 hκA (d:Int) (mu:=mu) (mv:=8000001 * mv+mu) (by rw [PArea.pt_at _ _ (by omega) (Int.le_refl _),PArea.pt_end];omega) (by rw [PArea.pt_at _ _ (by omega) (Int.le_refl _),PArea.pt_end];omega) (by rw [PArea.pt_at _ _ (by omega) (Int.le_refl _),PArea.pt_end];omega)
 have mB:=mid_edge B2 hκB ((l.n - d:Nat):Int) (mu:=mu) (mv:=8000001 * mv+mu) (by rw [PArea.pt_at _ _ (by omega) (Int.le_refl _),PArea.pt_end,(hy_per l hn _ _ ev).1];omega) (by rw [PArea.pt_at _ _ (by omega) (Int.le_refl _),PArea.pt_end,(hy_per l hn _ _ ev).2];omega) (by rw [PArea.pt_at _ _ (by omega) (Int.le_refl _),PArea.pt_end,(hy_per l hn _ _ ev).2];omega)
 have q1:PArea.WY l.n (fun a=>2 * L.hx l a) (fun a=>2 * L.hy l a) (2 * D) (8000001 * mv+mu) (2 * D * mu)=PArea.WY (d+1) (fun b=>2 * PArea.pt (L.hx l) (a:Int) d b) (fun b=>2 * PArea.pt (L.hy l) (a:Int) d b) (2 * D) (8000001 * mv+mu) (2 * D * mu)+PArea.WY (l.n - d+1) (fun b=>2 * PArea.pt (L.hx l) ((a:Int)+d) (l.n - d) b) (fun b=>2 * PArea.pt (L.hy l) ((a:Int)+d) (l.n - d) b) (2 * D) (8000001 * mv+mu) (2 * D * mu):=p1
 have q2:PArea.WY l.n (fun a=>2 * L.hx l a) (fun a=>2 * L.hy l a) (2 * D) (8000001 * mv+mu) (2 * D * mu+1)=PArea.WY (d+1) (fun b=>2 * PArea.pt (L.hx l) (a:Int) d b) (fun b=>2 * PArea.pt (L.hy l) (a:Int) d b) (2 * D) (8000001 * mv+mu) (2 * D * mu+1)+PArea.WY (l.n - d+1) (fun b=>2 * PArea.pt (L.hx l) ((a:Int)+d) (l.n - d) b) (fun b=>2 * PArea.pt (L.hy l) ((a:Int)+d) (l.n - d) b) (2 * D) (8000001 * mv+mu) (2 * D * mu+1):=p2
 have κs:κA = -1/\κB = -1:=by rcases kA1 with rfl | rfl <;> rcases kB1 with rfl | rfl <;> omega
 rw [κs.1] at sA
 rw [κs.2] at sB
 have posA:0<L.areaTo (L.ptA l (a:Int) ((a+d:Nat):Int)) (L.ptA l (a:Int) ((a+d:Nat):Int)).n:=by omega
 have posB:0<L.areaTo (L.ptB l (a:Int) ((a+d:Nat):Int)) (L.ptB l (a:Int) ((a+d:Nat):Int)).n:=by omega
 have inlA:∀ k,k<(L.ptA l (a:Int) ((a+d:Nat):Int)).n -> ∃ j,j<l.n/\(L.ptA l (a:Int) ((a+d:Nat):Int)).g k=l.g j:=fun k hk=>⟨_,ix_lt (i:=PArea.pos (a:Int) d (k:Int)) hn,by
   have:=(cyA hlt (k:Int)).2
   rw [cy_nat hk] at this
   exact this⟩
 have inlB:∀ k,k<(L.ptB l (a:Int) ((a+d:Nat):Int)).n -> ∃ j,j<l.n/\(L.ptB l (a:Int) ((a+d:Nat):Int)).g k=l.g j:=fun k hk=>⟨_,ix_lt (i:=PArea.pos ((a:Int)+d) (l.n - d) (k:Int)) hn,by
   have:=(cyB hlt (k:Int)).2
   rw [cy_nat hk] at this
   exact this⟩
 obtain ⟨v1,r1⟩:=norm_part fA (by omega) (sub_valid hv inlA) posA
 obtain ⟨v2,r2⟩:=norm_part fB (by omega) (sub_valid hv inlB) posB
 refine ⟨v1,v2,?_⟩
 have r1:L.areaTo (L.spA l (a:Int) ((a+d:Nat):Int)) (L.spA l (a:Int) ((a+d:Nat):Int)).n=_:=r1
 have r2:L.areaTo (L.spB l (a:Int) ((a+d:Nat):Int)) (L.spB l (a:Int) ((a+d:Nat):Int)).n=_:=r2
 rw [r1,r2]
 -- the areas of the parts
 have s:=PArea.sum_parts (φ:=fun x1 y1 x2 y2=>(x1+x2) * (y2 - y1)) (n:=l.n) (x:=L.hx l) (y:=L.hy l) (fun a b h=>(hy_per l hn a b h).1) (fun a b h=>(hy_per l hn a b h).2) (a:Int) (d:=d) (d':=l.n - d) (by omega) (by grind)
 have aP:=area_hy l hn
 rw [xA,yA,nA] at aA
 rw [xB,yB,nB] at aB
 rw [nA,nB]
 have s:PArea.sm (fun b=>(L.hx l b+L.hx l (b+1)) * (L.hy l (b+1) - L.hy l b)) l.n=PArea.sm (fun b=>(PArea.pt (L.hx l) (a:Int) d b+PArea.pt (L.hx l) (a:Int) d (b+1)) * (PArea.pt (L.hy l) (a:Int) d (b+1) - PArea.pt (L.hy l) (a:Int) d b)) (d+1)+PArea.sm (fun b=>(PArea.pt (L.hx l) ((a:Int)+d) (l.n - d) b+PArea.pt (L.hx l) ((a:Int)+d) (l.n - d) (b+1)) * (PArea.pt (L.hy l) ((a:Int)+d) (l.n - d) (b+1) - PArea.pt (L.hy l) ((a:Int)+d) (l.n - d) b)) (l.n - d+1):=s
 omega
end Go.Proofs.YtinfalehnaejbaaGreat
