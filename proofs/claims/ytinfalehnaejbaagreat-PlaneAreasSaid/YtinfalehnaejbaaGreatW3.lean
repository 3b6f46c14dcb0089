/- A symbolic walk over the model, and what it shows of functions of the program: parts of the proof that the text of the row joins. -/
import Derived.Test.YtinfalehnaejbaaGreatW2
import Derived.Test.YtinfalehnaejbaaGreatE4
import Derived.KernelRfl
namespace Go.Proofs.YtinfalehnaejbaaGreat
open Go.SE Go.RowKit
set_option maxRecDepth 100000
set_option maxHeartbeats 4000000
set_option linter.unusedVariables false
attribute [local irreducible] vc
open Conf
def L.vp (x y:Int):Prop:=0 < x \/ (x=0 /\ 0 < y)
def L.vn (x y:Int):Prop:=0 < x \/ (x=0 /\ 0 <= y)
theorem half_id1 (ux uy vx vy wx wy:Int):(ux * wy - uy * wx) * vx=(ux * vy - uy * vx) * wx+(vx * wy - vy * wx) * ux:=by grind
theorem pos_of_mul {a b:Int} (hb:0 < b) (h:0 < a * b):0 < a:=by
 rcases Int.lt_or_le 0 a with g | g
 · exact g
 · have:=Int.mul_nonpos_of_nonpos_of_nonneg g (Int.le_of_lt hb);omega
theorem half_w {ux uy vx vy wx wy:Int} (hu:L.vn ux uy) (hv:L.vp vx vy) (hw:L.vn wx wy) (h1:0 <= ux * vy - uy * vx) (h2:0 <= vx * wy - vy * wx):0 <= ux * wy - uy * wx:=by
 have i1:=half_id1 ux uy vx vy wx wy
 rcases hv with hv | ⟨rfl,hv⟩
 · have a1:0 <= (ux * vy - uy * vx) * wx:=Int.mul_nonneg h1 (by unfold L.vn at hw;omega)
   have a2:0 <= (vx * wy - vy * wx) * ux:=Int.mul_nonneg h2 (by unfold L.vn at hu;omega)
   rcases Int.lt_or_le (ux * wy - uy * wx) 0 with g | g
   · have:=Int.mul_neg_of_neg_of_pos g hv;omega
   · exact g
 · have hwx : wx = 0 := by
     rcases hw with hw | hw
     · have:=Int.mul_pos hv hw;rw [Int.zero_mul] at h2;omega
     · exact hw.1
   subst hwx
   have:0 <= ux:=by unfold L.vn at hu;omega
   have hwy:0 <= wy:=by unfold L.vn at hw;omega
   have:=Int.mul_nonneg this hwy
   rw [Int.mul_zero];omega
theorem half_r {ux uy vx vy wx wy:Int} (hu:L.vn ux uy) (hv:L.vp vx vy) (hw:L.vp wx wy) (h1:0 < ux * vy - uy * vx) (h2:0 <= vx * wy - vy * wx):0 < ux * wy - uy * wx:=by
 have i1:=half_id1 ux uy vx vy wx wy
 rcases hv with hv | ⟨rfl,hv⟩
 · have hux:0 <= ux:=by unfold L.vn at hu;omega
   have a2:0 <= (vx * wy - vy * wx) * ux:=Int.mul_nonneg h2 hux
   rcases hw with hw | ⟨rfl,hw⟩
   · have a1:=Int.mul_pos h1 hw
     exact pos_of_mul hv (by omega)
   · have hp:0 < vx * wy:=Int.mul_pos hv hw
     rcases Int.lt_or_le 0 ux with g | g
     · have:=Int.mul_pos g hw;rw [Int.mul_zero];omega
     · obtain rfl:ux=0:=by omega
       have huy:0 <= uy:=by unfold L.vn at hu;omega
       have:=Int.mul_nonneg huy (Int.le_of_lt hv)
       rw [Int.zero_mul] at h1;omega
 · have hwx : wx = 0 := by
     rcases hw with hw | hw
     · have:=Int.mul_pos hv hw;rw [Int.zero_mul] at h2;omega
     · exact hw.1
   subst hwx
   have hwy:0 < wy:=by unfold L.vp at hw;omega
   have h1:0 < ux * vy:=by rw [Int.mul_zero] at h1;omega
   have:=Int.mul_pos (pos_of_mul hv h1) hwy
   rw [Int.mul_zero];omega
theorem half_l {ux uy vx vy wx wy:Int} (hu:L.vp ux uy) (hv:L.vp vx vy) (hw:L.vn wx wy) (h1:0 <= ux * vy - uy * vx) (h2:0 < vx * wy - vy * wx):0 < ux * wy - uy * wx:=by
 have i1:=half_id1 ux uy vx vy wx wy
 rcases hv with hv | ⟨rfl,hv⟩
 · have hwx:0 <= wx:=by unfold L.vn at hw;omega
   have a1:0 <= (ux * vy - uy * vx) * wx:=Int.mul_nonneg h1 hwx
   rcases hu with hu | ⟨rfl,hu⟩
   · have a2:=Int.mul_pos h2 hu
     exact pos_of_mul hv (by omega)
   · have:=Int.mul_pos hu hv
     rw [Int.zero_mul] at h1;omega
 · have h2:0 < - (vy * wx):=by rw [Int.zero_mul] at h2;omega
   have hwx:0 <= wx:=by unfold L.vn at hw;omega
   have:=Int.mul_nonneg (Int.le_of_lt hv) hwx
   omega
def L.slt (s:Int) (a b:L.Pt):Prop:=L.vp (s * (b.x - a.x)) (s * (b.y - a.y))
def L.sle (s:Int) (a b:L.Pt):Prop:=L.vn (s * (b.x - a.x)) (s * (b.y - a.y))
theorem sgn_mul {s:Int} (hs:s=1 \/ s = -1) (a b:Int):s * a * (s * b)=a * b:=by
 rcases hs with rfl | rfl <;> grind
theorem slt_sle {s:Int} {a b:L.Pt} (h:L.slt s a b):L.sle s a b:=by unfold L.slt L.sle L.vp L.vn at *;omega
theorem slt_trans {s:Int} {a b c:L.Pt} (h:L.slt s a b) (k:L.slt s b c):L.slt s a c:=by
 unfold L.slt L.vp at *
 rw [show c.x - a.x=(b.x - a.x)+(c.x - b.x) by omega,show c.y - a.y=(b.y - a.y)+(c.y - b.y) by omega,Int.mul_add,Int.mul_add];omega
theorem slt_sle_trans {s:Int} {a b c:L.Pt} (h:L.slt s a b) (k:L.sle s b c):L.slt s a c:=by
 unfold L.slt L.sle L.vp L.vn at *
 rw [show c.x - a.x=(b.x - a.x)+(c.x - b.x) by omega,show c.y - a.y=(b.y - a.y)+(c.y - b.y) by omega,Int.mul_add,Int.mul_add];omega
theorem sle_slt_trans {s:Int} {a b c:L.Pt} (h:L.sle s a b) (k:L.slt s b c):L.slt s a c:=by
 unfold L.slt L.sle L.vp L.vn at *
 rw [show c.x - a.x=(b.x - a.x)+(c.x - b.x) by omega,show c.y - a.y=(b.y - a.y)+(c.y - b.y) by omega,Int.mul_add,Int.mul_add];omega
theorem sle_refl (s:Int) (a:L.Pt):L.sle s a a:=by
 unfold L.sle L.vn;rw [Int.sub_self,Int.sub_self,Int.mul_zero];omega
theorem sle_or {s:Int} (hs:s=1 \/ s = -1) {a b:L.Pt} (h:L.sle s a b):a=b \/ L.slt s a b:=by
 unfold L.slt L.sle L.vp L.vn at *
 obtain ⟨ax,ay⟩:=a;obtain ⟨bx,by'⟩:=b
 simp only [L.Pt.mk.injEq] at *
 rcases hs with rfl | rfl <;> omega
theorem slt_ne {s:Int} {a b:L.Pt} (h:L.slt s a b):a ≠ b:=by
 rintro rfl
 unfold L.slt L.vp at h;rw [Int.sub_self,Int.sub_self,Int.mul_zero] at h;omega
theorem cr_pos {s:Int} (hs:s=1 \/ s = -1) (x1 y1 x2 y2:Int):s * x1 * (s * y2) - s * y1 * (s * x2)=x1 * y2 - y1 * x2:=by rw [sgn_mul hs,sgn_mul hs]
theorem turn_r {s:Int} (hs:s=1 \/ s = -1) {a b c q:L.Pt} (h1:L.slt s a b) (h2:L.slt s b c) (h3:L.slt s b q) (ht:0 < L.cross a b c) (hq:0 <= L.cross b c q):0 < L.cross a b q:=by
 have:=half_r (slt_sle h1) h2 h3 (by rw [cr_pos hs];unfold L.cross at ht;grind) (by rw [cr_pos hs];exact hq)
 rw [cr_pos hs] at this
 unfold L.cross;grind
theorem turn_l {s:Int} (hs:s=1 \/ s = -1) {a b c q:L.Pt} (h1:L.slt s a b) (h2:L.slt s b c) (h3:L.slt s q b) (ht:0 < L.cross a b c) (hq:0 <= L.cross a b q):0 < L.cross b c q:=by
 have:=half_l h3 h1 (slt_sle h2) (by rw [cr_pos hs];unfold L.cross at hq;grind) (by rw [cr_pos hs];unfold L.cross at ht;grind)
 rw [cr_pos hs] at this
 unfold L.cross;grind
theorem pop_a {s:Int} (hs:s=1 \/ s = -1) {a b p q:L.Pt} (h1:L.slt s a b) (h2:L.slt s b p) (h3:L.sle s a q) (ht:L.cross a b p <= 0) (hq:0 <= L.cross a b q):0 <= L.cross a p q:=by
 have:=half_w (slt_sle (slt_trans h1 h2)) h1 h3 (by rw [cr_pos hs];unfold L.cross at ht;grind) (by rw [cr_pos hs];exact hq)
 rw [cr_pos hs] at this
 exact this
theorem pop_b {s:Int} (hs:s=1 \/ s = -1) {a b p q:L.Pt} (h1:L.slt s a b) (h2:L.slt s b p) (h3:L.sle s q p) (ht:L.cross a b p <= 0) (hq:0 <= L.cross b p q):0 <= L.cross a p q:=by
 have:=half_w h3 h2 (slt_sle (slt_trans h1 h2)) (by rw [cr_pos hs];unfold L.cross at hq;grind) (by rw [cr_pos hs];unfold L.cross at ht;grind)
 rw [cr_pos hs] at this
 unfold L.cross;grind
def L.asc (s:Int):List L.Pt -> Prop
 | b :: a :: r=>L.slt s a b /\ L.asc s (a :: r)
 | _=>True
def L.cvx:List L.Pt -> Prop
 | c :: b :: a :: r=>0 < L.cross a b c /\ L.cvx (b :: a :: r)
 | _=>True
def L.ab (s:Int):List L.Pt -> L.Pt -> Prop
 | b :: a :: r,q=>(L.sle s a q /\ L.sle s q b /\ 0 <= L.cross a b q) \/ L.ab s (a :: r) q
 | [a],q=>q=a
 | [],_=>False
theorem cvx_tail {b:L.Pt}:∀ {r:List L.Pt},L.cvx (b :: r) -> L.cvx r
 | [],_=>trivial
 | [_],_=>trivial
 | _ :: _ :: _,h=>h.2
theorem pop_all {s:Int} (hs:s=1 \/ s = -1) {p:L.Pt}:∀ {st:List L.Pt},L.asc s (p :: st) -> L.cvx st -> L.asc s (p :: L.popPt p st) /\ L.cvx (p :: L.popPt p st) /\ ∀ q,L.ab s (p :: st) q -> L.ab s (p :: L.popPt p st) q
 | [],h,_=>⟨h,trivial,fun _ h=>h⟩
 | [a],h,_=>⟨h,trivial,fun _ h=>h⟩
 | b :: a :: r,h,hc=>by
   obtain ⟨h1,h2,h3⟩:=h
   unfold L.popPt
   cases hd:decide (L.cross a b p <= 0) with
   | true =>
     have hd:=of_decide_eq_true hd
     obtain ⟨k1,k2,k3⟩:=pop_all hs (p:=p) (st:=a :: r) ⟨slt_trans h2 h1,h3⟩ (cvx_tail hc)
     refine ⟨k1,k2,fun q hq=>k3 q ?_⟩
     rcases hq with ⟨q1,q2,q3⟩ | ⟨q1,q2,q3⟩ | hq
     · exact .inl ⟨slt_sle (slt_sle_trans h2 q1),q2,pop_b hs h2 h1 q2 hd q3⟩
     · exact .inl ⟨q1,slt_sle (sle_slt_trans q2 h1),pop_a hs h2 h1 q1 hd q3⟩
     · exact .inr hq
   | false =>
     have hd:=of_decide_eq_false hd
     exact ⟨⟨h1,h2,h3⟩,⟨by omega,hc⟩,fun _ h=>h⟩
theorem ab_le {s:Int}:∀ {st:List L.Pt} {b q:L.Pt},L.asc s (b :: st) -> L.ab s (b :: st) q -> L.sle s q b
 | [],b,q,_,h=>by
   have h:q=b:=h
   subst h;exact sle_refl _ _
 | a :: r,b,q,h,hq=>by
   rcases hq with hq | hq
   · exact hq.2.1
   · exact slt_sle (sle_slt_trans (ab_le h.2 hq) h.1)
theorem ab_self {s:Int}:∀ {st:List L.Pt} {b:L.Pt},L.asc s (b :: st) -> L.ab s (b :: st) b
 | [],_,_=>rfl
 | a :: r,b,h=>.inl ⟨slt_sle h.1,sle_refl _ _,by unfold L.cross;grind⟩
theorem cross_end (a b:L.Pt):L.cross a b b=0:=by unfold L.cross;grind
theorem cross_beg (a b:L.Pt):L.cross a b a=0:=by unfold L.cross;grind
def L.leftOf (s:Int) (a b q:L.Pt):Prop:=0 < L.cross a b q \/ (L.cross a b q=0 /\ L.sle s a q /\ L.sle s q b)
def L.allE (s:Int):List L.Pt -> L.Pt -> Prop
 | b :: a :: r,q=>L.leftOf s a b q /\ L.allE s (a :: r) q
 | _,_=>True
theorem below {s:Int} (hs:s=1 \/ s = -1) {q:L.Pt}:∀ {r:List L.Pt} {a b:L.Pt},L.asc s (b :: a :: r) -> L.cvx (b :: a :: r) -> L.sle s a q -> 0 <= L.cross a b q -> L.allE s (a :: r) q
 | [],_,_,_,_,_,_=>trivial
 | c :: r,a,b,h,hc,h1,h2=>by
   have key:0 < L.cross c a q \/ q=a:=by
     rcases sle_or hs h1 with e | e
     · exact .inr e.symm
     · exact .inl (turn_r hs h.2.1 h.1 e hc.1 h2)
   have k0:0 <= L.cross c a q:=by
     rcases key with e | rfl
     · omega
     · rw [cross_end];exact Int.le_refl _
   refine ⟨?_,below hs h.2 (cvx_tail hc) (slt_sle (slt_sle_trans h.2.1 h1)) k0⟩
   rcases key with e | rfl
   · exact .inl e
   · exact .inr ⟨cross_end _ _,slt_sle h.2.1,sle_refl _ _⟩
theorem above {s:Int} (hs:s=1 \/ s = -1) {q:L.Pt}:∀ {r:List L.Pt} {a b:L.Pt},L.asc s (b :: a :: r) -> L.cvx (b :: a :: r) -> L.ab s (a :: r) q -> 0 < L.cross a b q \/ q=a
 | [],_,_,_,_,h=>.inr h
 | c :: r,a,b,h,hc,hq=>by
   rcases hq with ⟨h1,h2,h3⟩ | hq
   · rcases sle_or hs h2 with e | e
     · exact .inr e
     · exact .inl (turn_l hs h.2.1 h.1 e hc.1 h3)
   · have hle:=ab_le h.2.2 hq
     have hlt:=sle_slt_trans hle h.2.1
     rcases above hs h.2 (cvx_tail hc) hq with e | e
     · exact .inl (turn_l hs h.2.1 h.1 hlt hc.1 (Int.le_of_lt e))
     · refine .inl (turn_l hs h.2.1 h.1 hlt hc.1 ?_)
       rw [e,cross_beg];exact Int.le_refl _
theorem all_edges {s:Int} (hs:s=1 \/ s = -1) {q:L.Pt}:∀ {st:List L.Pt},L.asc s st -> L.cvx st -> L.ab s st q -> L.allE s st q
 | [],_,_,_=>trivial
 | [_],_,_,_=>trivial
 | b :: a :: r,h,hc,hq=>by
   rcases hq with ⟨h1,h2,h3⟩ | hq
   · refine ⟨?_,below hs h hc h1 h3⟩
     rcases Int.lt_or_eq_of_le h3 with e | e
     · exact .inl e
     · exact .inr ⟨e.symm,h1,h2⟩
   · refine ⟨?_,all_edges hs h.2 (cvx_tail hc) hq⟩
     rcases above hs h hc hq with e | rfl
     · exact .inl e
     · exact .inr ⟨cross_beg _ _,sle_refl _ _,slt_sle h.1⟩
theorem sq_lt {a b:Int} (h0:0 <= a) (h:a < b):a * a < b * b:=by
 have h1:a * a <= a * b:=Int.mul_le_mul_of_nonneg_left (by omega) h0
 have h2:a * b < b * b:=Int.mul_lt_mul_of_pos_right h (by omega)
 omega
theorem abs_sq (a:Int):((a.natAbs:Int)) * (a.natAbs:Int)=a * a:=by
 have:=Int.natAbs_mul_self (a:=a);rw [<- Int.natCast_mul];exact_mod_cast this
theorem seg_sq {vx vy ux uy:Int} (hv:L.vp vx vy) (hu:L.vn ux uy) (hw:L.vn (vx - ux) (vy - uy)) (h:vx * uy - vy * ux=0):(ux=vx /\ uy=vy) \/ ux * ux+uy * uy < vx * vx+vy * vy:=by
 rcases hv with hv | ⟨rfl,hv⟩
 · have h0:0 <= ux:=by unfold L.vn at hu;omega
   have h1:ux <= vx:=by unfold L.vn at hw;omega
   rcases Int.lt_or_eq_of_le h1 with g | g
   · right
     have s1:=sq_lt h0 g
     have e:vx * uy=vy * ux:=by omega
     have e2:(vx * vx) * (uy * uy)=(ux * ux) * (vy * vy):=by
       have:(vx * uy) * (vx * uy)=(vy * ux) * (vy * ux):=by rw [e]
       grind
     have l1:(ux * ux) * (vy * vy) <= (vx * vx) * (vy * vy):=Int.mul_le_mul_of_nonneg_right (Int.le_of_lt s1) (by have:=abs_sq vy;have:=Int.mul_nonneg (Int.natCast_nonneg vy.natAbs) (Int.natCast_nonneg vy.natAbs);omega)
     have l2:uy * uy <= vy * vy:=Int.le_of_mul_le_mul_left (by rw [e2];exact l1) (Int.mul_pos hv hv)
     omega
   · subst g
     left
     refine ⟨rfl,?_⟩
     have:ux * uy=ux * vy:=by rw [Int.mul_comm ux vy];omega
     exact Int.eq_of_mul_eq_mul_left (by omega) this
 · have h0:ux=0:=by unfold L.vn at hu hw;omega
   subst h0
   have h1:0 <= uy:=by unfold L.vn at hu;omega
   have h2:uy <= vy:=by unfold L.vn at hw;omega
   rcases Int.lt_or_eq_of_le h2 with g | g
   · right;have:=sq_lt h1 g;omega
   · exact .inl ⟨rfl,g⟩
theorem seg_dist {s:Int} (hs:s=1 \/ s = -1) {a t q:L.Pt} (h1:L.slt s a t) (h2:L.sle s a q) (h3:L.sle s q t) (h:L.cross a t q=0):q=t \/ L.dist a q < L.dist a t:=by
 have hw:L.vn (s * (t.x - a.x) - s * (q.x - a.x)) (s * (t.y - a.y) - s * (q.y - a.y)):=by
   have:L.vn (s * (t.x - q.x)) (s * (t.y - q.y)):=h3
   rw [<- Int.mul_sub,<- Int.mul_sub,show t.x - a.x - (q.x - a.x)=t.x - q.x by omega,show t.y - a.y - (q.y - a.y)=t.y - q.y by omega];exact this
 have:=seg_sq h1 h2 hw (by rw [cr_pos hs];exact h)
 rw [sgn_mul hs,sgn_mul hs,sgn_mul hs,sgn_mul hs] at this
 rcases this with ⟨e1,e2⟩ | e
 · left
   obtain ⟨tx,ty⟩:=t;obtain ⟨qx,qy⟩:=q
   simp only [L.Pt.mk.injEq] at *
   rcases hs with rfl | rfl <;> omega
 · right;unfold L.dist;grind
def L.wrapC (f t q:L.Pt):Bool:=bif (bif decide (t.x=f.x) then decide (t.y=f.y) else false) then true else bif decide (L.cross f t q < 0) then true else bif decide (L.cross f t q=0) then decide (L.dist f t < L.dist f q) else false
def L.scan (g:Nat -> L.Pt) (f:L.Pt):Nat -> L.Pt
 | 0=>f
 | i+1=>bif L.wrapC f (L.scan g f i) (g i) then g i else L.scan g f i
theorem wrapC_t {f t q:L.Pt} (h:t=f \/ L.cross f t q < 0 \/ (L.cross f t q=0 /\ L.dist f t < L.dist f q)):L.wrapC f t q=true:=by
 unfold L.wrapC
 rcases h with rfl | h | ⟨h1,h2⟩
 · simp
 · cases (bif decide (t.x=f.x) then decide (t.y=f.y) else false)
   · rw [decide_eq_true h];rfl
   · rfl
 · cases (bif decide (t.x=f.x) then decide (t.y=f.y) else false)
   · rw [decide_eq_false (show ¬ L.cross f t q < 0 by omega),decide_eq_true h1,decide_eq_true h2];rfl
   · rfl
theorem wrapC_f {f t q:L.Pt} (h0:t ≠ f) (h1:0 <= L.cross f t q) (h2:L.cross f t q=0 -> ¬ L.dist f t < L.dist f q):L.wrapC f t q=false:=by
 unfold L.wrapC
 have e:(bif decide (t.x=f.x) then decide (t.y=f.y) else false)=false:=by
   obtain ⟨tx,ty⟩:=t;obtain ⟨fx,fy⟩:=f
   by_cases h:tx=fx
   · have:ty ≠ fy:=fun e=>h0 (by rw [h,e])
     simp [h,this]
   · simp [h]
 rw [e,decide_eq_false (show ¬ L.cross f t q < 0 by omega)]
 by_cases h:L.cross f t q=0
 · rw [decide_eq_true h,decide_eq_false (h2 h)];rfl
 · rw [decide_eq_false h];rfl
theorem cross_swap (a b c:L.Pt):L.cross a b c = - L.cross a c b:=by unfold L.cross;grind
theorem scan_eq {g:Nat -> L.Pt} {n:Nat} {f t:L.Pt} (hne:t ≠ f) (hin:∃ i,i < n /\ g i=t) (h:∀ i,i < n -> 0 <= L.cross f t (g i) /\ (L.cross f t (g i)=0 -> g i=t \/ L.dist f (g i) < L.dist f t)):L.scan g f n=t:=by
 obtain ⟨j,hj,hjt⟩:=hin
 have early:∀ i,i <= n -> L.scan g f i=f \/ ∃ k,k < n /\ L.scan g f i=g k:=fun i=>by
   induction i with
   | zero=>exact fun _=>.inl rfl
   | succ i ih =>
     intro hi
     unfold L.scan
     cases L.wrapC f (L.scan g f i) (g i) with
     | true=>exact .inr ⟨i,by omega,rfl⟩
     | false=>exact ih (by omega)
 have late:∀ d,j+1+d <= n -> L.scan g f (j+1+d)=t:=fun d=>by
   induction d with
   | zero =>
     intro _
     show (bif L.wrapC f (L.scan g f j) (g j) then g j else L.scan g f j)=t
     by_cases e:L.scan g f j=t
     · rw [e,hjt];cases L.wrapC f t t <;> rfl
     · have : L.wrapC f (L.scan g f j) (g j) = true := by
         rw [hjt]
         refine wrapC_t ?_
         rcases early j (by omega) with e2 | ⟨k,hk,e2⟩
         · exact .inl e2
         · right
           obtain ⟨h1,h2⟩:=h k hk
           rw [<- e2] at h1 h2
           rw [cross_swap]
           rcases Int.lt_or_eq_of_le h1 with g1 | g1
           · left;omega
           · rcases h2 g1.symm with g2 | g2
             · exact absurd g2 e
             · right;exact ⟨by omega,g2⟩
       rw [this];exact hjt
   | succ d ih =>
     intro hd
     show (bif L.wrapC f (L.scan g f (j+1+d)) (g (j+1+d)) then g (j+1+d) else L.scan g f (j+1+d))=t
     rw [ih (by omega)]
     obtain ⟨h1,h2⟩:=h (j+1+d) (by omega)
     rw [wrapC_f hne h1 (fun e => by rcases h2 e with g2 | g2
                                     · rw [g2];omega
                                     · omega)]
     rfl
 have:=late (n - (j+1)) (by omega)
 rwa [show j+1+(n - (j+1))=n by omega] at this
def L.wrapAt (g:Nat -> L.Pt) (n:Nat) (f:L.Pt):Nat -> L.Pt
 | 0=>f
 | k+1=>L.scan g (L.wrapAt g n f k) n
theorem wrap_eq {g:Nat -> L.Pt} {n m:Nat} {H:Nat -> L.Pt} (hm:0 < m) (hin:∀ k,k < m -> ∃ i,i < n /\ g i=H k) (hne:∀ k,k < m -> H (if k+1=m then 0 else k+1) ≠ H k)
   (he:∀ k,k < m -> ∀ i,i < n -> 0 <= L.cross (H k) (H (if k+1=m then 0 else k+1)) (g i) /\ (L.cross (H k) (H (if k+1=m then 0 else k+1)) (g i)=0 -> g i=H (if k+1=m then 0 else k+1) \/ L.dist (H k) (g i) < L.dist (H k) (H (if k+1=m then 0 else k+1)))) :
   (∀ k,k < m -> L.wrapAt g n (H 0) k=H k) /\ L.wrapAt g n (H 0) m=H 0:=by
 have step:∀ k,k < m -> L.wrapAt g n (H 0) k=H k -> L.wrapAt g n (H 0) (k+1)=H (if k+1=m then 0 else k+1):=fun k hk e=>by
   show L.scan g (L.wrapAt g n (H 0) k) n=_
   rw [e]
   exact scan_eq (hne k hk) (hin _ (by split <;> omega)) (he k hk)
 have all:∀ k,k < m -> L.wrapAt g n (H 0) k=H k:=fun k=>by
   induction k with
   | zero=>exact fun _=>rfl
   | succ k ih =>
     intro hk
     rw [step k (by omega) (ih (by omega)),if_neg (by omega)]
 refine ⟨all,?_⟩
 obtain ⟨k,rfl⟩:∃ k,m=k+1:=⟨m - 1,by omega⟩
 rw [step k (by omega) (all k (by omega)),if_pos rfl]
def L.botIs (a:L.Pt):List L.Pt -> Prop
 | []=>False
 | [b]=>b=a
 | _ :: b :: r=>L.botIs a (b :: r)
theorem pop_bot {a p:L.Pt}:∀ {st:List L.Pt},L.botIs a st -> L.botIs a (L.popPt p st)
 | [b],h=>h
 | c :: b :: r,h=>by
   unfold L.popPt
   cases decide (L.cross b c p <= 0) with
   | true=>exact pop_bot (st:=b :: r) h
   | false=>exact h
theorem bot_cons {a p:L.Pt}:∀ {st:List L.Pt},L.botIs a st -> L.botIs a (p :: st)
 | _ :: _,h=>h
theorem bot_from {a:L.Pt}:∀ {st:List L.Pt},L.botIs a st -> L.fromTop st 0=a /\ 1 <= st.length
 | [b],h=>⟨h,Nat.le_refl _⟩
 | c :: b :: r,h=>by
   have ih:=bot_from (st:=b :: r) h
   refine ⟨?_,Nat.succ_le_succ (Nat.zero_le _)⟩
   rw [<- ih.1]
   unfold L.fromTop
   show (c :: b :: r).getD (r.length+1+1 - 1 - 0) ⟨0,0⟩=(b :: r).getD (r.length+1 - 1 - 0) ⟨0,0⟩
   rw [show r.length+1+1 - 1 - 0=(r.length+1 - 1 - 0)+1 by omega];rfl
structure L.ChainOk (s:Int) (g:Nat -> L.Pt) (k:Nat) (st:List L.Pt):Prop where
 asc:L.asc s st
 cvx:L.cvx st
 ab:∀ i,i < k -> L.ab s st (g i)
 top:∃ r,st=g (k - 1) :: r
 bot:L.botIs (g 0) st
theorem chain_ok {s:Int} (hs:s=1 \/ s = -1) {l:(L.Sq L.Pt)} (h:∀ i j,i < j -> j < l.n -> L.slt s (l.g i) (l.g j)):∀ k,1 <= k -> k <= l.n -> L.ChainOk s l.g k (L.chainTo l k)
 | 1, _, _ => ⟨trivial, trivial, fun i hi => by
     obtain rfl:i=0:=by omega
     rfl,⟨[],rfl⟩,rfl⟩
 | k+2,_,hk=>by
   have ih:=chain_ok hs h (k+1) (by omega) (by omega)
   obtain ⟨r,hr⟩:=ih.top
   have hr:L.chainTo l (k+1)=l.g k :: r:=hr
   have h1:L.asc s (l.g (k+1) :: L.chainTo l (k+1)):=by
     have:=ih.asc
     rw [hr] at this ⊢
     exact ⟨h k (k+1) (by omega) (by omega),this⟩
   obtain ⟨p1,p2,p3⟩:=pop_all hs h1 ih.cvx
   refine ⟨p1,p2,fun i hi=>?_,⟨_,rfl⟩,bot_cons (pop_bot ih.bot)⟩
   by_cases hik:i=k+1
   · subst hik;exact ab_self p1
   · refine p3 _ ?_
     have:=ih.ab i (by omega)
     rw [hr] at this ⊢
     exact .inr this
theorem asc_at {s:Int}:∀ {st:List L.Pt},L.asc s st -> ∀ i,i+1 < st.length -> L.slt s (st.getD (i+1) ⟨0,0⟩) (st.getD i ⟨0,0⟩)
 | _ :: _ :: _,h,0,_=>h.1
 | b :: a :: r,h,i+1,hi=>asc_at (st:=a :: r) h.2 i (by simpa using hi)
 | [_],_,_,hi=>by simp at hi
 | [],_,_,hi=>by simp at hi
theorem allE_at {s:Int} {q:L.Pt}:∀ {st:List L.Pt},L.allE s st q -> ∀ i,i+1 < st.length -> L.leftOf s (st.getD (i+1) ⟨0,0⟩) (st.getD i ⟨0,0⟩) q
 | _ :: _ :: _,h,0,_=>h.1
 | b :: a :: r,h,i+1,hi=>allE_at (st:=a :: r) h.2 i (by simpa using hi)
 | [_],_,_,hi=>by simp at hi
 | [],_,_,hi=>by simp at hi
structure L.Half (s:Int) (l:(L.Sq L.Pt)) (c:Nat) (F:Nat -> L.Pt):Prop where
 c1:1 <= c
 f0:F 0=l.g 0
 fc:F c=l.g (l.n - 1)
 up:∀ k,k < c -> L.slt s (F k) (F (k+1))
 lf:∀ k,k < c -> ∀ i,i < l.n -> L.leftOf s (F k) (F (k+1)) (l.g i)
 mem:∀ k,k <= c -> ∃ i,i < l.n /\ l.g i=F k
theorem chainTo_in {l:(L.Sq L.Pt)} {q:L.Pt}:∀ {k},q ∈ L.chainTo l k -> ∃ i,i < k /\ l.g i=q
 | 0,h=>nomatch h
 | k+1,h=>by
   have pm:∀ {st:List L.Pt} {p q:L.Pt},q ∈ L.popPt p st -> q ∈ st:=fun {st}=>by
     induction st with
     | nil=>exact fun h=>h
     | cons b r ih =>
       intro p q h
       cases r with
       | nil=>exact h
       | cons a r =>
         unfold L.popPt at h
         cases hd:decide (L.cross a b p <= 0) with
         | true=>rw [hd] at h;exact List.mem_cons_of_mem _ (ih h)
         | false=>rw [hd] at h;exact h
   rcases List.mem_cons.1 h with rfl | h
   · exact ⟨k,Nat.lt_succ_self _,rfl⟩
   · obtain ⟨i,hi,e⟩:=chainTo_in (pm h)
     exact ⟨i,Nat.lt_succ_of_lt hi,e⟩
theorem half_of {s:Int} (hs:s=1 \/ s = -1) {l:(L.Sq L.Pt)} (h2:2 <= l.n) (h:∀ i j,i < j -> j < l.n -> L.slt s (l.g i) (l.g j)):L.Half s l ((L.chainTo l l.n).length - 1) (L.fromTop (L.chainTo l l.n)):=by
 have C:=chain_ok hs h l.n (by omega) (Nat.le_refl _)
 generalize hst:L.chainTo l l.n=st at C
 obtain ⟨r,hr⟩:=C.top
 obtain ⟨b1,b2⟩:=bot_from C.bot
 have hlen:2 <= st.length:=by
   rcases Nat.lt_or_ge 1 st.length with g | g
   · exact g
   · have hr0:r = []:=List.eq_nil_of_length_eq_zero (by rw [hr] at g;simpa using g)
     have:=C.bot
     rw [hr,hr0] at this
     exact absurd this.symm (slt_ne (h 0 (l.n - 1) (by omega) (by omega)))
 have idx:∀ k,k < st.length - 1 -> L.fromTop st k=st.getD (st.length - 1 - (k+1)+1) ⟨0,0⟩ /\ L.fromTop st (k+1)=st.getD (st.length - 1 - (k+1)) ⟨0,0⟩:=fun k hk=>by
   refine ⟨?_,rfl⟩
   unfold L.fromTop
   rw [show st.length - 1 - k=st.length - 1 - (k+1)+1 by omega]
 refine ⟨by omega,b1,?_,fun k hk=>?_,fun k hk i hi=>?_,fun k hk=>?_⟩
 · unfold L.fromTop;rw [Nat.sub_self,hr];rfl
 · rw [(idx k hk).1,(idx k hk).2];exact asc_at C.asc _ (by omega)
 · rw [(idx k hk).1,(idx k hk).2];exact allE_at (all_edges hs C.asc C.cvx (C.ab i hi)) _ (by omega)
 · refine chainTo_in (k:=l.n) ?_
   rw [hst]
   unfold L.fromTop
   rw [List.getD_eq_getElem?_getD,List.getElem?_eq_getElem (by omega)]
   exact List.getElem_mem _
theorem half_mono {s:Int} {l:(L.Sq L.Pt)} {c:Nat} {F:Nat -> L.Pt} (H:L.Half s l c F):∀ {i j},i < j -> j <= c -> L.slt s (F i) (F j)
 | i,j+1,h,hj=>by
   rcases Nat.lt_succ_iff_lt_or_eq.1 h with g | g
   · exact slt_trans (half_mono H g (by omega)) (H.up j (by omega))
   · subst g;exact H.up i (by omega)
theorem left_wrap {s:Int} (hs:s=1 \/ s = -1) {a b q:L.Pt} (hab:L.slt s a b) (h:L.leftOf s a b q):0 <= L.cross a b q /\ (L.cross a b q=0 -> q=b \/ L.dist a q < L.dist a b):=by
 rcases h with h | ⟨h1,h2,h3⟩
 · exact ⟨by omega,fun e=>by omega⟩
 · exact ⟨by omega,fun _=>seg_dist hs hab h2 h3 h1⟩
theorem hull_wrap {l:(L.Sq L.Pt)} {c1 c2:Nat} {F1 F2:Nat -> L.Pt} (h2:2 <= l.n) (A:L.Half 1 l c1 F1) (B:L.Half (-1) ⟨l.n,fun k=>l.g (l.n - 1 - k)⟩ c2 F2) {g:Nat -> L.Pt} {n:Nat}
   (hg:∀ i,i < n -> ∃ j,j < l.n /\ l.g j=g i) (hl:∀ j,j < l.n -> ∃ i,i < n /\ g i=l.g j) :
   (∀ k,k < c1+c2 -> L.wrapAt g n (l.g 0) k=(if k < c1 then F1 k else F2 (k - c1))) /\ L.wrapAt g n (l.g 0) (c1+c2)=l.g 0 /\ ∀ k,0 < k -> k < c1+c2 -> (if k < c1 then F1 k else F2 (k - c1)) ≠ l.g 0:=by
 have a1:=A.c1
 have b1:=B.c1
 have e1:F1 c1=F2 0:=by rw [A.fc,B.f0];show _=l.g (l.n - 1 - 0);rfl
 have e2:F2 c2=F1 0:=by rw [A.f0,B.fc];show l.g (l.n - 1 - (l.n - 1))=_;rw [Nat.sub_self]
 have mB:∀ k,k <= c2 -> ∃ i,i < l.n /\ l.g i=F2 k:=fun k hk=>by
   obtain ⟨i,hi,e⟩:=B.mem k hk
   exact ⟨l.n - 1 - i,by have:i < l.n:=hi;omega,e⟩
 have lB:∀ k,k < c2 -> ∀ i,i < l.n -> L.leftOf (-1) (F2 k) (F2 (k+1)) (l.g i):=fun k hk i hi=>by
   have:=B.lf k hk (l.n - 1 - i) (show _ < l.n by omega)
   have this:L.leftOf (-1) (F2 k) (F2 (k+1)) (l.g (l.n - 1 - (l.n - 1 - i))):=this
   rwa [show l.n - 1 - (l.n - 1 - i)=i by omega] at this
 -- the edge at k
 have ed : ∀ k, k < c1 + c2 -> (∃ j, j < c1 /\ (if k < c1 then F1 k else F2 (k - c1)) = F1 j /\ (if (if k + 1 = c1 + c2 then 0 else k + 1) < c1 then F1 (if k + 1 = c1 + c2 then 0 else k + 1) else F2 ((if k + 1 = c1 + c2 then 0 else k + 1) - c1)) = F1 (j + 1)) \/
     (∃ j,j < c2 /\ (if k < c1 then F1 k else F2 (k - c1))=F2 j /\ (if (if k+1=c1+c2 then 0 else k+1) < c1 then F1 (if k+1=c1+c2 then 0 else k+1) else F2 ((if k+1=c1+c2 then 0 else k+1) - c1))=F2 (j+1)):=fun k hk=>by
   by_cases h:k < c1
   · refine .inl ⟨k,h,if_pos h,?_⟩
     rw [if_neg (show ¬ k+1=c1+c2 by omega)]
     by_cases h':k+1 < c1
     · rw [if_pos h']
     · rw [if_neg h',show k+1=c1 by omega,Nat.sub_self,e1]
   · refine .inr ⟨k - c1,by omega,if_neg h,?_⟩
     by_cases h':k+1=c1+c2
     · rw [if_pos h',if_pos (show 0 < c1 by omega),show k - c1+1=c2 by omega,e2]
     · rw [if_neg h',if_neg (show ¬ k+1 < c1 by omega),show k+1 - c1=k - c1+1 by omega]
 have key:=wrap_eq (g:=g) (n:=n) (m:=c1+c2) (H:=fun k=>if k < c1 then F1 k else F2 (k - c1)) (by omega) (fun k hk=>?_) (fun k hk=>?_) (fun k hk i hi=>?_)
 · have h0 : (if 0 < c1 then F1 0 else F2 (0 - c1)) = l.g 0 := by
     rw [if_pos (by omega),A.f0]
   rw [h0] at key
   refine ⟨key.1,key.2,fun k hk0 hk=>?_⟩
   by_cases h:k < c1
   · rw [if_pos h,<- A.f0];exact (slt_ne (half_mono A hk0 (by omega))).symm
   · rw [if_neg h,<- A.f0,<- e2];exact slt_ne (half_mono B (show k - c1 < c2 by omega) (Nat.le_refl _))
 · have : ∃ i, i < l.n /\ l.g i = (if k < c1 then F1 k else F2 (k - c1)) := by
     split
     · exact A.mem k (by omega)
     · exact mB _ (by omega)
   obtain ⟨i,hi,e⟩:=this
   obtain ⟨j,hj,e'⟩:=hl i hi
   exact ⟨j,hj,e'.trans e⟩
 · rcases ed k hk with ⟨j,hj,p,q⟩ | ⟨j,hj,p,q⟩
   · rw [p,q];exact (slt_ne (A.up j hj)).symm
   · rw [p,q];exact (slt_ne (B.up j hj)).symm
 · obtain ⟨j',hj',e'⟩:=hg i hi
   rcases ed k hk with ⟨j,hj,p,q⟩ | ⟨j,hj,p,q⟩
   · rw [p,q,<- e'];exact left_wrap (.inl rfl) (A.up j hj) (A.lf j hj _ hj')
   · rw [p,q,<- e'];exact left_wrap (.inr rfl) (B.up j hj) (lB j hj _ hj')
theorem meet_zero {a b c d:L.Pt}:L.meet a b c d=0 ↔ (∀ q,¬ L.S a b c d q) /\ ¬ (L.apart a b c d=true /\ L.apart c d a b=true):=by
 refine ⟨fun h=>⟨meet_none h,meet_noX h⟩,fun ⟨h1,h2⟩=>?_⟩
 have h0:¬ 0 < (L.k2 a b c d 2).n:=fun h=>by
   obtain ⟨p,hp⟩:=n_pos.1 h
   exact h1 p (k2_mem.1 hp)
 have hx:(bif L.apart a b c d then L.apart c d a b else false)=false:=by
   cases e1:L.apart a b c d with
   | false=>rfl
   | true=>cases e2:L.apart c d a b with
     | false=>rfl
     | true=>exact absurd ⟨e1,e2⟩ h2
 unfold L.meet
 rw [hx,decide_eq_false (show ¬ 1 < ((L.k2 a b c d 2).n:Int) by omega),decide_eq_false (show ¬ ((L.k2 a b c d 2).n:Int)=1 by omega)]
 rfl
theorem meet_one {a b c d:L.Pt}:L.meet a b c d=1 ↔ ∃ q,L.S a b c d q /\ ∀ q',L.S a b c d q' -> q'=q:=by
 have hn:L.meet a b c d=1 ↔ (L.k2 a b c d 2).n=1:=by
   unfold L.meet
   by_cases h1:1 < ((L.k2 a b c d 2).n:Int)
   · rw [decide_eq_true h1]
     exact ⟨fun h=>(by cases h),fun h=>(by omega)⟩
   · rw [decide_eq_false h1]
     by_cases h2:((L.k2 a b c d 2).n:Int)=1
     · rw [decide_eq_true h2];exact ⟨fun _=>by omega,fun _=>rfl⟩
     · rw [decide_eq_false h2]
       cases (bif L.apart a b c d then L.apart c d a b else false)
       · exact ⟨fun h=>(by cases h),fun h=>(by omega)⟩
       · exact ⟨fun h=>(by cases h),fun h=>(by omega)⟩
 rw [hn]
 constructor
 · intro h
   obtain ⟨q,hq⟩:=n_pos.1 (show 0 < (L.k2 a b c d 2).n by omega)
   refine ⟨q,k2_mem.1 hq,fun q' hq'=>?_⟩
   by_cases e:q'=q
   · exact e
   · have:=(n_two k2_nod).2 ⟨q',q,k2_mem.2 hq',hq,e⟩
     omega
 · rintro ⟨q,hq,hu⟩
   have h0:=n_pos.2 ⟨q,k2_mem.2 hq⟩
   have h1:¬ 1 < (L.k2 a b c d 2).n:=fun h=>by
     obtain ⟨r,s,hr,hs,hne⟩:=(n_two k2_nod).1 h
     exact hne ((hu r (k2_mem.1 hr)).trans (hu s (k2_mem.1 hs)).symm)
   omega
def L.f (p:L.Pt):Int:=8000001 * p.y+p.x
theorem f_inj {a b:L.Pt} (ha:L.bd a) (hb:L.bd b) (h:L.f a=L.f b):a=b:=by
 unfold L.bd at ha hb;unfold L.f at h
 have e1:a.y=b.y:=by omega
 have e2:a.x=b.x:=by omega
 cases a;cases b;simp only at e1 e2;rw [e1,e2]
theorem on_cross {a b p:L.Pt} (h:L.on a b p=true):L.cross a b p=0:=by
 unfold L.on at h
 simp only [Bool.and_eq_true,decide_eq_true_eq] at h
 exact h.1.1
theorem btw {U w u W:Int} (h:W * u=w * U) (hu:u ≠ 0) (hw:min 0 u <= w /\ w <= max 0 u):min 0 U <= W /\ W <= max 0 U:=by
 have tri:∀ U w W u:Int,0 < u -> 0 <= w -> w <= u -> W * u=w * U -> min 0 U <= W /\ W <= max 0 U:=fun U w W u hu h0 h1 e=>by
   rcases Int.le_total 0 U with g | g
   · refine ⟨?_,?_⟩
     · rcases Int.lt_or_le W 0 with q | q
       · have:=Int.mul_neg_of_neg_of_pos q hu
         have:=Int.mul_nonneg h0 g
         omega
       · omega
     · rcases Int.lt_or_le U W with q | q
       · have a1:=Int.mul_lt_mul_of_pos_right q hu
         have a2:=Int.mul_le_mul_of_nonneg_right h1 g
         rw [Int.mul_comm U u] at a1
         omega
       · omega
   · refine ⟨?_,?_⟩
     · rcases Int.lt_or_le W U with q | q
       · have a1:=Int.mul_lt_mul_of_pos_right q hu
         have a2:=Int.mul_le_mul_of_nonpos_right h1 g
         rw [Int.mul_comm U u] at a1
         omega
       · omega
     · rcases Int.lt_or_le 0 W with q | q
       · have:=Int.mul_pos q hu
         have:=Int.mul_nonpos_of_nonneg_of_nonpos h0 g
         omega
       · omega
 rcases Int.lt_or_lt_of_ne hu with g | g
 · exact tri U (-w) W (-u) (by omega) (by omega) (by omega) (by rw [Int.mul_neg,h,Int.neg_mul])
 · exact tri U w W u g (by omega) (by omega) h
theorem on_f {a b p:L.Pt} (h:L.on a b p=true):min (L.f a) (L.f b) <= L.f p /\ L.f p <= max (L.f a) (L.f b):=by
 have h0:=on_cross h
 unfold L.on L.within at h
 simp only [Bool.and_eq_true,decide_eq_true_eq] at h
 obtain ⟨⟨_,hx⟩,hy⟩:=h
 have key:min 0 (L.f b - L.f a) <= L.f p - L.f a /\ L.f p - L.f a <= max 0 (L.f b - L.f a):=by
   by_cases hu:b.x - a.x=0
   · unfold L.f
     omega
   · refine btw (u:=b.x - a.x) (w:=p.x - a.x) ?_ hu (by omega)
     unfold L.cross at h0;unfold L.f;grind
 omega
theorem on_iff {a b p:L.Pt} (hne:a ≠ b) (ba:L.bd a) (bb:L.bd b) (bp:L.bd p):L.on a b p=true ↔ L.cross a b p=0 /\ min (L.f a) (L.f b) <= L.f p /\ L.f p <= max (L.f a) (L.f b) :=
 ⟨fun h=>⟨on_cross h,on_f h⟩,fun h=>on_of h.1 hne ba bb bp h.2.1 h.2.2⟩
theorem on_same {a p:L.Pt} (h:L.on a a p=true):p=a:=by
 unfold L.on L.within at h
 simp only [Bool.and_eq_true,decide_eq_true_eq] at h
 cases a;cases p
 simp only [L.Pt.mk.injEq] at *
 omega
theorem col3 {a c p q:L.Pt} (hne:a ≠ c) (h1:L.cross a c p=0) (h2:L.cross a c q=0):L.cross a p q=0 /\ L.cross p c q=0:=by
 have e1:(c.x - a.x) * L.cross a p q=0:=by
   have:(c.x - a.x) * L.cross a p q=(p.x - a.x) * L.cross a c q - (q.x - a.x) * L.cross a c p:=by unfold L.cross;grind
   rw [this,h1,h2,Int.mul_zero,Int.mul_zero];rfl
 have e2:(c.y - a.y) * L.cross a p q=0:=by
   have:(c.y - a.y) * L.cross a p q=(p.y - a.y) * L.cross a c q - (q.y - a.y) * L.cross a c p:=by unfold L.cross;grind
   rw [this,h1,h2,Int.mul_zero,Int.mul_zero];rfl
 have z:L.cross a p q=0:=by
   rcases Int.mul_eq_zero.1 e1 with g | g
   · rcases Int.mul_eq_zero.1 e2 with g' | g'
     · exact absurd (by cases a;cases c;simp only [L.Pt.mk.injEq] at *;omega) hne
     · exact g'
   · exact g
 refine ⟨z,?_⟩
 have:L.cross p c q=L.cross a c q+L.cross a p c - L.cross a p q:=by unfold L.cross;grind
 have s:L.cross a p c = - L.cross a c p:=by unfold L.cross;grind
 omega
theorem on_split {a b c p:L.Pt} (ba:L.bd a) (bb:L.bd b) (bc:L.bd c) (bp:L.bd p) (hb:L.on a c b=true) (hp:L.on a c p=true):L.on a b p=true \/ L.on b c p=true:=by
 by_cases hac:a=c
 · subst hac
   rw [on_same hb,on_same hp];exact .inl on_left
 by_cases hab:a=b
 · subst hab;exact .inr hp
 by_cases hbc:b=c
 · subst hbc;exact .inl hp
 obtain ⟨c1,c2⟩:=col3 hac (on_cross hb) (on_cross hp)
 have f1:=on_f hb
 have f2:=on_f hp
 rw [on_iff hab ba bb bp,on_iff hbc bb bc bp]
 rcases Int.le_total (L.f a) (L.f c) with g | g
 · rcases Int.le_total (L.f p) (L.f b) with g' | g'
   · exact .inl ⟨c1,by omega,by omega⟩
   · exact .inr ⟨c2,by omega,by omega⟩
 · rcases Int.le_total (L.f p) (L.f b) with g' | g'
   · exact .inr ⟨c2,by omega,by omega⟩
   · exact .inl ⟨c1,by omega,by omega⟩
def L.opp (u v:Int):Prop:=(u < 0 /\ 0 < v) \/ (0 < u /\ v < 0)
theorem apart_iff {a b c d:L.Pt}:L.apart a b c d=true ↔ L.opp (L.cross a b c) (L.cross a b d):=by
 unfold L.apart L.opp L.cmp
 generalize L.cross a b c=u
 generalize L.cross a b d=v
 rw [decide_eq_true_iff]
 rcases Int.lt_trichotomy u 0 with h1 | h1 | h1 <;> rcases Int.lt_trichotomy v 0 with h2 | h2 | h2 <;> simp [h1,h2,Int.lt_asymm,show ¬ 0 < 0 by omega] <;> omega
theorem opp_mul {u v k:Int} (h:L.opp u v) (hk:k ≠ 0):L.opp (k * u) (k * v):=by
 unfold L.opp at *
 rcases Int.lt_or_lt_of_ne hk with g | g <;> rcases h with ⟨h1,h2⟩ | ⟨h1,h2⟩
 · exact .inr ⟨Int.mul_pos_of_neg_of_neg g h1,Int.mul_neg_of_neg_of_pos g h2⟩
 · exact .inl ⟨Int.mul_neg_of_neg_of_pos g h1,Int.mul_pos_of_neg_of_neg g h2⟩
 · exact .inl ⟨Int.mul_neg_of_pos_of_neg g h1,Int.mul_pos g h2⟩
 · exact .inr ⟨Int.mul_pos g h1,Int.mul_neg_of_pos_of_neg g h2⟩
theorem opp_div {u v k:Int} (h:L.opp (k * u) (k * v)):L.opp u v:=by
 unfold L.opp at *
 rcases Int.lt_trichotomy k 0 with g | g | g
 · have e : ∀ t, 0 < k * t -> t < 0 := fun t ht => by
     rcases Int.lt_or_le t 0 with q | q
     · exact q
     · have:=Int.mul_nonpos_of_nonpos_of_nonneg (Int.le_of_lt g) q;omega
   have e':∀ t,k * t < 0 -> 0 < t:=fun t ht=>by
     rcases Int.lt_or_le 0 t with q | q
     · exact q
     · have:=Int.mul_nonneg_of_nonpos_of_nonpos (Int.le_of_lt g) q;omega
   rcases h with ⟨h1,h2⟩ | ⟨h1,h2⟩
   · exact .inr ⟨e' _ h1,e _ h2⟩
   · exact .inl ⟨e _ h1,e' _ h2⟩
 · subst g;rw [Int.zero_mul,Int.zero_mul] at h;omega
 · have e : ∀ t, 0 < k * t -> 0 < t := fun t ht => by
     rcases Int.lt_or_le 0 t with q | q
     · exact q
     · have:=Int.mul_nonpos_of_nonneg_of_nonpos (Int.le_of_lt g) q;omega
   have e':∀ t,k * t < 0 -> t < 0:=fun t ht=>by
     rcases Int.lt_or_le t 0 with q | q
     · exact q
     · have:=Int.mul_nonneg (Int.le_of_lt g) q;omega
   rcases h with ⟨h1,h2⟩ | ⟨h1,h2⟩
   · exact .inl ⟨e' _ h1,e _ h2⟩
   · exact .inr ⟨e _ h1,e' _ h2⟩
theorem cross_on {a c p q b:L.Pt} (bp:L.bd p) (bq:L.bd q) (bb:L.bd b) (h0:L.cross p q b=0) (h1:L.cross a c b=0) (ho:L.opp (L.cross a c p) (L.cross a c q)):L.on p q b=true:=by
 have hpq:p ≠ q:=fun e=>by subst e;unfold L.opp at ho;omega
 have e:(L.f b - L.f p) * (L.cross a c q - L.cross a c p)=(0 - L.cross a c p) * (L.f q - L.f p):=by
   have:(L.f b - L.f p) * (L.cross a c q - L.cross a c p) - (L.cross a c b - L.cross a c p) * (L.f q - L.f p)=(L.f a - L.f c) * L.cross p q b:=by unfold L.f L.cross;grind
   rw [h0,h1,Int.mul_zero] at this
   omega
 have:=btw e (by unfold L.opp at ho;omega) (by unfold L.opp at ho;omega)
 exact (on_iff hpq bp bq bb).2 ⟨h0,by omega,by omega⟩
theorem merge_none {a b c p q:L.Pt} (ba:L.bd a) (bb:L.bd b) (bc:L.bd c) (bp:L.bd p) (bq:L.bd q) (hb:L.on a c b=true) (h1:L.meet a b p q=0) (h2:L.meet b c p q=0):L.meet a c p q=0:=by
 by_cases hac:a=c
 · subst hac;rw [on_same hb] at h1;exact h1
 by_cases hab:a=b
 · subst hab;exact h2
 by_cases hbc:b=c
 · subst hbc;exact h1
 rw [meet_zero] at h1 h2 ⊢
 obtain ⟨s1,x1⟩:=h1
 obtain ⟨s2,x2⟩:=h2
 refine ⟨fun r hr=>?_,fun ⟨hx,hy⟩=>?_⟩
 · rcases hr with ⟨h,rfl⟩ | ⟨h,rfl⟩ | ⟨h,rfl⟩ | ⟨h,rfl⟩
   · exact s1 _ (.inl ⟨h,rfl⟩)
   · exact s2 _ (.inr (.inl ⟨h,rfl⟩))
   · rcases on_split ba bb bc bp hb h with g | g
     · exact s1 _ (.inr (.inr (.inl ⟨g,rfl⟩)))
     · exact s2 _ (.inr (.inr (.inl ⟨g,rfl⟩)))
   · rcases on_split ba bb bc bq hb h with g | g
     · exact s1 _ (.inr (.inr (.inr ⟨g,rfl⟩)))
     · exact s2 _ (.inr (.inr (.inr ⟨g,rfl⟩)))
 · rw [apart_iff] at hx hy
   have hcb:=on_cross hb
   have fb:=on_f hb
   have nfa:L.f a ≠ L.f b:=fun e=>hab (f_inj ba bb e)
   have nfc:L.f b ≠ L.f c:=fun e=>hbc (f_inj bb bc e)
   have hsb:L.cross p q b ≠ 0:=fun e=>s1 b (.inr (.inl ⟨cross_on bp bq bb e hcb hx,rfl⟩))
   have r1:∀ t,(L.f c - L.f a) * L.cross a b t=(L.f b - L.f a) * L.cross a c t:=fun t=>by
     have:(L.f c - L.f a) * L.cross a b t - (L.f b - L.f a) * L.cross a c t = - (L.f t - L.f a) * L.cross a c b:=by unfold L.f L.cross;grind
     rw [hcb,Int.mul_zero] at this;omega
   have r2:∀ t,(L.f c - L.f a) * L.cross b c t=(L.f c - L.f b) * L.cross a c t:=fun t=>by
     have:(L.f c - L.f a) * L.cross b c t - (L.f c - L.f b) * L.cross a c t=(L.f t - L.f c) * L.cross a c b:=by unfold L.f L.cross;grind
     rw [hcb,Int.mul_zero] at this;omega
   have hs:L.opp (L.cross p q a) (L.cross p q b) \/ L.opp (L.cross p q b) (L.cross p q c):=by
     unfold L.opp at *;omega
   rcases hs with hs | hs
   · refine x1 ⟨apart_iff.2 (opp_div (k:=L.f c - L.f a) ?_),apart_iff.2 hs⟩
     rw [r1,r1];exact opp_mul hx (by omega)
   · refine x2 ⟨apart_iff.2 (opp_div (k:=L.f c - L.f a) ?_),apart_iff.2 hs⟩
     rw [r2,r2];exact opp_mul hx (by omega)
theorem merge_touch {a b c d:L.Pt} (ba:L.bd a) (bb:L.bd b) (bc:L.bd c) (bd:L.bd d) (hb:L.on a c b=true) (h1:L.meet a b c d=0) (h2:L.meet b c c d=1):L.meet a c c d=1:=by
 rw [meet_zero] at h1
 rw [meet_one] at h2 ⊢
 obtain ⟨s1,_⟩:=h1
 obtain ⟨q,hq,hu⟩:=h2
 have hc:q=c:=(hu c (.inr (.inl ⟨on_left,rfl⟩))).symm
 subst hc
 refine ⟨q,.inr (.inl ⟨on_left,rfl⟩),fun r hr=>?_⟩
 rcases hr with ⟨h,rfl⟩ | ⟨_,rfl⟩ | ⟨_,rfl⟩ | ⟨h,rfl⟩
 · exact absurd (.inl ⟨h,rfl⟩) (s1 r)
 · rfl
 · rfl
 · rcases on_split ba bb bc bd hb h with g | g
   · exact absurd (.inr (.inr (.inr ⟨g,rfl⟩))) (s1 r)
   · exact hu r (.inr (.inr (.inr ⟨g,rfl⟩)))
theorem flat_on {a b c:L.Pt} (ba:L.bd a) (bb:L.bd b) (bc:L.bd c) (h0:L.cross a b c=0) (h:L.meet a b b c=1):L.on a c b=true:=by
 rw [meet_one] at h
 obtain ⟨q,_,hu⟩:=h
 have hq:q=b:=(hu b (.inr (.inl ⟨on_left,rfl⟩))).symm
 subst hq
 by_cases hab:a=q
 · subst hab;exact on_left
 by_cases hbc:q=c
 · subst hbc;exact on_right
 have n1:L.on q c a=false:=by
   cases hx:L.on q c a with
   | false=>rfl
   | true=>exact absurd (hu a (.inl ⟨hx,rfl⟩)) hab
 have n2:L.on a q c=false:=by
   cases hx:L.on a q c with
   | false=>rfl
   | true=>exact absurd (hu c (.inr (.inr (.inr ⟨hx,rfl⟩)))).symm hbc
 have hac:a ≠ c:=fun e=>by subst e;rw [on_left] at n2;cases n2
 have e1:L.cross q c a=0:=by unfold L.cross at *;grind
 have e2:L.cross a c q=0:=by unfold L.cross at *;grind
 have k1:¬ (L.cross q c a=0 /\ min (L.f q) (L.f c) <= L.f a /\ L.f a <= max (L.f q) (L.f c)):=fun h=>by rw [(on_iff hbc bb bc ba).2 h] at n1;cases n1
 have k2:¬ (L.cross a q c=0 /\ min (L.f a) (L.f q) <= L.f c /\ L.f c <= max (L.f a) (L.f q)):=fun h=>by rw [(on_iff hab ba bb bc).2 h] at n2;cases n2
 exact (on_iff hac ba bc bb).2 ⟨e2,by omega,by omega⟩
theorem pair_of {x:L.Sq L.Pt} (h:L.simple x=true) {i k:Nat} (h1:i < k) (h2:k < x.n):L.meet (x.g i) (x.g (i+1)) (x.g k) (x.g (L.next x.n k))=(if k=i+1 \/ (i=0 /\ k+1=x.n) then 1 else 0):=by
 have hp:L.okPair x i k=true:=by
   unfold L.simple at h
   have:=allB_iff.1 (allB_iff.1 h i (by omega)) k h2
   rw [decide_eq_true h1] at this
   exact this
 unfold L.okPair at hp
 have hx:L.nxt x i k=true ↔ k=i+1 \/ (i=0 /\ k+1=x.n):=by
   unfold L.nxt
   rw [bor,Bool.or_eq_true,band,Bool.and_eq_true,decide_eq_true_eq,decide_eq_true_eq,decide_eq_true_eq]
   omega
 show L.how x i k=_
 cases e:L.nxt x i k with
 | true=>rw [e] at hp;rw [if_pos (hx.1 e)];exact of_decide_eq_true hp
 | false =>
   rw [e] at hp
   rw [if_neg (fun h=>by rw [hx.2 h] at e;cases e)];exact of_decide_eq_true hp
theorem simple_from {x:L.Sq L.Pt} (h:∀ i k,i < k -> k < x.n -> L.meet (x.g i) (x.g (i+1)) (x.g k) (x.g (L.next x.n k))=(if k=i+1 \/ (i=0 /\ k+1=x.n) then 1 else 0)):L.simple x=true:=by
 unfold L.simple
 refine allB_iff.2 fun i hi=>allB_iff.2 fun k hk=>?_
 by_cases h1:i < k
 · rw [decide_eq_true h1]
   show L.okPair x i k=true
   have:=h i k h1 hk
   unfold L.okPair
   have hx:L.nxt x i k=true ↔ k=i+1 \/ (i=0 /\ k+1=x.n):=by
     unfold L.nxt
     rw [bor,Bool.or_eq_true,band,Bool.and_eq_true,decide_eq_true_eq,decide_eq_true_eq,decide_eq_true_eq]
     omega
   have this:L.how x i k=_:=this
   cases e:L.nxt x i k with
   | true=>rw [if_pos (hx.1 e)] at this;exact decide_eq_true this
   | false=>rw [if_neg (fun h=>by rw [hx.2 h] at e;cases e)] at this;exact decide_eq_true this
 · rw [decide_eq_false h1];rfl
theorem del_last {n:Nat} {g:Nat -> L.Pt} (hn:3 <= n) (hb:∀ k,k < n+1 -> L.bd (g k)) (h:L.simple ⟨n+1,g⟩=true) (h0:L.cross (g (n - 1)) (g n) (g 0)=0):L.simple ⟨n,g⟩=true:=by
 have P:∀ i k,i < k -> k < n+1 -> L.meet (g i) (g (i+1)) (g k) (g (if k+1=n+1 then 0 else k+1))=(if k=i+1 \/ (i=0 /\ k+1=n+1) then 1 else 0):=fun i k h1 h2=>by
   have:=pair_of h h1 h2
   rw [<- next_at (n:=n+1) h2];exact this
 have b0:=hb 0 (by omega)
 have bn:=hb n (by omega)
 have bp:=hb (n - 1) (by omega)
 have e1:n - 1+1=n:=by omega
 have t:=P (n - 1) n (by omega) (by omega)
 rw [if_pos (Or.inl (by omega)),if_pos rfl,e1] at t
 have hon:L.on (g (n - 1)) (g 0) (g n)=true:=flat_on bp bn b0 h0 t
 refine simple_from fun i k h1 h2=>?_
 have h2:k < n:=h2
 have bi:=hb i (by omega)
 have bi1:=hb (i+1) (by omega)
 show L.meet (g i) (g (i+1)) (g k) (g (L.next n k))=(if k=i+1 \/ (i=0 /\ k+1=n) then 1 else 0)
 rw [next_at h2]
 by_cases hk:k+1=n
 · rw [if_pos hk]
   obtain rfl:k=n - 1:=by omega
   have q1:=P i n (by omega) (by omega)
   rw [if_pos rfl] at q1
   have q2:=P i (n - 1) h1 (by omega)
   rw [if_neg (show ¬ n - 1+1=n+1 by omega),e1] at q2
   by_cases c1:n - 1=i+1
   · rw [if_pos (.inl c1)]
     rw [if_pos (.inl c1)] at q2
     rw [if_neg (by omega)] at q1
     rw [<- c1] at q1 q2 ⊢
     have s1:L.meet (g 0) (g n) (g (n - 1)) (g i)=0:=by rw [meet_rev2,meet_swap];exact q1
     have s2:L.meet (g n) (g (n - 1)) (g (n - 1)) (g i)=1:=by rw [meet_rev2,meet_swap];exact q2
     have:=merge_touch b0 bn bp bi (by rw [on_flip];exact hon) s1 s2
     rw [meet_rev2,meet_swap] at this
     exact this
   · rw [if_neg (by omega)] at q2
     by_cases c2:i=0
     · subst c2
       rw [if_pos (.inr ⟨rfl,e1⟩)]
       rw [if_pos (.inr ⟨rfl,rfl⟩)] at q1
       rw [<- meet_swap] at q1 q2 ⊢
       exact merge_touch bp bn b0 bi1 hon q2 q1
     · rw [if_neg (by omega)]
       rw [if_neg (by omega)] at q1
       rw [<- meet_swap] at q1 q2 ⊢
       exact merge_none bp bn b0 bi bi1 hon q2 q1
 · rw [if_neg hk]
   have:=P i k h1 (by omega)
   rw [if_neg (by omega)] at this
   rw [this]
   by_cases c:k=i+1
   · rw [if_pos (.inl c),if_pos (.inl c)]
   · rw [if_neg (by omega),if_neg (by omega)]
theorem tri_sharp {g:Nat -> L.Pt} (hb:∀ k,k < 3 -> L.bd (g k)) (h:L.simple ⟨3,g⟩=true) (hd:g 1 ≠ g 2 /\ g 0 ≠ g 2):L.cross (g 1) (g 2) (g 0) ≠ 0:=fun h0=>by
 have t:=pair_of h (i:=1) (k:=2) (by omega) (show 2 < 3 by omega)
 have u:=pair_of h (i:=0) (k:=1) (by omega) (show 1 < 3 by omega)
 rw [if_pos (.inl rfl)] at t u
 dsimp only at t u
 rw [show L.next 3 2=0 by decide] at t
 rw [show L.next 3 1=2 by decide] at u
 have t:L.meet (g 1) (g 2) (g 2) (g 0)=1:=t
 have u:L.meet (g 0) (g 1) (g 1) (g 2)=1:=u
 have hon:=flat_on (hb 1 (by omega)) (hb 2 (by omega)) (hb 0 (by omega)) h0 t
 obtain ⟨q,_,hu⟩:=meet_one.1 u
 have e1:=hu (g 1) (.inr (.inl ⟨on_left,rfl⟩))
 have e2:=hu (g 2) (.inr (.inr (.inr ⟨by rw [on_flip];exact hon,rfl⟩)))
 exact hd.1 (e1.trans e2.symm)
def L.ofL (l:List L.Pt):L.Sq L.Pt:=⟨l.length,fun k=>l.getD k ⟨0,0⟩⟩
theorem toL_ofL (l:List L.Pt):L.toL (L.ofL l)=l:=by
 apply List.ext_getElem?
 intro k
 rw [toL_get]
 show (if k < l.length then some (l.getD k ⟨0,0⟩) else none)=_
 by_cases h:k < l.length
 · rw [if_pos h,List.getD_eq_getElem?_getD,List.getElem?_eq_getElem h];rfl
 · rw [if_neg h,List.getElem?_eq_none (by omega)]
def L.fine (x:L.Sq L.Pt):Prop:=3 <= x.n /\ x.n <= 1000 /\ L.simple x=true /\ (L.toL x).Nodup /\ ∀ p,p ∈ L.toL x -> L.bd p
theorem fine_rot {x y:L.Sq L.Pt} (h:L.fine x) (r:Rot (L.toL x) (L.toL y)):L.fine y:=by
 obtain ⟨h3,hn,hs,hd,hb⟩:=h
 obtain ⟨e,_⟩:=rot_cy (by omega) r
 exact ⟨by omega,by omega,simple_rot (by omega) hs r,r.nodup hd,fun p hp=>hb p (r.mem.2 hp)⟩
theorem fine_step {x y:L.Sq L.Pt} (h:L.fine x) (s:Step L.Fl (L.toL x) (L.toL y)):L.fine y:=by
 obtain ⟨b,t,r1,hf,r2⟩:=s
 have r3:Rot (L.toL x) (L.toL (L.ofL (t ++ [b]))):=by
   rw [toL_ofL];exact r1.trans ⟨[b],t,rfl,rfl⟩
 obtain ⟨h3,hn,hs,hd,hb⟩:=fine_rot h r3
 rw [toL_ofL] at hd hb
 have hl:(L.ofL (t ++ [b])).n=t.length+1:=by simp [L.ofL]
 have gb:∀ k,k < t.length+1 -> L.bd ((t ++ [b]).getD k ⟨0,0⟩):=fun k hk=>hb _ (by
   rw [List.getD_eq_getElem?_getD,List.getElem?_eq_getElem (by simp;omega)]
   exact List.getElem_mem _)
 have glast:(t ++ [b]).getD t.length ⟨0,0⟩=b:=by
   simp [List.getD_eq_getElem?_getD]
 have gt:∀ k,k < t.length -> (t ++ [b]).getD k ⟨0,0⟩=t.getD k ⟨0,0⟩:=fun k hk=>by
   rw [List.getD_eq_getElem?_getD,List.getD_eq_getElem?_getD,List.getElem?_append_left hk]
 rw [hl] at h3 hn
 have h0:L.cross ((t ++ [b]).getD (t.length - 1) ⟨0,0⟩) ((t ++ [b]).getD t.length ⟨0,0⟩) ((t ++ [b]).getD 0 ⟨0,0⟩)=0:=by
   rw [glast,gt _ (by omega),gt 0 (by omega)]
   have e1:t.getLastD b=t.getD (t.length - 1) ⟨0,0⟩:=by
     rw [List.getD_eq_getElem?_getD,List.getElem?_eq_getElem (by omega),List.getLastD_eq_getLast?,List.getLast?_eq_getElem?,List.getElem?_eq_getElem (by omega)];rfl
   have e2:t.headD b=t.getD 0 ⟨0,0⟩:=by
     cases t with
     | nil=>simp at h3
     | cons c r=>rfl
   rw [<- e1,<- e2];exact hf
 have hs':L.simple ⟨t.length+1,fun k=>(t ++ [b]).getD k ⟨0,0⟩⟩=true:=by rw [<- hl];exact hs
 have h4:3 <= t.length:=by
   rcases Nat.lt_or_ge 2 t.length with g | g
   · exact g
   · exfalso
     have e:t.length=2:=by omega
     match t,e with
     | [c,d],_ =>
       have hd':¬ (c=d \/ c=b) /\ ¬ d=b:=by simpa using hd
       exact tri_sharp (g:=fun k=>([c,d] ++ [b]).getD k ⟨0,0⟩) gb hs' ⟨hd'.2,fun e=>hd'.1 (.inr e)⟩ h0
 have h5:=del_last h4 gb hs' h0
 have e5:L.toL ⟨t.length,fun k=>(t ++ [b]).getD k ⟨0,0⟩⟩=t:=by
   apply List.ext_getElem?
   intro k
   rw [toL_get]
   show (if k < t.length then some ((t ++ [b]).getD k ⟨0,0⟩) else none)=_
   by_cases h:k < t.length
   · rw [if_pos h,gt k h,List.getD_eq_getElem?_getD,List.getElem?_eq_getElem h];rfl
   · rw [if_neg h,List.getElem?_eq_none (by omega)]
 have hfin:L.fine ⟨t.length,fun k=>(t ++ [b]).getD k ⟨0,0⟩⟩:=⟨h4,by show t.length <= 1000;omega,h5,by rw [e5];exact (List.nodup_append.1 hd).1,fun p hp=>hb p (by rw [e5] at hp;exact List.mem_append.2 (.inl hp))⟩
 exact fine_rot hfin (by rw [e5];exact r2)
theorem fine_thin {c:L.Pt -> L.Pt -> L.Pt -> Bool} (hc:∀ a b d,c a b d=true -> L.Fl a b d) {x:L.Sq L.Pt} (h:L.fine x):L.fine (L.thin c x) :=
 thin_ind (Q:=L.fine) (fun _ _ h hi he=>fine_step h (out_step hc hi he)) h
theorem part_simple {x:L.Sq L.Pt} (hs:L.simple x=true) {d:Nat} (h2:2 <= d) (hd:d+2 <= x.n)
   (hdi:∀ m,m < x.n -> L.meet (x.g 0) (x.g d) (x.g m) (x.g (L.next x.n m))=(if m=0 \/ m=d \/ m+1=d \/ m+1=x.n then 1 else 0)):L.simple ⟨d+1,x.g⟩=true:=by
 refine simple_from fun i k h1 h3=>?_
 have h3:k < d+1:=h3
 show L.meet (x.g i) (x.g (i+1)) (x.g k) (x.g (L.next (d+1) k))=(if k=i+1 \/ (i=0 /\ k+1=d+1) then 1 else 0)
 rw [next_at h3]
 by_cases hk:k=d
 · subst hk
   rw [if_pos rfl,<- meet_swap,meet_rev]
   have:=hdi i (by omega)
   rw [next_at (by omega),if_neg (by omega)] at this
   rw [this]
   by_cases c:i=0 \/ i+1=k
   · rw [if_pos (by omega),if_pos (by omega)]
   · rw [if_neg (by omega),if_neg (by omega)]
 · rw [if_neg (by omega)]
   have:=pair_of hs h1 (show k < x.n by omega)
   rw [next_at (by omega),if_neg (by omega)] at this
   rw [this]
   by_cases c:k=i+1
   · rw [if_pos (.inl c),if_pos (.inl c)]
   · rw [if_neg (by omega),if_neg (by omega)]
end Go.Proofs.YtinfalehnaejbaaGreat
namespace Go.Proofs.YtinfalehnaejbaaGreat
open Go.SE Go.RowKit
set_option maxRecDepth 100000
set_option maxHeartbeats 4000000
set_option linter.unusedVariables false
attribute [local irreducible] vc
def L.newP (l:L.Sq L.Pt) (i:Nat):Bool:=bif decide (i=0) then true else !L.same (l.g i) (l.g (i - 1))
def L.cptN (l:L.Sq L.Pt):Nat:=L.cnt (L.newP l) l.n
def L.cptG (l:L.Sq L.Pt) (i:Nat):L.Pt:=bif decide (i < L.cptN l) then l.g (L.selN (L.newP l) l.n i) else ⟨0,0⟩
def L.cpt (l:L.Sq L.Pt):L.Sq L.Pt:=⟨L.cptN l,L.cptG l⟩
def L.cptW (l:L.Sq L.Pt) (j:Nat) (i:Nat):L.Pt:=bif decide (i < L.cnt (L.newP l) j) then l.g (L.selN (L.newP l) j i) else l.g i
theorem all_new {p:Nat -> Bool}:∀ {k:Nat},(∀ j,j < k -> p j=true) -> L.cnt p k=k /\ ∀ i,i < k -> L.selN p k i=i
 | 0,_=>⟨rfl,fun i hi=>absurd hi (Nat.not_lt_zero _)⟩
 | k+1,h=>by
   obtain ⟨h1,h2⟩:=all_new (p:=p) (k:=k) (fun j hj=>h j (by omega))
   have hk:=h k (by omega)
   refine ⟨by rw [cnt_yes hk,h1],fun i hi=>?_⟩
   by_cases e:i=k
   · subst e
     have:=selN_new hk
     rwa [h1] at this
   · rw [selN_old (by omega),h2 i (by omega)]
theorem cptW_first {l:L.Sq L.Pt} {k:Nat} (h:∀ j,j < k -> L.newP l j=true) (i:Nat):L.cptW l k i=l.g i:=by
 obtain ⟨h1,h2⟩:=all_new h
 unfold L.cptW
 rw [h1]
 by_cases hi:i < k
 · rw [decide_eq_true hi,h2 i hi];rfl
 · rw [decide_eq_false hi];rfl
theorem cptW_yes {l:L.Sq L.Pt} {j:Nat} (h:L.newP l j=true) (i:Nat):L.cptW l (j+1) i=if i=L.cnt (L.newP l) j then l.g j else L.cptW l j i:=by
 unfold L.cptW
 rw [cnt_yes h]
 by_cases e:i=L.cnt (L.newP l) j
 · rw [if_pos e,decide_eq_true (by omega),e,selN_new h];rfl
 · rw [if_neg e]
   by_cases hi:i < L.cnt (L.newP l) j
   · rw [decide_eq_true hi,decide_eq_true (show i < L.cnt (L.newP l) j+1 by omega),selN_old e]
   · rw [decide_eq_false hi,decide_eq_false (show ¬ i < L.cnt (L.newP l) j+1 by omega)];rfl
theorem cptW_not {l:L.Sq L.Pt} {j:Nat} (h:L.newP l j=false) (i:Nat):L.cptW l (j+1) i=L.cptW l j i:=by
 unfold L.cptW
 rw [cnt_not h,selN_not h]
theorem cptW_at {l:L.Sq L.Pt} {j i:Nat} (h:L.cnt (L.newP l) j <= i):L.cptW l j i=l.g i:=by
 unfold L.cptW;rw [decide_eq_false (by omega)];rfl
def L.wrapP (l:L.Sq L.Pt) (i:Nat):Bool:=bif L.same (L.wrapAt l.g l.n (L.plc l 0) (i+1)) (L.plc l 0) then true else decide ((400:Int) < ((i+1:Nat):Int))
def L.wrapN (l:L.Sq L.Pt):Nat:=(L.idx 401 (L.wrapP l)).toNat+1
def L.wrapG (l:L.Sq L.Pt) (k:Nat):L.Pt:=L.wrapAt l.g l.n (L.plc l 0) k
theorem plc_in {l:L.Sq L.Pt} (h1:1 <= l.n):∃ j,j < l.n /\ L.plc l 0=l.g j:=by
 obtain ⟨_,h2,_⟩:=argTo_min l (l.n - 1)
 rw [show l.n - 1+1=l.n by omega] at h2
 refine ⟨L.fstK l,by unfold L.fstK;omega,?_⟩
 unfold L.plc L.rot
 dsimp only
 rw [decide_eq_true (by unfold L.fstK;omega)];rfl
theorem plc_min {l:L.Sq L.Pt} (h1:1 <= l.n):L.plc l 0=L.minTo l (l.n - 1):=by
 obtain ⟨h0,h2,_⟩:=argTo_min l (l.n - 1)
 rw [show l.n - 1+1=l.n by omega] at h0 h2
 rw [<- h0]
 unfold L.plc L.rot
 dsimp only
 rw [decide_eq_true (by unfold L.fstK;omega)];rfl
theorem idx_spec {f:Nat -> Bool}:∀ {n:Nat},(L.idx n f = -1 /\ ∀ j,j < n -> f j=false) \/ ∃ i:Nat,i < n /\ L.idx n f=(i:Int) /\ f i=true /\ ∀ j,j < i -> f j=false
 | 0=>.inl ⟨rfl,fun j hj=>absurd hj (Nat.not_lt_zero _)⟩
 | n+1=>by
   rcases idx_spec (f:=f) (n:=n) with ⟨h1,h2⟩ | ⟨i,h1,h2,h3,h4⟩
   · cases hf:f n with
     | true=>exact .inr ⟨n,Nat.lt_succ_self n,by simp [L.idx,h1,hf],hf,h2⟩
     | false =>
       refine .inl ⟨by simp [L.idx,h1,hf],fun j hj=>?_⟩
       rcases Nat.lt_succ_iff_lt_or_eq.1 hj with h | rfl
       · exact h2 j h
       · exact hf
   · exact .inr ⟨i,by omega,by simp [L.idx,h2],h3,h4⟩
theorem wrapN_at {l:L.Sq L.Pt} {g:Nat} (hg:g <= 400) (h0:∀ i,i < g -> L.wrapP l i=false) (h1:L.wrapP l g=true):L.wrapN l=g+1:=by
 have:L.idx 401 (L.wrapP l)=(g:Int):=by
   rcases idx_spec (f:=L.wrapP l) (n:=401) with ⟨_,h⟩ | ⟨i,hi,e,h2,h3⟩
   · rw [h g (by omega)] at h1;cases h1
   · rw [e]
     rcases Nat.lt_trichotomy i g with q | q | q
     · rw [h0 i q] at h2;cases h2
     · rw [q]
     · rw [h3 g q] at h1;cases h1
 unfold L.wrapN;rw [this,Int.toNat_natCast]
def L.hlE (l:L.Sq L.Pt) (m:Nat):Int:=bif (bif decide (400 < (l.n:Int)) then true else !L.validPts l) then 1 else bif L.flat l then 11 else bif decide (24 < (m:Int)) then 2 else 0
theorem lePt_sle {a b:L.Pt}:L.lePt a b ↔ L.sle 1 a b:=by
 unfold L.lePt L.sle L.vn
 rw [cmpPt_le,Int.one_mul,Int.one_mul];omega
structure L.CptOk (l:L.Sq L.Pt) (j:Nat):Prop where
 lt:∀ i,i < L.cnt (L.newP l) j -> L.selN (L.newP l) j i < j
 all:∀ q,q < j -> ∃ i,i < L.cnt (L.newP l) j /\ l.g (L.selN (L.newP l) j i)=l.g q
 asc:∀ i k,i < k -> k < L.cnt (L.newP l) j -> L.slt 1 (l.g (L.selN (L.newP l) j i)) (l.g (L.selN (L.newP l) j k))
 last:0 < j -> 0 < L.cnt (L.newP l) j /\ l.g (L.selN (L.newP l) j (L.cnt (L.newP l) j - 1))=l.g (j - 1)
theorem cpt_ok {l:L.Sq L.Pt} (h:∀ i,i+1 < l.n -> L.sle 1 (l.g i) (l.g (i+1))):∀ j,j <= l.n -> L.CptOk l j
 | 0,_=>⟨fun i hi=>absurd hi (Nat.not_lt_zero _),fun q hq=>absurd hq (Nat.not_lt_zero _),fun i k _ hk=>absurd hk (Nat.not_lt_zero _),fun h=>absurd h (Nat.lt_irrefl _)⟩
 | j+1,hj=>by
   obtain ⟨h1,h2,h3,h4⟩:=cpt_ok h j (by omega)
   cases hp:L.newP l j with
   | true =>
     have hc:=cnt_yes hp
     have hn:=selN_new hp
     have ho:∀ i,i < L.cnt (L.newP l) j -> L.selN (L.newP l) (j+1) i=L.selN (L.newP l) j i:=fun i hi=>selN_old (by omega)
     refine ⟨fun i hi=>?_,fun q hq=>?_,fun i k hik hk=>?_,fun _=>?_⟩
     · rw [hc] at hi
       by_cases e:i=L.cnt (L.newP l) j
       · rw [e,hn];omega
       · rw [ho i (by omega)];have:=h1 i (by omega);omega
     · by_cases e:q=j
       · exact ⟨L.cnt (L.newP l) j,by omega,by rw [hn,e]⟩
       · obtain ⟨i,hi,e2⟩:=h2 q (by omega)
         exact ⟨i,by omega,by rw [ho i hi];exact e2⟩
     · rw [hc] at hk
       by_cases e:k=L.cnt (L.newP l) j
       · subst e
         rw [ho i hik,hn]
         have h0:0 < j:=by
           rcases Nat.eq_zero_or_pos j with g | g
           · subst g;exact absurd hik (Nat.not_lt_zero _)
           · exact g
         obtain ⟨l1,l2⟩:=h4 h0
         have hlt:L.slt 1 (l.g (j - 1)) (l.g j):=by
           have hle:=h (j - 1) (by omega)
           rw [show j - 1+1=j by omega] at hle
           rcases sle_or (.inl rfl) hle with g | g
           · exfalso
             unfold L.newP at hp
             rw [decide_eq_false (by omega),cond_false,g,same_refl] at hp
             cases hp
           · exact g
         by_cases e2:i=L.cnt (L.newP l) j - 1
         · rw [e2,l2];exact hlt
         · have:=h3 i (L.cnt (L.newP l) j - 1) (by omega) (by omega)
           rw [l2] at this
           exact slt_trans this hlt
       · rw [ho i (by omega),ho k (by omega)];exact h3 i k hik (by omega)
     · rw [hc,Nat.add_sub_cancel,hn];exact ⟨Nat.succ_pos _,rfl⟩
   | false =>
     have hc:=cnt_not hp
     have ho:∀ i,L.selN (L.newP l) (j+1) i=L.selN (L.newP l) j i:=fun i=>selN_not hp
     have h0:0 < j:=by
       rcases Nat.eq_zero_or_pos j with g | g
       · subst g;exact absurd (show L.newP l 0=true from rfl) (by rw [hp];exact Bool.noConfusion)
       · exact g
     have hs:l.g j=l.g (j - 1):=by
       unfold L.newP at hp
       rw [decide_eq_false (by omega),cond_false] at hp
       exact same_eq (notF hp)
     obtain ⟨l1,l2⟩:=h4 h0
     refine ⟨fun i hi=>?_,fun q hq=>?_,fun i k hik hk=>?_,fun _=>?_⟩
     · rw [ho];rw [hc] at hi;have:=h1 i hi;omega
     · by_cases e:q=j
       · exact ⟨L.cnt (L.newP l) j - 1,by omega,by rw [ho,l2,e,hs]⟩
       · obtain ⟨i,hi,e2⟩:=h2 q (by omega)
         exact ⟨i,by omega,by rw [ho];exact e2⟩
     · rw [ho,ho];exact h3 i k hik (by omega)
     · rw [hc,ho];exact ⟨l1,by rw [l2,Nat.add_sub_cancel,hs]⟩
theorem sorted_le {l:L.Sq L.Pt} {i:Nat} (h:i+1 < l.n):L.sle 1 ((L.sorted l).g i) ((L.sorted l).g (i+1)):=by
 have hl:(L.isortPt (L.listPt l)).length=l.n:=by rw [(isortPt_perm _).length_eq];simp [L.listPt]
 have:=List.pairwise_iff_getElem.1 (isortPt_asc (L.listPt l)) i (i+1) (by omega) (by omega) (Nat.lt_succ_self _)
 rw [lePt_sle] at this
 show L.sle 1 ((L.isortPt (L.listPt l)).getD i ⟨0,0⟩) ((L.isortPt (L.listPt l)).getD (i+1) ⟨0,0⟩)
 rw [List.getD_eq_getElem?_getD,List.getD_eq_getElem?_getD,List.getElem?_eq_getElem (by omega),List.getElem?_eq_getElem (by omega)]
 exact this
theorem sorted_all (l:L.Sq L.Pt) {i:Nat} (hi:i < l.n):∃ k,k < l.n /\ (L.sorted l).g k=l.g i:=by
 have hl:(L.isortPt (L.listPt l)).length=l.n:=by rw [(isortPt_perm _).length_eq];simp [L.listPt]
 have hm:l.g i ∈ L.isortPt (L.listPt l):=(isortPt_perm _).mem_iff.2 (List.mem_map.2 ⟨i,List.mem_range.2 hi,rfl⟩)
 obtain ⟨k,hk,e⟩:=List.getElem_of_mem hm
 refine ⟨k,by omega,?_⟩
 show (L.isortPt (L.listPt l)).getD k ⟨0,0⟩=_
 rw [List.getD_eq_getElem?_getD,List.getElem?_eq_getElem hk];exact e
theorem cpt_sorted (l:L.Sq L.Pt):(∀ i k,i < k -> k < (L.cpt (L.sorted l)).n -> L.slt 1 ((L.cpt (L.sorted l)).g i) ((L.cpt (L.sorted l)).g k)) /\ (∀ i,i < (L.cpt (L.sorted l)).n -> ∃ j,j < l.n /\ (L.cpt (L.sorted l)).g i=l.g j) /\ (∀ j,j < l.n -> ∃ i,i < (L.cpt (L.sorted l)).n /\ (L.cpt (L.sorted l)).g i=l.g j) /\ (L.cpt (L.sorted l)).n <= l.n:=by
 obtain ⟨h1,h2,h3,_⟩:=cpt_ok (l:=L.sorted l) (fun i hi=>sorted_le hi) l.n (Nat.le_refl _)
 have e:∀ i,i < L.cptN (L.sorted l) -> (L.cpt (L.sorted l)).g i=(L.sorted l).g (L.selN (L.newP (L.sorted l)) l.n i):=fun i hi=>by
   show L.cptG (L.sorted l) i=_
   unfold L.cptG
   rw [decide_eq_true hi];rfl
 refine ⟨fun i k hik hk=>?_,fun i hi=>?_,fun j hj=>?_,cnt_le⟩
 · have hk:k < L.cptN (L.sorted l):=hk
   rw [e i (by omega),e k hk];exact h3 i k hik hk
 · obtain ⟨j,hj,e2⟩:=sorted_mem l (h1 i hi)
   exact ⟨j,hj,(e i hi).trans e2⟩
 · obtain ⟨k,hk,e2⟩:=sorted_all l hj
   obtain ⟨i,hi,e3⟩:=h2 k hk
   exact ⟨i,hi,((e i hi).trans e3).trans e2⟩
theorem cpt_two {l:L.Sq L.Pt} (h:L.two2 l):2 <= (L.cpt (L.sorted l)).n:=by
 obtain ⟨i,j,hi,hj,hne⟩:=h
 obtain ⟨_,_,h3,_⟩:=cpt_sorted l
 obtain ⟨a,ha,ea⟩:=h3 i hi
 obtain ⟨b,hb,eb⟩:=h3 j hj
 have:a ≠ b:=fun e=>hne (by rw [<- ea,<- eb,e])
 omega
theorem flat_small {l:L.Sq L.Pt} (h:l.n < 3):L.flat l=true:=by
 by_cases hall:∀ j,j < l.n -> l.g j=l.g 0
 · exact flat_all hall
 · have h2 : l.n = 2 := by
     by_cases h0:l.n=2
     · exact h0
     · exact absurd (fun j hj=>by rw [show j=0 by omega]) hall
   have hne:l.g 1 ≠ l.g 0:=fun e=>hall (fun j hj=>by
     rcases (show j=0 \/ j=1 by omega) with rfl | rfl
     · rfl
     · exact e)
   have hf:=far_at (l:=l) (k:=1) (by omega) (fun j hj=>by rw [show j=0 by omega]) hne
   unfold L.flat
   rw [hf,decide_eq_false (show ¬ ((1:Nat):Int) < 0 by omega),cond_false,anyB_no (fun i hi=>?_)]
   · rfl
   · rcases (show i=0 \/ i=1 by omega) with rfl | rfl
     · show (!decide (L.cross (l.g 0) (l.g 1) (l.g 0)=0))=false
       rw [decide_eq_true (cross_beg _ _)];rfl
     · show (!decide (L.cross (l.g 0) (l.g 1) (l.g 1)=0))=false
       rw [decide_eq_true (cross_end _ _)];rfl
abbrev s_cptP_tr:Tr:={ T:=(L.Sq L.Pt),U:=Nat,args:=fun t=>(fun l=>[.row 1022]) t,own:=fun t=>(fun l=>[(1022,.row 34 2 l.n (fun k=>[.int .i64 ((l.g k).x),.int .i64 ((l.g k).y)]))]) t,pre:=fun t=>(fun l=>l.n <= 1000000) t,post:=fun t u=>(fun l=>fun u=>True) t u,own':=fun t u=>(fun l=>fun u=>[(1022,.row 34 2 l.n (fun k=>[.int .i64 ((L.cptG l k).x),.int .i64 ((L.cptG l k).y)]))]) t u,res:=fun t u=>(fun l=>fun u=>.rsub 1022 2 0 (L.cptN l)) t u }
theorem s_cptP_vc (l:L.Sq L.Pt) (hp:s_cptP_tr.pre l):vc Tryz.prog ({ muts:=[],frz:=lookN [],specs:=lookS [],loops:=lookL [(4,{ T:=Nat,keep:=[0],keepO:=[1022],chg:=fun k=>[(3,.p (.int .i64 (k:Int)))],own:=fun _=>[],inv:=fun k=>1 <= k /\ k <= l.n /\ ∀ j,j < k -> L.newP l j=true,mu:=fun k=>l.n - k }),(9,{ T:=Nat × Nat,keep:=[0],keepO:=[],chg:=fun g=>[(3,.p (.int .i64 (L.cnt (L.newP l) g.2:Int))),(4,.rsub 1022 2 g.1 (l.n - g.1)),(5,.p (.int .i64 ((g.2:Int) - (g.1:Int))))],own:=fun g=>[(1022,.row 34 2 l.n (fun k=>[.int .i64 ((L.cptW l g.2 k).x),.int .i64 ((L.cptW l g.2 k).y)]))],inv:=fun g=>1 <= g.1 /\ g.1 < g.2 /\ g.2 <= l.n /\ L.cnt (L.newP l) g.2 < g.2,mu:=fun g=>l.n - g.2 })],iters:=lookI [],rfs:=lookR [],nils:=lookM [] }) (bodyOf Tryz.f22) (stTr Tryz.f22 (s_cptP_tr.args l) (s_cptP_tr.own l)) (retTr Tryz.prog Tryz.f22 s_cptP_tr l) :=
 @Eq.mpr _ (let I:=SV.int .i64;let T:=Int.toNat;let A16:=(1:Nat);let A15:=((0:Nat)=(0:Nat) /\ L.cptN l=l.n);let A13:=(L.newP l);let A11:=(0:Int);let A10:=(l.n=l.n /\ ∀ (i:Nat),i < l.n -> [I (l.g i).x,I (l.g i).y] = [I (L.cptG l i).x,I (L.cptG l i).y]);let A8:=(1:Int);let A6:=(↑l.n:Int);(decide (A6 < (2:Int))=true -> ∃ (u:Nat),A15 /\ A10 /\ True) /\ (decide (A6 < (2:Int))=false -> (∃ (g:Nat),A8=(↑g:Int) /\ A16 <= g /\ g <= l.n /\ ∀ (j:Nat),j < g -> L.newP l j=true) /\ ∀ (g:Nat),let A7:=(↑g:Int);let A20:=(A7 - A8);let A5:=(decide ((l.g (T A7)).x=(l.g (T A20)).x) && decide ((l.g (T A7)).y=(l.g (T A20)).y));(A16 <= g /\ g <= l.n /\ ∀ (j:Nat),j < g -> L.newP l j=true) -> (decide (A7 < A6)=true -> (A11 <= A7 /\ A7 < A6) /\ T A7 < l.n /\ InK .i64 A20 /\ (A11 <= A7 - A8 /\ A7 - A8 < A6) /\ T A20 < l.n /\ (A5=true -> (A11 <= A7 /\ A7 <= A6 /\ A6 <= A6) /\ (∃ (g_1:Nat × Nat),A7=(↑(L.cnt A13 g_1.2):Int) /\ (T A7=g_1.1 /\ T (A6 - A7)=l.n - g_1.1) /\ A8=(↑g_1.2:Int) - (↑g_1.1:Int) /\ (l.n=l.n /\ ∀ (i:Nat),i < l.n -> [I (l.g i).x,I (l.g i).y] = [I (L.cptW l g_1.2 i).x,I (L.cptW l g_1.2 i).y]) /\ A16 <= g_1.1 /\ g_1.1 < g_1.2 /\ g_1.2 <= l.n /\ L.cnt A13 g_1.2 < g_1.2) /\ ∀ (g_1:Nat × Nat),let A12:=(↑(l.n - g_1.1):Int);let A4:=(↑g_1.1:Int);let A3:=(↑g_1.2:Int);let A19:=(A3 - A4 - A8);let A17:=(A11 <= A3 - A4 /\ A3 - A4 < A12);let A14:=(L.cptW l g_1.2 (g_1.1+T A19));let A9:=(L.cptW l g_1.2 (g_1.1+T (A3 - A4)));let A2:=(!(decide (A9.x=A14.x) && decide (A9.y=A14.y)));let A1:=(↑(L.cnt A13 g_1.2):Int);A16 <= g_1.1 /\ g_1.1 < g_1.2 /\ g_1.2 <= l.n /\ L.cnt A13 g_1.2 < g_1.2 -> (decide (A3 - A4 < A12)=true -> A17 /\ g_1.1+T (A3 - A4) < l.n /\ InK .i64 A19 /\ (A11 <= A3 - A4 - A8 /\ A3 - A4 - A8 < A12) /\ g_1.1+T A19 < l.n /\ (A2=true -> A17 /\ g_1.1+T (A3 - A4) < l.n /\ (A11 <= A1 /\ A1 < A6) /\ T A1 < l.n /\ InK .i64 (A1+A8) /\ InK .i64 (A3 - A4+A8) /\ ∃ (g':Nat × Nat),A1+A8=(↑(L.cnt A13 g'.2):Int) /\ (g_1.1=g'.1 /\ l.n - g_1.1=l.n - g'.1) /\ A3 - A4+A8=(↑g'.2:Int) - (↑g'.1:Int) /\ (l.n=l.n /\ ∀ (i:Nat),i < l.n -> setRow (fun (k:Nat)=>[I (L.cptW l g_1.2 k).x,I (L.cptW l g_1.2 k).y]) (T A1) (nat_lit 0) [I A9.x,I A9.y] i = [I (L.cptW l g'.2 i).x,I (L.cptW l g'.2 i).y]) /\ (A16 <= g'.1 /\ g'.1 < g'.2 /\ g'.2 <= l.n /\ L.cnt A13 g'.2 < g'.2) /\ l.n - g'.2 < l.n - g_1.2) /\ (A2=false -> InK .i64 (A3 - A4+A8) /\ ∃ (g':Nat × Nat),A1=(↑(L.cnt A13 g'.2):Int) /\ (g_1.1=g'.1 /\ l.n - g_1.1=l.n - g'.1) /\ A3 - A4+A8=(↑g'.2:Int) - (↑g'.1:Int) /\ (l.n=l.n /\ ∀ (i:Nat),i < l.n -> [I (L.cptW l g_1.2 i).x,I (L.cptW l g_1.2 i).y] = [I (L.cptW l g'.2 i).x,I (L.cptW l g'.2 i).y]) /\ (A16 <= g'.1 /\ g'.1 < g'.2 /\ g'.2 <= l.n /\ L.cnt A13 g'.2 < g'.2) /\ l.n - g'.2 < l.n - g_1.2)) /\ (decide (A3 - A4 < A12)=false -> (A11 <= A1 /\ A1 <= A6 /\ A6 <= A6) /\ T A1+T (A6 - A1) <= l.n /\ (A11 <= A11 /\ A11 <= A1 /\ A1 <= A6) /\ ∃ (u:Nat),(nat_lit 0=(0:Nat) /\ T (A1 - A11)=L.cptN l) /\ (l.n=l.n /\ ∀ (i:Nat),i < l.n -> clrGet (T A1) (T (A6 - A1)) [I A11,I A11] (fun (k:Nat)=>[I (L.cptW l g_1.2 k).x,I (L.cptW l g_1.2 k).y]) i = [I (L.cptG l i).x,I (L.cptG l i).y]) /\ True)) /\ (A5=false -> InK .i64 (A7+A8) /\ ∃ (g':Nat),A7+A8=(↑g':Int) /\ (l.n=l.n /\ ∀ (i:Nat),let A18:=[I (l.g i).x,I (l.g i).y];i < l.n -> A18=A18) /\ (A16 <= g' /\ g' <= l.n /\ ∀ (j:Nat),j < g' -> L.newP l j=true) /\ l.n - g' < l.n - g)) /\ (decide (A7 < A6)=false -> ∃ (u:Nat),A15 /\ A10 /\ True))) (by kernel_rfl) (by
 conv=>zeta
 have hn:l.n <= 1000000:=hp
 have hN:∀ j,1 <= j -> L.newP l j = !L.same (l.g j) (l.g (j - 1)):=fun j hj=>by
   unfold L.newP;rw [decide_eq_false (by omega)];rfl
 have full:(∀ j,j < l.n -> L.newP l j=true) -> ∃ u:Nat,(0=0 /\ L.cptN l=l.n) /\ (l.n=l.n /\ ∀ i:Nat,i < l.n -> [SV.int .i64 (l.g i).x,SV.int .i64 (l.g i).y] = [SV.int .i64 (L.cptG l i).x,SV.int .i64 (L.cptG l i).y]) /\ True:=fun h=>by
   obtain ⟨c1,c2⟩:=all_new h
   refine ⟨(0:Nat),⟨rfl,c1⟩,⟨rfl,fun i hi=>?_⟩,trivial⟩
   have:L.cptG l i=l.g i:=by
     unfold L.cptG L.cptN;rw [c1,decide_eq_true hi,c2 i hi];rfl
   rw [this]
 refine ⟨fun h=>full (fun j hj=>?_),fun h=>⟨⟨1,rfl,Nat.le_refl _,?_,fun j hj=>?_⟩,fun g hg=>⟨fun hlt=>?_,fun hge=>?_⟩⟩⟩
 · have h:=of_decide_eq_true h
   rw [show j=0 by omega];rfl
 · have h:=of_decide_eq_false h
   omega
 · rw [show j=0 by omega];rfl
 rotate_left
 · have hge:¬ (g:Int) < (l.n:Int):=of_decide_eq_false hge
   exact full (fun j hj=>hg.2.2 j (by omega))
 have hlt:(g:Int) < (l.n:Int):=of_decide_eq_true hlt
 obtain ⟨g1,g2,g3⟩:=hg
 have e0:((g:Int)).toNat=g:=Int.toNat_natCast g
 have e1:((g:Int) - 1).toNat=g - 1:=by omega
 rw [e0,e1]
 refine ⟨⟨by omega,hlt⟩,by omega,iK,⟨by omega,by omega⟩,by omega,fun hd=>?_,fun hd=>?_⟩
 rotate_left
 · have hd:L.same (l.g g) (l.g (g - 1))=false:=hd
   have hp0:L.newP l g=true:=by rw [hN g g1,hd];rfl
   refine ⟨iK,g+1,rfl,⟨rfl,fun _ _=>rfl⟩,⟨by omega,by omega,fun j hj=>?_⟩,by omega⟩
   rcases Nat.lt_succ_iff_lt_or_eq.1 hj with h' | rfl
   · exact g3 j h'
   · exact hp0
 have hd:L.same (l.g g) (l.g (g - 1))=true:=hd
 have hp0:L.newP l g=false:=by rw [hN g g1,hd];rfl
 have hcg:L.cnt (L.newP l) g=g:=(all_new g3).1
 have hc1:L.cnt (L.newP l) (g+1)=g:=by rw [cnt_not hp0,hcg]
 refine ⟨⟨by omega,by omega,Int.le_refl _⟩,⟨(g,g+1),by rw [hc1],⟨rfl,by omega⟩,by show (1:Int)=((g+1:Nat):Int) - (g:Int);omega,⟨rfl,fun i hi=>?_⟩,g1,by show g < g+1;omega,by show g+1 <= l.n;omega,by show L.cnt (L.newP l) (g+1) < g+1;omega⟩,fun q hq=>?_⟩
 · rw [cptW_not hp0,cptW_first g3]
 obtain ⟨k0,j⟩:=q
 obtain ⟨h1,h2,h3,h4⟩:=hq
 dsimp only at h1 h2 h3 h4 ⊢
 have e2:k0+((j:Int) - (k0:Int)).toNat=j:=by omega
 have e3:k0+((j:Int) - (k0:Int) - 1).toNat=j - 1:=by omega
 have e4:((L.cnt (L.newP l) j:Nat):Int).toNat=L.cnt (L.newP l) j:=Int.toNat_natCast _
 rw [e2,e3,e4,cptW_at (show L.cnt (L.newP l) j <= j by omega),cptW_at (show L.cnt (L.newP l) j <= j - 1 by omega)]
 refine ⟨fun hj=>?_,fun hj=>?_⟩
 · have hj:(j:Int) - (k0:Int) < ((l.n - k0:Nat):Int):=of_decide_eq_true hj
   have hjn:j < l.n:=by omega
   refine ⟨⟨by omega,hj⟩,by omega,iK,⟨by omega,by omega⟩,by omega,fun hd2=>?_,fun hd2=>?_⟩
   · have hp1:L.newP l j=true:=(hN j (by omega)).trans hd2
     have hc2:=cnt_yes hp1
     refine ⟨⟨by omega,hj⟩,by omega,⟨by omega,by omega⟩,by omega,iK,iK,(k0,j+1),by show _=((L.cnt (L.newP l) (j+1):Nat):Int);omega,⟨rfl,rfl⟩,by show _=((j+1:Nat):Int) - (k0:Int);omega,⟨rfl,fun i hi=>?_⟩,⟨h1,by show k0 < j+1;omega,by show j+1 <= l.n;omega,by show L.cnt (L.newP l) (j+1) < j+1;omega⟩,by show l.n - (j+1) < l.n - j;omega⟩
     rw [cptW_yes hp1]
     unfold setRow
     by_cases eq:i=L.cnt (L.newP l) j
     · rw [if_pos eq,if_pos eq];rfl
     · rw [if_neg eq,if_neg eq]
   · have hp1:L.newP l j=false:=(hN j (by omega)).trans hd2
     have hc2:=cnt_not hp1
     refine ⟨iK,(k0,j+1),by show _=((L.cnt (L.newP l) (j+1):Nat):Int);omega,⟨rfl,rfl⟩,by show _=((j+1:Nat):Int) - (k0:Int);omega,⟨rfl,fun i hi=>by rw [cptW_not hp1]⟩,⟨h1,by show k0 < j+1;omega,by show j+1 <= l.n;omega,by show L.cnt (L.newP l) (j+1) < j+1;omega⟩,by show l.n - (j+1) < l.n - j;omega⟩
 · have hj:¬ (j:Int) - (k0:Int) < ((l.n - k0:Nat):Int):=of_decide_eq_false hj
   obtain rfl:j=l.n:=by omega
   have e5:((l.n:Int) - ((L.cnt (L.newP l) l.n:Nat):Int)).toNat=l.n - L.cnt (L.newP l) l.n:=by omega
   refine ⟨⟨by omega,by omega,Int.le_refl _⟩,by omega,⟨by omega,by omega,by omega⟩,(0:Nat),⟨rfl,by show (((L.cnt (L.newP l) l.n:Nat):Int) - 0).toNat=L.cnt (L.newP l) l.n;omega⟩,⟨rfl,fun i hi=>?_⟩,trivial⟩
   rw [e5]
   unfold clrGet
   by_cases hi':i < L.cnt (L.newP l) l.n
   · rw [if_neg (by omega)]
     have:L.cptW l l.n i=L.cptG l i:=by
       unfold L.cptW L.cptG L.cptN;rw [decide_eq_true hi'];rfl
     dsimp only
     rw [this]
   · rw [if_pos ⟨by omega,by omega⟩]
     have:L.cptG l i=⟨0,0⟩:=by
       unfold L.cptG L.cptN;rw [decide_eq_false hi'];rfl
     rw [this])
theorem s_cptP_en:Enters Tryz.prog 22:=fun args w=>by kernel_rfl
theorem s_cptP_tok:TrOk Tryz.prog 22 s_cptP_tr:=tr_ok (ks:=[1022]) (n:=1) Tryz.func22 (c:=bodyOf Tryz.f22) (by kernel_rfl) mixed ⟨fun t=>rfl,fun t=>rfl,fun t u=>rfl,fun t u=>rfl,fun t u=>rfl,by kernel_rfl⟩ (fun l hp=>⟨_,s_cptP_vc l hp,⟨show SpecsL Tryz.prog _ from SpecsL.nil,rfl,⟨show ItersL Tryz.prog _ from ItersL.nil,(TrsOk.none (fun _=>rfl))⟩⟩⟩)
def p_Hull_p (l:(L.Sq L.Pt)):Prop:=l.n <= 1000000
def p_Hull_r (l:(L.Sq L.Pt)):SV:=.tup [.sl 2 (bif decide (L.hlE l (L.hull (L.cpt (L.sorted l))).n=0) then (L.hull (L.cpt (L.sorted l))).n else 0) (fun k=>[.int .i64 (((L.hull (L.cpt (L.sorted l))).g k).x),.int .i64 (((L.hull (L.cpt (L.sorted l))).g k).y)]),.int .i64 (L.hlE l (L.hull (L.cpt (L.sorted l))).n)]
def p_Hull_s:List EV -> Option (Prop × SV)
 | [.p (.sl 2 l_n l_g)]=>some ((∀ i,i < l_n -> l_g i = [.int .i64 ((ofPt (l_g i)).x),.int .i64 ((ofPt (l_g i)).y)]) /\ p_Hull_p (⟨l_n,fun i=>ofPt (l_g i)⟩:(L.Sq L.Pt)),p_Hull_r (⟨l_n,fun i=>ofPt (l_g i)⟩:(L.Sq L.Pt)))
 | _=>none
abbrev p_Hull_S:SE.Spec:=(specO p_Hull_s)
def p_Hull_C:Cfg:={ cC with muts:=[22],specs:=lookS [(19,p_valid_S),(20,p_flat_S),(24,s_values_S),(23,s_sortedF_S),(21,p_hull_S)],trs:=lookT [(22,s_cptP_tr)],ren:=fun k=>k - 1000,raws:=[23] }
theorem p_Hull_vc (l:(L.Sq L.Pt)) (hp:p_Hull_p l):vc Tryz.prog (p_Hull_C) (bodyOf Tryz.f8) (st0 Tryz.f8 [.p (.sl 2 l.n (fun i=>[.int .i64 ((l.g i).x),.int .i64 ((l.g i).y)]))]) (retFn Tryz.prog Tryz.f8 (p_Hull_r l)) :=
 @Eq.mpr _ (let I:=SV.int .i64;let A12:=(0:Nat);let A11:=(↑l.n:Int);let A10:=(1000000:Nat);let A7:=(bif decide (A11 < (3:Int)) then true else L.flat (L.Sq.mk l.n fun (i:Nat)=>l.g i));let A6:=(bif decide ((400:Int) < A11) then true else !L.allB l.n fun (i:Nat)=>L.validPt (l.g i));let A2:=(∀ (i:Nat),let A13:=[I (l.g i).x,I (l.g i).y];i < l.n -> A13=A13);let A1:=(L.hull (L.cpt (L.sorted l)));let A3:=(bif decide (L.hlE l A1.n=(0:Int)) then A1.n else A12);((!decide ((400:Int) < A11))=true -> A2 /\ l.n <= A10) /\ (A6=true -> A3=A12 /\ (1:Int)=L.hlE l A1.n) /\ (A6=false -> ((!decide (A11 < (3:Int)))=true -> A2 /\ (1:Nat) <= l.n /\ l.n <= A10 /\ ∀ (k:Nat),k < l.n -> L.bd (l.g k)) /\ (A7=true -> A3=A12 /\ (11:Int)=L.hlE l A1.n) /\ (A7=false -> (A2 /\ l.n <= A10) /\ (A2 /\ l.n <= A10) /\ ∀ (t:Nat),True -> ∃ (t:L.Sq L.Pt),let A4:=(L.hull (L.Sq.mk (L.cptN t) fun (i:Nat)=>L.cptG t (nat_lit 0+i)));(l.n=t.n /\ ∀ (i:Nat),let A9:=((L.sorted (L.Sq.mk l.n fun (i:Nat)=>l.g i)).g i);i < l.n -> [I A9.x,I A9.y] = [I (t.g i).x,I (t.g i).y]) /\ t.n <= A10 /\ ∀ (u:Nat),True -> nat_lit 0+L.cptN t <= t.n /\ ((∀ (i:Nat),let A8:=(L.cptG t (nat_lit 0+i));i < L.cptN t -> [I A8.x,I A8.y] = [I A8.x,I A8.y]) /\ (2:Nat) <= L.cptN t /\ L.cptN t <= (1000:Nat) /\ ∀ (i:Nat),i < L.cptN t -> L.bd (L.cptG t (nat_lit 0+i))) /\ ∀ (t_1:Nat),True -> (∀ (i:Nat),i < (L.hull (L.Sq.mk (L.cptN t) fun (i:Nat)=>L.cptG t (nat_lit 0+i))).n -> (true && (true && true))=true) /\ (decide ((24:Int) < (↑A4.n:Int))=true -> A3=A12 /\ (2:Int)=L.hlE l A1.n) /\ (decide ((24:Int) < (↑A4.n:Int))=false -> ((A4.n=bif decide (L.hlE l A1.n=(0:Int)) then A1.n else A12) /\ ∀ (i:Nat),let A5:=(L.hull (L.Sq.mk (L.cptN t) fun (i:Nat)=>L.cptG t (nat_lit 0+i)));i < A5.n -> [I (A5.g i).x,I (A5.g i).y] = [I (A1.g i).x,I (A1.g i).y]) /\ (0:Int)=L.hlE l A1.n)))) (by kernel_rfl) (by
 conv=>zeta
 have hn:l.n <= 1000000:=hp
 refine ⟨fun _=>⟨fun _ _=>rfl,hn⟩,fun h=>?_,fun h=>?_⟩
 · have h:(bif decide (400 < (l.n:Int)) then true else !L.validPts l)=true:=h
   have e:L.hlE l (L.hull (L.cpt (L.sorted l))).n=1:=by unfold L.hlE;rw [h];rfl
   rw [e];exact ⟨rfl,rfl⟩
 have h0:(bif decide (400 < (l.n:Int)) then true else !L.validPts l)=false:=h
 have h1:=h0
 rw [bor,Bool.or_eq_false_iff] at h1
 have h4:=of_decide_eq_false h1.1
 have hv:=notF h1.2
 have hb:∀ k,k < l.n -> L.bd (l.g k):=fun k hk=>bd_of_valid (allB_iff.1 hv k hk)
 refine ⟨fun h3=>⟨fun _ _=>rfl,by have:=of_decide_eq_false (notT h3);omega,hn,hb⟩,fun hf=>?_,fun hf=>?_⟩
 · have hf : L.flat l = true := by
     rw [bor,Bool.or_eq_true] at hf
     rcases hf with q | q
     · have:=of_decide_eq_true q
       exact flat_small (by omega)
     · exact q
   have e:L.hlE l (L.hull (L.cpt (L.sorted l))).n=11:=by unfold L.hlE;rw [h0,hf];rfl
   rw [e];exact ⟨rfl,rfl⟩
 rw [bor,Bool.or_eq_false_iff] at hf
 obtain ⟨h3,hf⟩:=hf
 have h3:=of_decide_eq_false h3
 have hf:L.flat l=false:=hf
 have two:=flat_two (l:=l) hf (by omega)
 obtain ⟨_,c2,_,c4⟩:=cpt_sorted l
 have hc:(L.Sq.mk (L.cptN (L.sorted l)) fun i=>L.cptG (L.sorted l) (0+i))=L.cpt (L.sorted l):=by
   unfold L.cpt;congr;funext i;rw [Nat.zero_add]
 have c4:L.cptN (L.sorted l) <= l.n:=c4
 refine ⟨⟨fun _ _=>rfl,hn⟩,⟨fun _ _=>rfl,hn⟩,fun _ _=>⟨L.sorted l,⟨rfl,fun _ _=>rfl⟩,hn,fun _ _=>?_⟩⟩
 rw [hc]
 refine ⟨by show 0+L.cptN (L.sorted l) <= l.n;omega,⟨fun _ _=>rfl,cpt_two two,by omega,fun i hi=>?_⟩,fun _ _=>⟨fun _ _=>rfl,fun hw=>?_,fun hw=>?_⟩⟩
 · obtain ⟨j,hj,e⟩:=c2 i hi
   have e:L.cptG (L.sorted l) i=l.g j:=e
   rw [Nat.zero_add,e];exact hb j hj
 · have hw:decide (24 < (((L.hull (L.cpt (L.sorted l))).n:Nat):Int))=true:=hw
   have e:L.hlE l (L.hull (L.cpt (L.sorted l))).n=2:=by unfold L.hlE;rw [h0,hf,hw];rfl
   rw [e];exact ⟨rfl,rfl⟩
 · have hw:decide (24 < (((L.hull (L.cpt (L.sorted l))).n:Nat):Int))=false:=hw
   have e:L.hlE l (L.hull (L.cpt (L.sorted l))).n=0:=by unfold L.hlE;rw [h0,hf,hw];rfl
   rw [e];exact ⟨⟨rfl,fun _ _=>rfl⟩,rfl⟩)
theorem p_Hull_ok:SpecOk Tryz.prog 8 p_Hull_S:=fnX Tryz.func8 (c:=bodyOf Tryz.f8) (by kernel_rfl) mixed (fun args p r hs hp=>by
 unfold p_Hull_s at hs
 split at hs
 · cases hs;exact ⟨_,_,p_Hull_vc _ hp.2,(.p (.sl hp.1) .nil),⟨show SpecsL Tryz.prog _ from (SpecsL.cons p_valid_ok p_valid_en (SpecsL.cons p_flat_ok p_flat_en (SpecsL.cons s_values_ok s_values_en (SpecsL.cons s_sortedF_ok s_sortedF_en (SpecsL.cons p_hull_ok p_hull_en SpecsL.nil))))),rfl,⟨show ItersL Tryz.prog _ from ItersL.nil,(show TrsL Tryz.prog _ from (TrsL.cons s_cptP_tok s_cptP_en TrsL.nil))⟩⟩⟩
 · cases hs)
theorem p_Hull_en:Enters Tryz.prog 8:=fun args w=>by kernel_rfl
end Go.Proofs.YtinfalehnaejbaaGreat
namespace Go.Proofs.YtinfalehnaejbaaGreat
open Go.SE Go.RowKit
set_option maxRecDepth 100000
set_option maxHeartbeats 4000000
set_option linter.unusedVariables false
attribute [local irreducible] vc
open Conf
theorem cmpPt_slt {a b:L.Pt}:L.cmpPt a b < 0 ↔ L.slt 1 a b:=by
 rw [cmpPt_lt];unfold L.slt L.vp;rw [Int.one_mul,Int.one_mul];omega
def L.setOf (l m:L.Sq L.Pt):Prop:=2 <= m.n /\ (∀ i k,i < m.n -> k < m.n -> m.g i=m.g k -> i=k) /\ (∀ i,i < l.n -> ∃ j,j < m.n /\ m.g j=l.g i) /\ ∀ j,j < m.n -> ∃ i,i < l.n /\ l.g i=m.g j
theorem sorted_strict {m:L.Sq L.Pt} (hd:∀ i k,i < m.n -> k < m.n -> m.g i=m.g k -> i=k):∀ i j,i < j -> j < m.n -> L.slt 1 ((L.sorted m).g i) ((L.sorted m).g j):=by
 have hl:(L.isortPt (L.listPt m)).length=m.n:=by rw [(isortPt_perm _).length_eq];simp [L.listPt]
 have hnd:(L.listPt m).Nodup:=by
   unfold L.listPt
   rw [List.nodup_iff_pairwise_ne,List.pairwise_map,List.pairwise_iff_getElem]
   intro i j hi hj hij e
   simp only [List.getElem_range] at e
   have:=hd i j (by simpa using hi) (by simpa using hj) e
   omega
 have hnd2:=(isortPt_perm (L.listPt m)).nodup_iff.2 hnd
 intro i j hij hj
 have hle:=List.pairwise_iff_getElem.1 (isortPt_asc (L.listPt m)) i j (by omega) (by omega) hij
 have hne:=List.pairwise_iff_getElem.1 (List.nodup_iff_pairwise_ne.1 hnd2) i j (by omega) (by omega) hij
 rw [lePt_sle] at hle
 show L.slt 1 ((L.isortPt (L.listPt m)).getD i ⟨0,0⟩) ((L.isortPt (L.listPt m)).getD j ⟨0,0⟩)
 rw [List.getD_eq_getElem?_getD,List.getD_eq_getElem?_getD,List.getElem?_eq_getElem (by omega),List.getElem?_eq_getElem (by omega)]
 rcases sle_or (.inl rfl) hle with e | e
 · exact absurd e hne
 · exact e
theorem slt_neg {a b:L.Pt} (h:L.slt 1 a b):L.slt (-1) b a:=by
 unfold L.slt L.vp at *;omega
theorem plc_first {l m:L.Sq L.Pt} (h:L.setOf l m):L.plc l 0=(L.sorted m).g 0:=by
 obtain ⟨h2,hd,hlm,hml⟩:=h
 have hs:=sorted_strict hd
 obtain ⟨j0,hj0,e0⟩:=sorted_mem m (k:=0) (by omega)
 obtain ⟨i0,hi0,f0⟩:=hml j0 hj0
 have hl1:1 <= l.n:=by omega
 obtain ⟨q,hq,eq⟩:=plc_in hl1
 obtain ⟨r,hr,er⟩:=hlm q hq
 obtain ⟨t,ht,et⟩:=sorted_all m hr
 have ep:L.plc l 0=(L.sorted m).g t:=by rw [eq,<- er,et]
 rcases Nat.eq_zero_or_pos t with h0 | h0
 · rw [ep,h0]
 · exfalso
   have h1:=hs 0 t h0 ht
   rw [<- ep] at h1
   have h3:=minTo_le (l:=l) (i:=l.n - 1) (j:=i0) (by omega)
   rw [<- plc_min hl1,f0,<- e0] at h3
   exact h3 (cmpPt_slt.2 h1)
structure L.HullIs (l h:L.Sq L.Pt):Prop where
 pos:2 <= h.n
 at_:∀ k,k < h.n -> L.wrapG l k=h.g k
 back:L.wrapG l h.n=L.plc l 0
 first:∀ k,0 < k -> k < h.n -> h.g k ≠ L.plc l 0
theorem hull_is {l m:L.Sq L.Pt} (h:L.setOf l m):L.HullIs l (L.hull m) /\ (L.hull m).n <= 2 * m.n:=by
 have hf:=plc_first h
 obtain ⟨h2,hd,hlm,hml⟩:=h
 have hs:=sorted_strict hd
 have A:=half_of (.inl rfl) (l:=L.sorted m) h2 hs
 have B:=half_of (.inr rfl) (l:=L.revd (L.sorted m)) h2 (fun i j hij hj=>slt_neg (hs (m.n - 1 - j) (m.n - 1 - i) (by have hj:j < m.n:=hj;omega) (by have hj:j < m.n:=hj;omega)))
 have hg:∀ i,i < l.n -> ∃ j,j < (L.sorted m).n /\ (L.sorted m).g j=l.g i:=fun i hi=>by
   obtain ⟨j,hj,e⟩:=hlm i hi
   obtain ⟨k,hk,e2⟩:=sorted_all m hj
   exact ⟨k,hk,e2.trans e⟩
 have hb:∀ j,j < (L.sorted m).n -> ∃ i,i < l.n /\ l.g i=(L.sorted m).g j:=fun j hj=>by
   obtain ⟨k,hk,e⟩:=sorted_mem m hj
   obtain ⟨i,hi,e2⟩:=hml k hk
   exact ⟨i,hi,e2.trans e.symm⟩
 obtain ⟨k1,k2,k3⟩:=hull_wrap (l:=L.sorted m) h2 A B (g:=l.g) (n:=l.n) hg hb
 have hn:(L.hull m).n=((L.chainTo (L.sorted m) (L.sorted m).n).length - 1)+((L.chainTo (L.revd (L.sorted m)) (L.revd (L.sorted m)).n).length - 1):=by
   show 0+((L.chainTo (L.sorted m) (L.sorted m).n).length - 1)+_=_
   rw [Nat.zero_add];rfl
 have hgk:∀ k,(L.hull m).g k=(if k < (L.chainTo (L.sorted m) (L.sorted m).n).length - 1 then L.fromTop (L.chainTo (L.sorted m) (L.sorted m).n) k else L.fromTop (L.chainTo (L.revd (L.sorted m)) (L.revd (L.sorted m)).n) (k - ((L.chainTo (L.sorted m) (L.sorted m).n).length - 1))):=fun k=>by
   have e:(L.hull m).g k=bif decide (k < 0+(L.chain (L.sorted m)).n) then (bif decide (k < 0) then (⟨0,0⟩:L.Pt) else (L.chain (L.sorted m)).g (k - 0)) else (L.chain (L.revd (L.sorted m))).g (k - (0+(L.chain (L.sorted m)).n)):=rfl
   rw [e,Nat.zero_add]
   by_cases hk:k < (L.chainTo (L.sorted m) (L.sorted m).n).length - 1
   · rw [decide_eq_true (show k < (L.chain (L.sorted m)).n from hk),if_pos hk]
     rw [cond_true,decide_eq_false (Nat.not_lt_zero _)];rfl
   · rw [decide_eq_false (show ¬ k < (L.chain (L.sorted m)).n from hk),if_neg hk];rfl
 have c1:=chainTo_len (L.sorted m) m.n
 have c2:=chainTo_len (L.revd (L.sorted m)) m.n
 have a1:=A.c1
 have b1:=B.c1
 refine ⟨⟨by omega,fun k hk=>?_,?_,fun k hk0 hk=>?_⟩,?_⟩
 · unfold L.wrapG
   rw [hf,hgk,k1 k (by omega)]
 · unfold L.wrapG
   rw [hf,hn];exact k2
 · rw [hf,hgk];exact k3 k hk0 (by omega)
 · rw [hn]
   have e1:(L.chainTo (L.sorted m) (L.sorted m).n).length <= m.n:=c1
   have e2:(L.chainTo (L.revd (L.sorted m)) (L.revd (L.sorted m)).n).length <= m.n:=c2
   omega
theorem hull_N {l h:L.Sq L.Pt} (H:L.HullIs l h) (hn:h.n <= 400):L.wrapN l=h.n:=by
 have h2:=H.pos
 have:=wrapN_at (l:=l) (g:=h.n - 1) (by omega) (fun i hi=>?_) ?_
 · rw [this];omega
 · unfold L.wrapP
   rw [bor,Bool.or_eq_false_iff]
   refine ⟨?_,decide_eq_false (by omega)⟩
   cases hs:L.same (L.wrapAt l.g l.n (L.plc l 0) (i+1)) (L.plc l 0) with
   | false=>rfl
   | true =>
     have e:=same_eq hs
     have e2:=H.at_ (i+1) (by omega)
     exact absurd (e2.symm.trans e) (H.first (i+1) (by omega) (by omega))
 · unfold L.wrapP
   have e:=H.back
   unfold L.wrapG at e
   rw [show h.n - 1+1=h.n by omega,e,same_refl];rfl
theorem wrap_shift {l:L.Sq L.Pt} {i j:Nat} (h:L.wrapG l i=L.wrapG l j):∀ t,L.wrapG l (i+t)=L.wrapG l (j+t)
 | 0=>h
 | t+1=>by
   have ih:=wrap_shift h t
   show L.scan l.g (L.wrapG l (i+t)) l.n=L.scan l.g (L.wrapG l (j+t)) l.n
   rw [ih]
theorem hull_inj {l h:L.Sq L.Pt} (H:L.HullIs l h) {i j:Nat} (hi:i < h.n) (hj:j < h.n) (e:h.g i=h.g j):i=j:=by
 have key:∀ i j,i < j -> j < h.n -> h.g i=h.g j -> False:=fun i j hij hj e=>by
   have e1:L.wrapG l i=L.wrapG l j:=by rw [H.at_ i (by omega),H.at_ j hj];exact e
   have e2:=wrap_shift e1 (h.n - j)
   rw [show j+(h.n - j)=h.n by omega,H.back,H.at_ _ (by omega)] at e2
   exact H.first _ (by omega) (by omega) e2
 rcases Nat.lt_trichotomy i j with q | q | q
 · exact (key i j q hj e).elim
 · exact q
 · exact (key j i q hi e.symm).elim
end Go.Proofs.YtinfalehnaejbaaGreat
namespace Go.Proofs.YtinfalehnaejbaaGreat
open Go.SE Go.RowKit
set_option maxRecDepth 100000
set_option maxHeartbeats 4000000
set_option linter.unusedVariables false
attribute [local irreducible] vc
open Conf
end Go.Proofs.YtinfalehnaejbaaGreat
namespace Go.Proofs.YtinfalehnaejbaaGreat
open Go.SE Go.RowKit
set_option maxRecDepth 100000
set_option maxHeartbeats 4000000
set_option linter.unusedVariables false
attribute [local irreducible] vc
open Conf
structure L.Trg where
 a:Int
 b:Int
 c:Int
def L.lp (l:L.Sq L.Pt) (f:L.Sq Int) (i:Nat):L.Pt:=l.g (f.g i).toNat
def L.inTri (a b c p:L.Pt):Bool:=bif bif bif bif bif !L.same p a then !L.same p b else false then !L.same p c else false then decide (0 <= L.cross a b p) else false then decide (0 <= L.cross b c p) else false then decide (0 <= L.cross c a p) else false
def L.ear (l:L.Sq L.Pt) (f:L.Sq Int) (i:Nat):Bool:=bif decide (L.cross (L.lp l f (L.prev f.n i)) (L.lp l f i) (L.lp l f (L.next f.n i)) <= 0) then false else !L.anyB f.n (fun k=>L.inTri (L.lp l f (L.prev f.n i)) (L.lp l f i) (L.lp l f (L.next f.n i)) (L.lp l f k))
def L.inds (n:Nat) (f:L.Sq Int):Prop:=∀ k,k < f.n -> 0 <= f.g k /\ f.g k < (n:Int)
def L.tri (a b c:Int):L.Trg:=⟨min a (min b c),a+b+c - min a (min b c) - max a (max b c),max a (max b c)⟩
def L.earK (l:L.Sq L.Pt) (f:L.Sq Int):Nat:=bif decide ((3:Int) < (f.n:Int)) then (bif decide (L.idx (f.n - 1) (L.ear l f) < 0) then f.n - 1 else (L.idx (f.n - 1) (L.ear l f)).toNat) else 0
def L.rem (f:L.Sq Int) (i:Nat):L.Sq Int:=⟨f.n - 1,fun j=>bif decide (j < i) then f.g j else f.g (j+1)⟩
def L.lft (l:L.Sq L.Pt):Nat -> L.Sq Int
 | 0=>⟨l.n,fun i=>(i:Int)⟩
 | k+1=>L.rem (L.lft l k) (L.earK l (L.lft l k))
def L.trg (l:L.Sq L.Pt) (k:Nat):L.Trg:=L.tri ((L.lft l k).g (L.prev (L.lft l k).n (L.earK l (L.lft l k)))) ((L.lft l k).g (L.earK l (L.lft l k))) ((L.lft l k).g (L.next (L.lft l k).n (L.earK l (L.lft l k))))
theorem ear_yes {l:L.Sq L.Pt} {f:L.Sq Int} {i:Nat} (h1:¬ L.cross (L.lp l f (L.prev f.n i)) (L.lp l f i) (L.lp l f (L.next f.n i)) <= 0) (h:∀ j,j < f.n -> L.inTri (L.lp l f (L.prev f.n i)) (L.lp l f i) (L.lp l f (L.next f.n i)) (L.lp l f j)=false):L.ear l f i=true:=by
 unfold L.ear
 rw [decide_eq_false h1,anyB_no h];rfl
theorem ear_no {l:L.Sq L.Pt} {f:L.Sq Int} {i:Nat} {j:Nat} (hj:j < f.n) (h:L.inTri (L.lp l f (L.prev f.n i)) (L.lp l f i) (L.lp l f (L.next f.n i)) (L.lp l f j)=true):L.ear l f i=false:=by
 unfold L.ear
 rw [anyB_iff.2 ⟨j,hj,h⟩]
 cases decide (L.cross (L.lp l f (L.prev f.n i)) (L.lp l f i) (L.lp l f (L.next f.n i)) <= 0) <;> rfl
theorem ear_low {l:L.Sq L.Pt} {f:L.Sq Int} {i:Nat} (h1:L.cross (L.lp l f (L.prev f.n i)) (L.lp l f i) (L.lp l f (L.next f.n i)) <= 0):L.ear l f i=false:=by
 unfold L.ear
 rw [decide_eq_true h1];rfl
def L.trN (l:L.Sq L.Pt):Nat:=bif L.validOutline l then l.n - 2 else 0
theorem lft_n {l:L.Sq L.Pt}:∀ {k:Nat},(L.lft l k).n=l.n - k
 | 0=>rfl
 | k+1=>by
   show (L.lft l k).n - 1=l.n - (k+1)
   rw [lft_n];omega
theorem rem_inds {n:Nat} {f:L.Sq Int} {i:Nat} (h:L.inds n f):L.inds n (L.rem f i):=fun j hj=>by
 have hj:j < f.n - 1:=hj
 show 0 <= (bif decide (j < i) then f.g j else f.g (j+1)) /\ (bif decide (j < i) then f.g j else f.g (j+1)) < (n:Int)
 cases decide (j < i) with
 | true=>exact h j (by omega)
 | false=>exact h (j+1) (by omega)
theorem lft_inds {l:L.Sq L.Pt}:∀ {k:Nat},L.inds l.n (L.lft l k)
 | 0=>fun j hj=>by
   have hj:j < l.n:=hj
   show 0 <= (j:Int) /\ (j:Int) < (l.n:Int)
   omega
 | k+1=>rem_inds lft_inds
theorem earK_of {l:L.Sq L.Pt} {f:L.Sq Int} {i:Nat} (hi:i < f.n) (h0:f.n <= 3 -> i=0) (hj:∀ j,j < i -> L.ear l f j=false) (he:3 < f.n -> i < f.n - 1 -> L.ear l f i=true):L.earK l f=i:=by
 unfold L.earK
 by_cases h3:3 < f.n
 · rw [decide_eq_true (p:=(3:Int) < (f.n:Int)) (by omega)]
   show (bif decide (L.idx (f.n - 1) (L.ear l f) < 0) then f.n - 1 else (L.idx (f.n - 1) (L.ear l f)).toNat)=i
   by_cases hl:i < f.n - 1
   · rw [idx_at hj (he h3 hl) hl,decide_eq_false (by omega)]
     show ((i:Int)).toNat=i
     omega
   · rw [idx_none (fun j h=>hj j (by omega))]
     show f.n - 1=i
     omega
 · rw [decide_eq_false (p:=(3:Int) < (f.n:Int)) (by omega)]
   exact (h0 (by omega)).symm
theorem earK_lt {l:L.Sq L.Pt} {f:L.Sq Int} (h:1 <= f.n):L.earK l f < f.n:=by
 unfold L.earK
 cases decide ((3:Int) < (f.n:Int)) with
 | false=>exact h
 | true =>
   show (bif decide (L.idx (f.n - 1) (L.ear l f) < 0) then f.n - 1 else (L.idx (f.n - 1) (L.ear l f)).toNat) < f.n
   have:=idx_lt (f:=L.ear l f) (n:=f.n - 1)
   cases decide (L.idx (f.n - 1) (L.ear l f) < 0) with
   | true=>show f.n - 1 < f.n;omega
   | false=>show (L.idx (f.n - 1) (L.ear l f)).toNat < f.n;omega
theorem sort3 {u f:Nat -> Int} (h:L.isSort 3 f u):(⟨u 0,u 1,u 2⟩:L.Trg)=L.tri (f 0) (f 1) (f 2):=by
 have h:(List.range 3).map u=((List.range 3).map f).mergeSort (fun x y=>decide (x <= y)):=h
 have hp : [u 0,u 1,u 2].Perm [f 0,f 1,f 2]:=by
   have:=List.mergeSort_perm ((List.range 3).map f) (fun x y=>decide (x <= y))
   rw [<- h] at this
   exact this
 have hs:([u 0,u 1,u 2]:List Int).Pairwise (fun x y=>decide (x <= y)=true):=by
   have:=List.pairwise_mergeSort (le:=fun x y:Int=>decide (x <= y)) (fun a b c h k=>by simp at *;omega) (fun a b=>by simp;omega) ((List.range 3).map f)
   rw [<- h] at this
   exact this
 have m:∀ x,x ∈ [u 0,u 1,u 2] ↔ x ∈ [f 0,f 1,f 2]:=fun x=>hp.mem_iff
 have s:u 0+(u 1+(u 2+0))=f 0+(f 1+(f 2+0)):=hp.foldr_eq' (f:=fun x y:Int=>x+y) (fun x _ y _ z=>by omega) 0
 have a0:=(m (u 0)).1 (by simp)
 have a2:=(m (u 2)).1 (by simp)
 have b0:=(m (f 0)).2 (by simp)
 have b1:=(m (f 1)).2 (by simp)
 have b2:=(m (f 2)).2 (by simp)
 simp at hs a0 a2 b0 b1 b2
 unfold L.tri
 rw [L.Trg.mk.injEq]
 refine ⟨?_,?_,?_⟩ <;> omega
theorem bif3 {a b:Prop} [Decidable a] [Decidable b] {c:Bool}:(bif bif decide a then decide b else false then !c else false)=true ↔ a /\ b /\ c=false:=by
 by_cases ha:a <;> by_cases hb:b <;> cases c <;> simp [ha,hb]
def sortI_ren:Go.Shelf.Ren:=⟨fun | 189=>18 | 125=>44 | 257=>43 | 128=>77 | 129=>78 | 294=>68 | 295=>69 | 296=>70 | 297=>71 | 298=>72 | 299=>73 | 216=>74 | 300=>75 | 301=>76 | 328=>93 | 329=>94 | 330=>95 | 331=>96 | 332=>97 | 215=>58 | 343=>109 | n=>n,fun | 28=>42 | 3=>3 | 46=>82 | 0=>0 | 51=>110 | 53=>112 | 4=>4 | 183=>102 | 182=>101 | 131=>107 | 5=>5 | 9=>9 | 218=>122 | 222=>126 | 228=>135 | 229=>136 | n=>n,fun | n=>n⟩
theorem sortI_lay:Go.Proofs.Lays.n189 Tryz.prog sortI_ren:={
 mixed:=by kernel_rfl
 f125:=Tryz.func44.trans (congrArg some (by kernel_rfl))
 f128:=Tryz.func77.trans (congrArg some (by kernel_rfl))
 f129:=Tryz.func78.trans (congrArg some (by kernel_rfl))
 f189:=Tryz.func18.trans (congrArg some (by kernel_rfl))
 f215:=Tryz.func58.trans (congrArg some (by kernel_rfl))
 f216:=Tryz.func74.trans (congrArg some (by kernel_rfl))
 f257:=Tryz.func43.trans (congrArg some (by kernel_rfl))
 f294:=Tryz.func68.trans (congrArg some (by kernel_rfl))
 f295:=Tryz.func69.trans (congrArg some (by kernel_rfl))
 f296:=Tryz.func70.trans (congrArg some (by kernel_rfl))
 f297:=Tryz.func71.trans (congrArg some (by kernel_rfl))
 f298:=Tryz.func72.trans (congrArg some (by kernel_rfl))
 f299:=Tryz.func73.trans (congrArg some (by kernel_rfl))
 f300:=Tryz.func75.trans (congrArg some (by kernel_rfl))
 f301:=Tryz.func76.trans (congrArg some (by kernel_rfl))
 f328:=Tryz.func93.trans (congrArg some (by kernel_rfl))
 f329:=Tryz.func94.trans (congrArg some (by kernel_rfl))
 f330:=Tryz.func95.trans (congrArg some (by kernel_rfl))
 f331:=Tryz.func96.trans (congrArg some (by kernel_rfl))
 f332:=Tryz.func97.trans (congrArg some (by kernel_rfl))
 f343:=Tryz.func109.trans (congrArg some (by kernel_rfl))
 t0:=Tryz.underlying0
 a0:=Tryz.isAgg0
 z0:=Tryz.sizeOf0
 v0:=Tryz.zeroValue0
 t3:=Tryz.underlying3
 a3:=Tryz.isAgg3
 z3:=Tryz.sizeOf3
 v3:=Tryz.zeroValue3
 t4:=Tryz.underlying4
 a4:=Tryz.isAgg4
 z4:=Tryz.sizeOf4
 v4:=Tryz.zeroValue4
 t5:=Tryz.underlying5
 a5:=Tryz.isAgg5
 z5:=Tryz.sizeOf5
 v5:=Tryz.zeroValue5
 t9:=Tryz.underlying9
 a9:=Tryz.isAgg9
 z9:=Tryz.sizeOf9
 v9:=Tryz.zeroValue9
 t28:=Tryz.underlying42
 a28:=Tryz.isAgg42
 z28:=Tryz.sizeOf42
 v28:=Tryz.zeroValue42
 t46:=Tryz.underlying82
 a46:=Tryz.isAgg82
 z46:=Tryz.sizeOf82
 v46:=Tryz.zeroValue82
 t51:=Tryz.underlying110
 a51:=Tryz.isAgg110
 z51:=Tryz.sizeOf110
 v51:=Tryz.zeroValue110
 t53:=Tryz.underlying112
 a53:=Tryz.isAgg112
 z53:=Tryz.sizeOf112
 v53:=Tryz.zeroValue112
 t131:=Tryz.underlying107
 a131:=Tryz.isAgg107
 z131:=Tryz.sizeOf107
 v131:=Tryz.zeroValue107
 t182:=Tryz.underlying101
 a182:=Tryz.isAgg101
 z182:=Tryz.sizeOf101
 v182:=Tryz.zeroValue101
 t183:=Tryz.underlying102
 a183:=Tryz.isAgg102
 z183:=Tryz.sizeOf102
 v183:=Tryz.zeroValue102
 t218:=Tryz.underlying122
 a218:=Tryz.isAgg122
 z218:=Tryz.sizeOf122
 v218:=Tryz.zeroValue122
 t222:=Tryz.underlying126
 a222:=Tryz.isAgg126
 z222:=Tryz.sizeOf126
 v222:=Tryz.zeroValue126
 t228:=Tryz.underlying135
 a228:=Tryz.isAgg135
 z228:=Tryz.sizeOf135
 v228:=Tryz.zeroValue135
 t229:=Tryz.underlying136
 a229:=Tryz.isAgg136
 z229:=Tryz.sizeOf136
 v229:=Tryz.zeroValue136 }
abbrev s_sortI_tr:Tr:=sortITr 3 1069
theorem s_sortI_tok:TrOk Tryz.prog 18 s_sortI_tr:=sortITr_ok sortI_lay _ _
theorem s_sortI_en:Enters Tryz.prog 18:=fun args w=>by kernel_rfl
def p_ear_p (l:(L.Sq L.Pt)) (f:(L.Sq Int)) (i:Int):Prop:=(3 <= f.n /\ f.n <= 1000) /\ (0 <= i /\ i < f.n) /\ (l.n <= 1000 /\ ∀ k,k < l.n -> L.bd (l.g k)) /\ L.inds l.n f
def p_ear_r (l:(L.Sq L.Pt)) (f:(L.Sq Int)) (i:Int):SV:=.bool (L.ear l f i.toNat)
def p_ear_s:List EV -> Option (Prop × SV)
 | [.p (.sl 2 l_n l_g),.p (.sl 1 f_n f_g),.p (.int .i64 i)]=>some ((∀ i,i < l_n -> l_g i = [.int .i64 ((ofPt (l_g i)).x),.int .i64 ((ofPt (l_g i)).y)]) /\ (∀ i,i < f_n -> f_g i = [.int .i64 ((intOf (f_g i)))]) /\ p_ear_p (⟨l_n,fun i=>ofPt (l_g i)⟩:(L.Sq L.Pt)) (⟨f_n,fun i=>intOf (f_g i)⟩:(L.Sq Int)) i,p_ear_r (⟨l_n,fun i=>ofPt (l_g i)⟩:(L.Sq L.Pt)) (⟨f_n,fun i=>intOf (f_g i)⟩:(L.Sq Int)) i)
 | _=>none
abbrev p_ear_S:SE.Spec:=(specO p_ear_s)
def p_ear_C:Cfg:={ cC with specs:=lookS [(31,p_cross_S)] }
theorem p_ear_vc (l:(L.Sq L.Pt)) (f:(L.Sq Int)) (i:Int) (hp:p_ear_p l f i):vc Tryz.prog ({ p_ear_C with loops:=lookL [(6,{ T:=Nat,keep:=[0,8,9,10,50,51],keepO:=[8,9,10],chg:=fun k=>[(52,.p (.int .i64 (k:Int)))],own:=fun _=>[],inv:=fun k=>k <= f.n /\ ∀ j,j < k -> L.inTri (L.lp l f (L.prev f.n i.toNat)) (L.lp l f i.toNat) (L.lp l f (L.next f.n i.toNat)) (L.lp l f j)=false,mu:=fun k=>f.n - k })],rfs:=lookR [] }) (bodyOf Tryz.f17) (st0 Tryz.f17 [.p (.sl 2 l.n (fun i=>[.int .i64 ((l.g i).x),.int .i64 ((l.g i).y)])),.p (.sl 1 f.n (fun i=>[.int .i64 ((f.g i))])),.p (.int .i64 i)]) (retFn Tryz.prog Tryz.f17 (p_ear_r l f i)) :=
 @Eq.mpr _ (let I:=SV.int .i64;let T:=Int.toNat;let M:=Int.tmod;let A21:=(1:Int);let A17:=(L.lp l f (T i));let A16:=(↑l.n:Int);let A15:=(L.lp l f (L.next f.n (T i)));let A14:=(L.lp l f (L.prev f.n (T i)));let A12:=(i+A21);let A10:=(0:Int);let A6:=(↑f.n:Int);let A19:=(T (M A12 A6));let A11:=(i+A6 - A21);let A20:=(T (M A11 A6));let A5:=(l.g (T (f.g (T i))));let A2:=(l.g (T (f.g A19)));let A1:=(l.g (T (f.g A20)));InK .i64 (i+A6) /\ InK .i64 A11 /\ A6 ≠ A10 /\ (A10 <= M A11 A6 /\ M A11 A6 < A6) /\ (A10 <= f.g A20 /\ f.g A20 < A16) /\ (A10 <= i /\ i < A6) /\ (A10 <= f.g (T i) /\ f.g (T i) < A16) /\ InK .i64 A12 /\ A6 ≠ A10 /\ (A10 <= M A12 A6 /\ M A12 A6 < A6) /\ (A10 <= f.g A19 /\ f.g A19 < A16) /\ (L.bd A1 /\ L.bd A5 /\ L.bd A2) /\ (decide (L.cross A1 A5 A2 <= A10)=true -> false=L.ear l f (T i)) /\ (decide (L.cross A1 A5 A2 <= A10)=false -> (∃ (g:Nat),A10=(↑g:Int) /\ g <= f.n /\ ∀ (j:Nat),j < g -> L.inTri A14 A17 A15 (L.lp l f j)=false) /\ ∀ (g:Nat),let A13:=(↑g:Int);let A3:=(l.g (T (f.g (T A13))));let A9:=(decide (A3.x=A2.x) && decide (A3.y=A2.y));let A8:=(decide (A3.x=A5.x) && decide (A3.y=A5.y));let A7:=(decide (A3.x=A1.x) && decide (A3.y=A1.y));let A4:=(bif bif bif bif bif !A7 then !A8 else false then !A9 else false then decide (A10 <= L.cross A1 A5 A3) else false then decide (A10 <= L.cross A5 A2 A3) else false then decide (A10 <= L.cross A2 A1 A3) else false);(g <= f.n /\ ∀ (j:Nat),j < g -> L.inTri A14 A17 A15 (L.lp l f j)=false) -> (decide (A13 < A6)=true -> (A10 <= A13 /\ A13 < A6) /\ (A10 <= f.g (T A13) /\ f.g (T A13) < A16) /\ ((bif bif !A7 then !A8 else false then !A9 else false)=true -> L.bd A1 /\ L.bd A5 /\ L.bd A3) /\ ((bif bif bif !A7 then !A8 else false then !A9 else false then decide (A10 <= L.cross A1 A5 A3) else false)=true -> L.bd A5 /\ L.bd A2 /\ L.bd A3) /\ ((bif bif bif bif !A7 then !A8 else false then !A9 else false then decide (A10 <= L.cross A1 A5 A3) else false then decide (A10 <= L.cross A5 A2 A3) else false)=true -> L.bd A2 /\ L.bd A1 /\ L.bd A3) /\ (A4=true -> false=L.ear l f (T i)) /\ (A4=false -> InK .i64 (A13+A21) /\ ∃ (g':Nat),A13+A21=(↑g':Int) /\ A6=A6 /\ (f.n=f.n /\ ∀ (i:Nat),i < f.n -> [I (f.g i)] = [I (f.g i)]) /\ nat_lit 0=nat_lit 0 /\ nat_lit 0=nat_lit 0 /\ nat_lit 0=nat_lit 0 /\ (l.n=l.n /\ ∀ (i:Nat),let A18:=[I (l.g i).x,I (l.g i).y];i < l.n -> A18=A18) /\ A1.x=A1.x /\ A1.y=A1.y /\ A5.x=A5.x /\ A5.y=A5.y /\ A2.x=A2.x /\ A2.y=A2.y /\ (g' <= f.n /\ ∀ (j:Nat),j < g' -> L.inTri A14 A17 A15 (L.lp l f j)=false) /\ f.n - g' < f.n - g)) /\ (decide (A13 < A6)=false -> true=L.ear l f (T i)))) (by kernel_rfl) (by
 conv=>zeta
 obtain ⟨⟨h3,hn⟩,⟨i0,i1⟩,⟨ln,hb⟩,hi⟩:=hp
 obtain ⟨k,rfl⟩:∃ k:Nat,i=(k:Int):=⟨i.toNat,by omega⟩
 have hk:k < f.n:=by omega
 have ek:((k:Nat):Int).toNat=k:=by omega
 have ep:(Int.tmod ((k:Int)+f.n - 1) f.n).toNat=L.prev f.n k:=rfl
 have en:(Int.tmod ((k:Int)+1) f.n).toNat=L.next f.n k:=rfl
 have pl:L.prev f.n k < f.n:=prev_lt (by omega)
 have nl:L.next f.n k < f.n:=next_lt (by omega)
 have tp:=Int.tmod_nonneg (a:=(k:Int)+f.n - 1) (f.n:Int) (by omega)
 have tq:=Int.tmod_lt_of_pos ((k:Int)+f.n - 1) (b:=(f.n:Int)) (by omega)
 have up:=Int.tmod_nonneg (a:=(k:Int)+1) (f.n:Int) (by omega)
 have uq:=Int.tmod_lt_of_pos ((k:Int)+1) (b:=(f.n:Int)) (by omega)
 have vb:∀ j,j < f.n -> L.bd (l.g (f.g j).toNat):=fun j hj=>hb _ (by have:=hi j hj;omega)
 rw [ek,ep,en]
 refine ⟨iK,iK,by omega,⟨tp,tq⟩,hi _ pl,⟨by omega,by omega⟩,hi _ hk,iK,by omega,⟨up,uq⟩,hi _ nl,⟨vb _ pl,vb _ hk,vb _ nl⟩,fun h=>?_,fun hc=>⟨⟨0,rfl,Nat.zero_le _,fun j hj=>absurd hj (Nat.not_lt_zero _)⟩,fun g hg=>⟨fun hlt=>?_,fun hge=>?_⟩⟩⟩
 · exact (ear_low (of_decide_eq_true h)).symm
 · obtain ⟨g1,g2⟩:=hg
   have hlt:(g:Int) < (f.n:Int):=of_decide_eq_true hlt
   have hgn:g < f.n:=by omega
   have eg:((g:Nat):Int).toNat=g:=by omega
   rw [eg]
   refine ⟨⟨by omega,hlt⟩,hi _ hgn,fun _=>⟨vb _ pl,vb _ hk,vb _ hgn⟩,fun _=>⟨vb _ hk,vb _ nl,vb _ hgn⟩,fun _=>⟨vb _ nl,vb _ pl,vb _ hgn⟩,fun h=>?_,fun h=>⟨iK,g+1,rfl,rfl,⟨rfl,fun _ _=>rfl⟩,rfl,rfl,rfl,⟨rfl,fun _ _=>rfl⟩,rfl,rfl,rfl,rfl,rfl,rfl,⟨by omega,fun j hj=>?_⟩,by omega⟩⟩
   · exact (ear_no hgn h).symm
   · rcases Nat.lt_succ_iff_lt_or_eq.1 hj with h' | rfl
     · exact g2 j h'
     · exact h
 · have hge:¬ (g:Int) < (f.n:Int):=of_decide_eq_false hge
   exact (ear_yes (of_decide_eq_false hc) (fun j hj=>hg.2 j (by omega))).symm)
theorem p_ear_ok:SpecOk Tryz.prog 17 p_ear_S:=fnX Tryz.func17 (c:=bodyOf Tryz.f17) (by kernel_rfl) mixed (fun args p r hs hp=>by
 unfold p_ear_s at hs
 split at hs
 · cases hs;exact ⟨_,_,p_ear_vc _ _ _ hp.2.2,(.p (.sl hp.1) (.p (.sl hp.2.1) (.same _ .nil))),⟨show SpecsL Tryz.prog _ from (SpecsL.cons p_cross_ok p_cross_en SpecsL.nil),rfl,⟨show ItersL Tryz.prog _ from ItersL.nil,(TrsOk.none (fun _=>rfl))⟩⟩⟩
 · cases hs)
theorem p_ear_en:Enters Tryz.prog 17:=fun args w=>by kernel_rfl
def p_Triangles_p (l:(L.Sq L.Pt)):Prop:=l.n <= 1000000
def p_Triangles_r (l:(L.Sq L.Pt)):SV:=.tup [.sl 3 (L.trN l) (fun k=>[.int .i64 ((L.trg l k).a),.int .i64 ((L.trg l k).b),.int .i64 ((L.trg l k).c)]),.int .i64 (bif L.validOutline l then 0 else 1)]
def p_Triangles_s:List EV -> Option (Prop × SV)
 | [.p (.sl 2 l_n l_g)]=>some ((∀ i,i < l_n -> l_g i = [.int .i64 ((ofPt (l_g i)).x),.int .i64 ((ofPt (l_g i)).y)]) /\ p_Triangles_p (⟨l_n,fun i=>ofPt (l_g i)⟩:(L.Sq L.Pt)),p_Triangles_r (⟨l_n,fun i=>ofPt (l_g i)⟩:(L.Sq L.Pt)))
 | _=>none
abbrev p_Triangles_S:SE.Spec:=(specO p_Triangles_s)
def p_Triangles_C:Cfg:={ cC with muts:=[16,69,87],frz:=lookN [(9,[16]),(21,[87])],specs:=lookS [(15,p_ValidOutline_S),(17,p_ear_S)],trs:=lookT [(18,s_sortI_tr)],ren:=fun k=>k - 1000,nilsL:=lookM [(10,[(6,84,31,3)])] }
theorem p_Triangles_vc (l:(L.Sq L.Pt)) (hp:p_Triangles_p l):vc Tryz.prog ({ p_Triangles_C with loops:=lookL [(5,{ T:=Nat,keep:=[0,4,18],keepO:=[],chg:=fun k=>[(19,.p (.int .i64 (k:Int)))],own:=fun g=>[(16,.row 3 1 l.n (fun k=>[.int .i64 (bif decide (k < g) then (k:Int) else 0)]))],inv:=fun k=>k <= l.n,mu:=fun k=>l.n - k }),(10,{ T:=Nat,keep:=[0],keepO:=[],chg:=fun g=>[(4,.p (.sl 1 (L.lft l g).n (fun k=>[.int .i64 ((L.lft l g).g k)]))),(6,.row 84)],own:=fun g=>[(84,.row 31 3 g (fun k=>[.int .i64 ((L.trg l k).a),.int .i64 ((L.trg l k).b),.int .i64 ((L.trg l k).c)]))],inv:=fun g=>g+2 <= l.n,mu:=fun g=>l.n - g }),(13,{ T:=Nat × Nat,keep:=[0,4,6,7],keepO:=[84],tie:=fun g=>[(7,.int .i64 ((L.lft l g.1).n:Int))],chg:=fun g=>[(8,.p (.int .i64 (g.2:Int)))],own:=fun _=>[],inv:=fun g=>g.1+3 <= l.n /\ g.2 < (L.lft l g.1).n /\ ((L.lft l g.1).n <= 3 -> g.2=0) /\ ∀ j,j < g.2 -> L.ear l (L.lft l g.1) j=false,mu:=fun g=>(L.lft l g.1).n - g.2 })],rfs:=lookR [] }) (bodyOf Tryz.f6) (st0 Tryz.f6 [.p (.sl 2 l.n (fun i=>[.int .i64 ((l.g i).x),.int .i64 ((l.g i).y)]))]) (retFn Tryz.prog Tryz.f6 (p_Triangles_r l)) :=
 @Eq.mpr _ (let I:=SV.int .i64;let T:=Int.toNat;let M:=Int.tmod;let A31:=(2:Int);let A28:=(140737488355328:Int);let A25:=(3:Int);let A23:=(0:Nat);let A20:=(3:Nat);let A11:=(L.Sq.mk l.n fun (i:Nat)=>l.g i);let A29:=(!L.validOutline A11);let A10:=(∀ (i:Nat),let A26:=[I (l.g i).x,I (l.g i).y];i < l.n -> A26=A26);let A8:=(↑l.n:Int);let A19:=(↑(T A8):Int);let A7:=(l.n=l.n /\ ∀ (i:Nat),let A27:=[I (l.g i).x,I (l.g i).y];i < l.n -> A27=A27);let A5:=(0:Int);let A3:=(1:Int);(A10 /\ l.n <= (1000000:Nat)) /\ (A29=true -> L.trN l=A23 /\ A3=bif L.validOutline l then A5 else A3) /\ (A29=false -> (A5 <= A8 /\ A8 <= A8 /\ A8 * (↑(nat_lit 8):Int) <= A28) /\ (∃ (g:Nat),A5=(↑g:Int) /\ (T A8=l.n /\ ∀ (i:Nat),i < T A8 -> [I A5] = [I (bif decide (i < g) then (↑i:Int) else A5)]) /\ g <= l.n) /\ ∀ (g:Nat),let A12:=(↑g:Int);g <= l.n -> (decide (A12 < A19)=true -> (A5 <= A12 /\ A12 < A8) /\ T A12 < l.n /\ InK .i64 (A12+A3) /\ ∃ (g':Nat),A12+A3=(↑g':Int) /\ A19=A19 /\ A7 /\ (l.n=l.n /\ ∀ (i:Nat),i < l.n -> setRow (fun (k:Nat)=>[I (bif decide (k < g) then (↑k:Int) else A5)]) (T A12) (nat_lit 0) [I A12] i = [I (bif decide (i < g') then (↑i:Int) else A5)]) /\ g' <= l.n /\ l.n - g' < l.n - g) /\ (decide (A12 < A19)=false -> (∃ (g_1:Nat),(l.n=(L.lft l g_1).n /\ ∀ (i:Nat),i < l.n -> [I (bif decide (i < g) then (↑i:Int) else A5)] = [I ((L.lft l g_1).g i)]) /\ (A23=g_1 /\ ∀ (i:Nat),i < A23 -> [] = [I (L.trg l i).a,I (L.trg l i).b,I (L.trg l i).c]) /\ g_1+(2:Nat) <= l.n) /\ ∀ (g_1:Nat),let A6:=(L.lft l g_1);let A21:=(L.Sq.mk A6.n fun (i:Nat)=>A6.g i);let A1:=(↑A6.n:Int);let A9:=(A1 - A3);let A16:=(↑(T A9):Int);g_1+(2:Nat) <= l.n -> (decide (A25 <= A1)=true -> (∃ (g:Nat × Nat),let A24:=(L.lft l g.1);A5=(↑g.2:Int) /\ A1=(↑A24.n:Int) /\ g.1+A20 <= l.n /\ g.2 < A24.n /\ (A24.n <= A20 -> g.2=A23) /\ ∀ (j:Nat),j < g.2 -> L.ear l A24 j=false) /\ ∀ (g_2:Nat × Nat),let A13:=(L.lft l g_2.1);let A2:=(↑g_2.2:Int);let A22:=(A2+A1 - A3);let A14:=(A2+A3);let A4:=(bif bif decide (A25 < A1) then decide (A2 < A1 - A3) else false then !L.ear A11 A21 (T A2) else false);(A1=(↑A13.n:Int) /\ g_2.1+A20 <= l.n /\ g_2.2 < A13.n /\ (A13.n <= A20 -> g_2.2=A23) /\ ∀ (j:Nat),j < g_2.2 -> L.ear l A13 j=false) -> (decide (A25 < A1)=true -> InK .i64 A9) /\ ((bif decide (A25 < A1) then decide (A2 < A1 - A3) else false)=true -> A10 /\ (∀ (i:Nat),i < A6.n -> [I (A6.g i)] = [I (A6.g i)]) /\ (A20 <= A6.n /\ A6.n <= (1000:Nat)) /\ (A5 <= A2 /\ A2 < A1) /\ (l.n <= (1000:Nat) /\ ∀ (k:Nat),k < l.n -> L.bd (l.g k)) /\ L.inds l.n A21) /\ (A4=true -> InK .i64 A14 /\ ∃ (g':Nat × Nat),let A18:=(L.lft l g'.1);A2+A3=(↑g'.2:Int) /\ A1=A1 /\ (A6.n=A6.n /\ ∀ (i:Nat),i < A6.n -> [I (A6.g i)] = [I (A6.g i)]) /\ A7 /\ (g_1=g_1 /\ ∀ (i:Nat),let A15:=[I (L.trg l i).a,I (L.trg l i).b,I (L.trg l i).c];i < g_1 -> A15=A15) /\ (A1=(↑A18.n:Int) /\ g'.1+A20 <= l.n /\ g'.2 < A18.n /\ (A18.n <= A20 -> g'.2=A23) /\ ∀ (j:Nat),j < g'.2 -> L.ear l A18 j=false) /\ A18.n - g'.2 < A13.n - g_2.2) /\ (A4=false -> InK .i64 (A2+A1) /\ InK .i64 A22 /\ A1 ≠ A5 /\ (A5 <= M A22 A1 /\ M A22 A1 < A1) /\ (A5 <= A2 /\ A2 < A1) /\ InK .i64 A14 /\ A1 ≠ A5 /\ (A5 <= M A14 A1 /\ M A14 A1 < A1) /\ ∃ (t:Nat × (Nat -> Int)),let A30:=(↑t.1:Int);(nat_lit 3=t.1 /\ ∀ (i:Nat),i < nat_lit 3 -> rowsOf [I (A6.g (T (M A22 A1))),I (A6.g (T A2)),I (A6.g (T (M A14 A1)))] (nat_lit 1) i = [I (t.2 i)]) /\ ((1:Nat) <= t.1 /\ t.1 <= (1000000:Nat)) /\ ∀ (u:Nat -> Int),L.isSort t.1 t.2 u -> (A5 <= A5 /\ A5 < A30) /\ T A5 < t.1 /\ (A5 <= A3 /\ A3 < A30) /\ T A3 < t.1 /\ (A5 <= A31 /\ A31 < A30) /\ T A31 < t.1 /\ (g_1+nat_lit 1) * nat_lit 24 <= (140737488355328:Nat) /\ InK .i64 A9 /\ (A5 <= A1 - A3 /\ A1 - A3 <= A1 - A3 /\ A9 * (↑(nat_lit 8):Int) <= A28) /\ (A5 <= A5 /\ A5 <= A2 /\ A2 <= A1) /\ nat_lit 0+T A9 <= T A9 /\ T (A2 - A5) <= T A9 /\ (A5 <= A2 /\ A2 <= A16 /\ A16 <= A16) /\ InK .i64 A14 /\ (A5 <= A2+A3 /\ A2+A3 <= A1 /\ A1 <= A1) /\ T A2+T (A16 - A2) <= T A9 /\ T (A1 - A14) <= T (A16 - A2) /\ ∃ (g':Nat),(T A9=(L.lft l g').n /\ ∀ (i:Nat),i < T A9 -> cpyGet (T A2) (T (A1 - A14)) (fun (i:Nat)=>[I (A6.g (T A14+i))]) (cpyGet (nat_lit 0) (T (A2 - A5)) (fun (i:Nat)=>[I (A6.g (T A5+i))]) fun (x:Nat)=>[I A5]) i = [I ((L.lft l g').g i)]) /\ A7 /\ (g_1+nat_lit 1=g' /\ ∀ (i:Nat),i < g_1+nat_lit 1 -> appGet g_1 (fun (k:Nat)=>[I (L.trg l k).a,I (L.trg l k).b,I (L.trg l k).c]) (fun (x:Nat)=>[I (u (T A5)),I (u (T A3)),I (u (T A31))]) i = [I (L.trg l i).a,I (L.trg l i).b,I (L.trg l i).c]) /\ g'+(2:Nat) <= l.n /\ l.n - g' < l.n - g_1)) /\ (decide (A25 <= A1)=false -> (g_1=L.trN l /\ ∀ (i:Nat),let A17:=[I (L.trg l i).a,I (L.trg l i).b,I (L.trg l i).c];i < g_1 -> A17=A17) /\ A5=bif L.validOutline l then A5 else A3)))) (by kernel_rfl) (by
 conv=>zeta
 have hn:l.n <= 1000000:=hp
 refine ⟨⟨fun _ _=>rfl,hn⟩,fun h=>?_,fun h=>?_⟩
 · have hv:L.validOutline l=false:=notT h
   unfold L.trN;rw [hv];exact ⟨rfl,rfl⟩
 have hv:L.validOutline l=true:=notF h
 obtain ⟨n3,n24,hsm,hbd⟩:=validOutline_of hv
 have en:((l.n:Nat):Int).toNat=l.n:=by omega
 rw [en]
 refine ⟨⟨by omega,by omega,by show (l.n:Int) * 8 <= 140737488355328;omega⟩,⟨0,rfl,⟨rfl,fun i _=>by rw [decide_eq_false (Nat.not_lt_zero i)];rfl⟩,Nat.zero_le _⟩,fun g hg=>⟨fun hlt=>?_,fun hge=>?_⟩⟩
 · have hlt:(g:Int) < (l.n:Int):=of_decide_eq_true hlt
   have eg:((g:Nat):Int).toNat=g:=by omega
   rw [eg]
   refine ⟨⟨by omega,hlt⟩,by omega,iK,g+1,rfl,rfl,⟨rfl,fun _ _=>rfl⟩,⟨rfl,fun i hi=>?_⟩,by omega,by omega⟩
   unfold setRow
   by_cases e:i=g
   · rw [if_pos e,decide_eq_true (show i < g+1 by omega),e];rfl
   · rw [if_neg e]
     dsimp only
     by_cases e2:i < g
     · rw [decide_eq_true e2,decide_eq_true (show i < g+1 by omega)]
     · rw [decide_eq_false e2,decide_eq_false (show ¬ i < g+1 by omega)]
 have hge:¬ (g:Int) < (l.n:Int):=of_decide_eq_false hge
 refine ⟨⟨0,⟨rfl,fun i hi=>?_⟩,⟨rfl,fun i hi=>absurd hi (Nat.not_lt_zero _)⟩,by omega⟩,fun k hk=>⟨fun h3=>?_,fun h3=>?_⟩⟩
 · rw [decide_eq_true (show i < g by omega)];rfl
 rotate_left
 · have h3:¬ (3:Int) <= ((L.lft l k).n:Int):=of_decide_eq_false h3
   have lk:(L.lft l k).n=l.n - k:=lft_n
   refine ⟨⟨?_,fun _ _=>rfl⟩,by rw [hv];rfl⟩
   unfold L.trN;rw [hv];show k=l.n - 2;omega
 have h3:(3:Int) <= ((L.lft l k).n:Int):=of_decide_eq_true h3
 have lk:(L.lft l k).n=l.n - k:=lft_n
 have hin:L.inds l.n (L.lft l k):=lft_inds
 refine ⟨⟨(k,0),rfl,rfl,by show k+3 <= l.n;omega,by show 0 < (L.lft l k).n;omega,fun _=>rfl,fun j hj=>absurd hj (Nat.not_lt_zero _)⟩,?_⟩
 rintro ⟨k',i⟩ ⟨t1,t2,t3,t4,t5⟩
 have t1:((L.lft l k).n:Int)=((L.lft l k').n:Int):=t1
 have t2:k'+3 <= l.n:=t2
 have lk':(L.lft l k').n=l.n - k':=lft_n
 obtain rfl:k'=k:=by omega
 have t3:i < (L.lft l k').n:=t3
 have t4:(L.lft l k').n <= 3 -> i=0:=t4
 have t5:∀ j,j < i -> L.ear l (L.lft l k') j=false:=t5
 dsimp only
 have ei:((i:Nat):Int).toNat=i:=by omega
 rw [ei]
 refine ⟨fun h=>iK,fun h=>⟨fun _ _=>rfl,fun _ _=>rfl,⟨by omega,by omega⟩,⟨by omega,by omega⟩,⟨by omega,hbd.2⟩,hin⟩,fun h=>?_,fun h=>?_⟩
 · obtain ⟨x1,x2,x3⟩:=bif3.1 h
   refine ⟨iK,(k',i+1),rfl,rfl,⟨rfl,fun _ _=>rfl⟩,⟨rfl,fun _ _=>rfl⟩,⟨rfl,fun _ _=>rfl⟩,⟨rfl,t2,by show i+1 < (L.lft l k').n;omega,fun q=>by (have q:(L.lft l k').n <= 3:=q);omega,fun j hj=>?_⟩,by show (L.lft l k').n - (i+1) < (L.lft l k').n - i;omega⟩
   have hj:j < i+1:=hj
   rcases Nat.lt_succ_iff_lt_or_eq.1 hj with h' | rfl
   · exact t5 j h'
   · exact x3
 have hE:L.earK l (L.lft l k')=i:=earK_of t3 t4 t5 (fun a b=>by
   cases he:L.ear l (L.lft l k') i with
   | true=>rfl
   | false=>exact absurd ((bif3 (a:=(3:Int) < ((L.lft l k').n:Int)) (b:=(i:Int) < ((L.lft l k').n:Int) - 1)).2 ⟨by omega,by omega,he⟩) (by rw [h];decide))
 have tp:=Int.tmod_nonneg (a:=(i:Int)+((L.lft l k').n:Int) - 1) ((L.lft l k').n:Int) (by omega)
 have tq:=Int.tmod_lt_of_pos ((i:Int)+((L.lft l k').n:Int) - 1) (b:=((L.lft l k').n:Int)) (by omega)
 have up:=Int.tmod_nonneg (a:=(i:Int)+1) ((L.lft l k').n:Int) (by omega)
 have uq:=Int.tmod_lt_of_pos ((i:Int)+1) (b:=((L.lft l k').n:Int)) (by omega)
 have e1:(((L.lft l k').n:Int) - 1).toNat=(L.lft l k').n - 1:=by omega
 have e2:((i:Int) - 0).toNat=i:=by omega
 have e3:((i:Int)+1).toNat=i+1:=by omega
 have e4:(((L.lft l k').n:Int) - ((i:Int)+1)).toNat=(L.lft l k').n - (i+1):=by omega
 have e5:((((L.lft l k').n - 1:Nat):Int) - (i:Int)).toNat=(L.lft l k').n - 1 - i:=by omega
 rw [e1,e2,e3,e4,e5]
 refine ⟨iK,iK,by omega,⟨tp,tq⟩,⟨by omega,by omega⟩,iK,by omega,⟨up,uq⟩,(3,fun j=>if j=0 then (L.lft l k').g (L.prev (L.lft l k').n i) else if j=1 then (L.lft l k').g i else (L.lft l k').g (L.next (L.lft l k').n i)),⟨rfl,fun j hj=>?_⟩,⟨show 1 <= 3 by omega,show 3 <= 1000000 by omega⟩,fun u hu=>?_⟩
 · have hj:j < 3:=hj
   match j,hj with
   | 0,_=>rfl
   | 1,_=>rfl
   | 2,_=>rfl
 have hs:=sort3 hu
 have eT:L.trg l k'=⟨u 0,u 1,u 2⟩:=by unfold L.trg;rw [hE];exact hs.symm
 refine ⟨⟨by omega,show (0:Int) < ((3:Nat):Int) by omega⟩,show 0 < 3 by omega,⟨by omega,show (1:Int) < ((3:Nat):Int) by omega⟩,show 1 < 3 by omega,⟨by omega,show (2:Int) < ((3:Nat):Int) by omega⟩,show 2 < 3 by omega,by omega,iK,⟨by omega,by omega,by omega⟩,⟨by omega,by omega,by omega⟩,by omega,by omega,⟨by omega,by omega,by omega⟩,iK,⟨by omega,by omega,by omega⟩,by omega,by omega,k'+1,⟨rfl,fun j hj=>?_⟩,⟨rfl,fun _ _=>rfl⟩,⟨rfl,fun j hj=>?_⟩,by omega,by omega⟩
 · show _ = [SV.int .i64 (bif decide (j < L.earK l (L.lft l k')) then (L.lft l k').g j else (L.lft l k').g (j+1))]
   rw [hE]
   unfold cpyGet
   by_cases hji:j < i
   · rw [if_neg (by omega),if_pos (by omega),decide_eq_true hji]
     show [SV.int .i64 ((L.lft l k').g (0+(j - 0)))] = [SV.int .i64 ((L.lft l k').g j)]
     rw [show 0+(j - 0)=j by omega]
   · rw [if_pos (by omega),decide_eq_false hji]
     show [SV.int .i64 ((L.lft l k').g (i+1+(j - i)))] = [SV.int .i64 ((L.lft l k').g (j+1))]
     rw [show i+1+(j - i)=j+1 by omega]
 · unfold appGet
   by_cases h':j < k'
   · rw [if_pos h']
   · rw [if_neg h']
     obtain rfl:j=k':=by omega
     rw [eT];rfl)
theorem p_Triangles_ok:SpecOk Tryz.prog 6 p_Triangles_S:=fnX Tryz.func6 (c:=bodyOf Tryz.f6) (by kernel_rfl) mixed (fun args p r hs hp=>by
 unfold p_Triangles_s at hs
 split at hs
 · cases hs;exact ⟨_,_,p_Triangles_vc _ hp.2,(.p (.sl hp.1) .nil),⟨show SpecsL Tryz.prog _ from (SpecsL.cons p_ValidOutline_ok p_ValidOutline_en (SpecsL.cons p_ear_ok p_ear_en SpecsL.nil)),rfl,⟨show ItersL Tryz.prog _ from ItersL.nil,(show TrsL Tryz.prog _ from (TrsL.cons s_sortI_tok s_sortI_en TrsL.nil))⟩⟩⟩
 · cases hs)
theorem p_Triangles_en:Enters Tryz.prog 6:=fun args w=>by kernel_rfl
end Go.Proofs.YtinfalehnaejbaaGreat
namespace Go.Proofs.YtinfalehnaejbaaGreat
open Go.SE Go.RowKit
set_option maxRecDepth 100000
set_option maxHeartbeats 4000000
set_option linter.unusedVariables false
attribute [local irreducible] vc
def L.dbl (p:L.Pt):L.Pt:=⟨2 * p.x,2 * p.y⟩
def L.onE (l:L.Sq L.Pt) (p:L.Pt) (k:Nat):Bool:=L.on (l.g k) (l.g (L.next l.n k)) p
def L.upE (a b p:L.Pt):Bool:=bif (bif decide (a.y <= p.y) then decide (p.y < b.y) else false) then decide (0 < L.cross a b p) else false
def L.crE (a b p:L.Pt):Bool:=bif L.upE a b p then true else bif (bif decide (b.y <= p.y) then decide (p.y < a.y) else false) then decide (L.cross a b p < 0) else false
def L.par (l:L.Sq L.Pt) (p:L.Pt):Nat -> Bool
 | 0=>false
 | k+1=>bif L.crE (l.g k) (l.g (L.next l.n k)) p then !L.par l p k else L.par l p k
def L.sgn (b:Bool):Int:=bif b then 1 else -1
def L.wher (l:L.Sq L.Pt) (p:L.Pt):Int:=bif L.anyB l.n (L.onE l p) then 0 else L.sgn (L.par l p l.n)
theorem cross_fl (a b c:L.Pt):L.cross b a c = - L.cross a b c:=by
 unfold L.cross
 simp only [Int.sub_mul,Int.mul_sub]
 have h1:=Int.mul_comm a.x b.y
 have h2:=Int.mul_comm a.x c.y
 have h3:=Int.mul_comm a.y b.x
 have h4:=Int.mul_comm a.y c.x
 have h5:=Int.mul_comm b.x c.y
 have h6:=Int.mul_comm b.y c.x
 have h7:=Int.mul_comm a.y a.x
 have h8:=Int.mul_comm b.y b.x
 omega
theorem cr_sorted (a b p:L.Pt):L.crE a b p=bif decide (b.y < a.y) then L.upE b a p else L.upE a b p:=by
 rw [Bool.eq_iff_iff]
 unfold L.crE L.upE
 rw [cross_fl a b p]
 by_cases h:b.y < a.y
 · rw [decide_eq_true h]
   simp only [band,bor,Bool.or_eq_true,Bool.and_eq_true,decide_eq_true_eq,cond_true]
   omega
 · rw [decide_eq_false h]
   simp only [band,bor,Bool.or_eq_true,Bool.and_eq_true,decide_eq_true_eq,cond_false]
   omega
def L.dblS (l:L.Sq L.Pt):L.Sq L.Pt:=⟨l.n,fun k=>L.dbl (l.g k)⟩
theorem sgn_bd (b:Bool) : -1 <= L.sgn b /\ L.sgn b <= 1:=by cases b <;> decide
theorem sgn_not (b:Bool):0 - L.sgn b=L.sgn (!b):=by cases b <;> rfl
theorem wher_on {l:L.Sq L.Pt} {p:L.Pt} {k:Nat} (hk:k < l.n) (h:L.onE l p k=true):0=L.wher l p:=by
 unfold L.wher;rw [anyB_iff.2 ⟨k,hk,h⟩];rfl
theorem wher_off {l:L.Sq L.Pt} {p:L.Pt} (h:∀ j,j < l.n -> L.onE l p j=false):L.sgn (L.par l p l.n)=L.wher l p:=by
 unfold L.wher;rw [anyB_no h];rfl
theorem pts_valid {l:L.Sq L.Pt} (h:L.validOutline l=true):∀ i,i < l.n -> L.validPt (l.g i)=true:=by
 unfold L.validOutline L.valid3 at h
 rw [Bool.and_eq_true] at h
 cases hc:(bif !L.within (l.n:Int) 3 24 then true else !L.validPts l) with
 | true=>rw [hc] at h;exact absurd h.1 Bool.noConfusion
 | false =>
   rw [bor,Bool.or_eq_false_iff] at hc
   exact allB_iff.1 (notF hc.2)
theorem dbl_bd {p:L.Pt} (h:L.validPt p=true):(0 <= (L.dbl p).x /\ (L.dbl p).x <= 8192 /\ 0 <= (L.dbl p).y /\ (L.dbl p).y <= 8192) /\ L.bd (L.dbl p):=by
 unfold L.validPt at h
 rw [Bool.and_eq_true,within_iff,within_iff] at h
 unfold L.bd L.dbl
 dsimp only
 omega
def p_place_p (l:(L.Sq L.Pt)) (p:L.Pt):Prop:=L.validOutline l=true /\ L.bd p
def p_place_r (l:(L.Sq L.Pt)) (p:L.Pt):SV:=.int .i64 (L.wher (⟨l.n,fun k=>L.dbl (l.g k)⟩:L.Sq L.Pt) p)
def p_place_s:List EV -> Option (Prop × SV)
 | [.p (.sl 2 l_n l_g),.p (.agg [.int .i64 p_x,.int .i64 p_y])]=>some ((∀ i,i < l_n -> l_g i = [.int .i64 ((ofPt (l_g i)).x),.int .i64 ((ofPt (l_g i)).y)]) /\ p_place_p (⟨l_n,fun i=>ofPt (l_g i)⟩:(L.Sq L.Pt)) (⟨p_x,p_y⟩:L.Pt),p_place_r (⟨l_n,fun i=>ofPt (l_g i)⟩:(L.Sq L.Pt)) (⟨p_x,p_y⟩:L.Pt))
 | _=>none
abbrev p_place_S:SE.Spec:=(specO p_place_s)
def p_place_C:Cfg:={ cC with muts:=[4,5,7,8,9],specs:=lookS [(26,p_triples_S),(59,p_on_S),(31,p_cross_S)],iters:=lookI [(56,p_triples1_it)] }
theorem p_place_vc (l:(L.Sq L.Pt)) (p:L.Pt) (hp:p_place_p l p):vc Tryz.prog ({ p_place_C with loops:=lookL [],rfs:=lookR [(3,{ T:=Nat,keep:=[3,4,5],keepO:=[4],own:=fun k _=>[(5,.blk 3 [.p (.int .i64 (L.sgn (L.par (⟨l.n,fun k=>L.dbl (l.g k)⟩:L.Sq L.Pt) p k)))])],inv:=fun k _=>∀ j,j < k -> L.onE (⟨l.n,fun k=>L.dbl (l.g k)⟩:L.Sq L.Pt) p j=false })] }) (bodyOf Tryz.f33) (st0 Tryz.f33 [.p (.sl 2 l.n (fun i=>[.int .i64 ((l.g i).x),.int .i64 ((l.g i).y)])),.p (.agg [.int .i64 p.x,.int .i64 p.y])]) (retFn Tryz.prog Tryz.f33 (p_place_r l p)) :=
 @Eq.mpr _ (let I:=SV.int .i64;let T:=Int.toNat;let M:=Int.tmod;let A21:=(1:Nat);let A17:=(nat_lit 3);let A16:=(nat_lit 4);let A15:=(nat_lit 5);let A14:=(nat_lit 0);let A12:=[I p.x,I p.y];let A11:=((∀ (i:Nat),let A22:=[I (l.g i).x,I (l.g i).y];i < l.n -> A22=A22) /\ l.n <= (1000:Nat));let A10:=(0:Int);let A19:=(A10 <= (1:Int) /\ (1:Int) < (↑(3
:Nat):Int));let A9:=(2:Int);let A20:=(A10 <= A9 /\ A9 < (↑(3:Nat):Int));let A7:=(L.Sq.mk l.n fun (k:Nat)=>L.dbl (l.g k));A11 /\ (A11 /\ ∃ (t:Nat),(-1:Int)=L.sgn (L.par A7 p (0:Nat)) /\ A10=A10 /\ ∀ (j:Nat),j < (0:Nat) -> L.onE A7 p j=false) /\ (∀ (k t:Nat) (vk:Nat -> Go.Value),let A8:=(l.g (T (↑k:Int)));let A3:=(L.Sq.mk l.n fun (k:Nat)=>L.dbl (l.g
 k));let A18:=(L.par A3 p k);let A13:=(L.par A3 p (k+A21));let A2:=(L.Pt.mk (A9 * A8.x) (A9 * A8.y));let A1:=(l.g (T (M ((↑k:Int)+(1:Int)) (↑l.n:Int))));let A4:=(L.Pt.mk (A9 * A1.x) (A9 * A1.y));let A6:=(bif bif decide (A9 * A8.y <= p.y) then decide (p.y < A9 * A1.y) else false then decide (A10 < L.cross A2 A4 p) else false);let A5
:=(bif bif decide (A9 * A1.y <= p.y) then decide (p.y < A9 * A8.y) else false then decide (A10 < L.cross A4 A2 p) else false);k < l.n -> (∀ (j:Nat),j < k -> L.onE A3 p j=false) -> A19 /\ InK .i64 (A9 * A8.x) /\ A19 /\ InK .i64 (A9 * A8.y) /\ A20 /\ InK .i64 (A9 * A1.x) /\ A20 /\ InK .i64 (A9 *
 A1.y) /\ (L.bd A2 /\ L.bd A4 /\ L.bd p) /\ (L.on A2 A4 p=true -> nat_lit 0=nat_lit 0 /\ nat_lit 0=nat_lit 0 /\ SV.ref A12 A14=SV.ref A12 A14 /\ vk A15=vk A15 /\ vk A16=vk A16 /\ vk A17=vk A17 /\ A10=L.wher A3 p) /\ (L.on A2 A4 p=false -> (decide (A9 * A1.y < A9 * A8.y)=true -> ((bif decide (A9 * A1.y <= p.y) then decide (p.y < A9 *
 A8.y) else false)=true -> L.bd A4 /\ L.bd A2 /\ L.bd p) /\ (A5=true -> InK .i64 (A10 - L.sgn A18) /\ ∃ (t':Nat),nat_lit 0=nat_lit 0 /\ nat_lit 0=nat_lit 0 /\ SV.ref A12 A14=SV.ref A12 A14 /\ vk A15=vk A15 /\ vk A16=vk A16 /\ vk A17=vk A17 /\ A10 - L.sgn A18=L.sgn A13 /\ A10=A10 /\ ∀ (j:Nat),j < k+A21 -> L.onE A3 p j=false) /\ (A5 =
 false -> ∃ (t':Nat),nat_lit 0=nat_lit 0 /\ nat_lit 0=nat_lit 0 /\ SV.ref A12 A14=SV.ref A12 A14 /\ vk A15=vk A15 /\ vk A16=vk A16 /\ vk A17=vk A17 /\ L.sgn A18=L.sgn A13 /\ A10=A10 /\ ∀ (j:Nat),j < k+A21 -> L.onE A3 p j=false)) /\ (decide (A9 * A1.y < A9 * A8.y)=false -> ((bif decide (A9 * A8.y <= p.y) then decide (p.y < A9 *
 A1.y) else false)=true -> L.bd A2 /\ L.bd A4 /\ L.bd p) /\ (A6=true -> InK .i64 (A10 - L.sgn A18) /\ ∃ (t':Nat),nat_lit 0=nat_lit 0 /\ nat_lit 0=nat_lit 0 /\ SV.ref A12 A14=SV.ref A12 A14 /\ vk A15=vk A15 /\ vk A16=vk A16 /\ vk A17=vk A17 /\ A10 - L.sgn A18=L.sgn A13 /\ A10=A10 /\ ∀ (j:Nat),j < k+A21 -> L.onE A3 p j=false) /\ (A6 =
 false -> ∃ (t':Nat),nat_lit 0=nat_lit 0 /\ nat_lit 0=nat_lit 0 /\ SV.ref A12 A14=SV.ref A12 A14 /\ vk A15=vk A15 /\ vk A16=vk A16 /\ vk A17=vk A17 /\ L.sgn A18=L.sgn A13 /\ A10=A10 /\ ∀ (j:Nat),j < k+A21 -> L.onE A3 p j=false)))) /\ ∀ (t:Nat),(∀ (j:Nat),j < l.n -> L.onE A7 p j=false) -> L.sgn (L.par A7 p l.n)=L.wher A7 p) (by kernel_rfl) (by
    conv=>zeta
    obtain ⟨hv,hbq⟩:=hp
    obtain ⟨n3,n24,_,_⟩:=validOutline_of hv
    have hpt:=pts_valid hv
    refine ⟨⟨fun _ _=>rfl,by omega⟩,⟨⟨fun _ _=>rfl,by omega⟩,0,rfl,rfl,fun j hj=>absurd hj (Nat.not_lt_zero _)⟩,fun k t vk hk h0=>?_,fun t h0=>wher_off (l:=L.dblS l) h0⟩
    have hkn:L.next l.n k < l.n:=next_lt (by omega)
    have hk:k < l.n:=hk
    obtain ⟨⟨a1,a2,a3,a4⟩,ha⟩:=dbl_bd (hpt k hk)
    obtain ⟨⟨b1,b2,b3,b4⟩,hb⟩:=dbl_bd (hpt _ hkn)
    have e0:((k:Int)).toNat=k:=Int.toNat_natCast k
    rw [e0]
    have hs:=sgn_bd (L.par (L.dblS l) p k)
    have hst:L.par (L.dblS l) p (k+1)=bif L.crE (L.dbl (l.g k)) (L.dbl (l.g (L.next l.n k))) p then !L.par (L.dblS l) p k else L.par (L.dblS l) p k:=rfl
    rw [cr_sorted] at hst
    have hoff:L.onE (L.dblS l) p k=false -> ∀ j,j < k+1 -> L.onE (L.dblS l) p j=false:=fun h j hj=>by
      rcases Nat.lt_succ_iff_lt_or_eq.1 hj with h' | rfl
      · exact h0 j h'
      · exact h
    have yes:∀ {c:Bool},L.par (L.dblS l) p (k+1)=(bif c then !L.par (L.dblS l) p k else L.par (L.dblS l) p k) -> c=true -> 0 - L.sgn (L.par (L.dblS l) p k)=L.sgn (L.par (L.dblS l) p (k+1)):=fun h hc=>by
      rw [h,hc,sgn_not];rfl
    have no:∀ {c:Bool},L.par (L.dblS l) p (k+1)=(bif c then !L.par (L.dblS l) p k else L.par (L.dblS l) p k) -> c=false -> L.sgn (L.par (L.dblS l) p k)=L.sgn (L.par (L.dblS l) p (k+1)):=fun h hc=>by
      rw [h,hc];rfl
    refine ⟨by decide,InK.of (Int.le_trans (by decide) a1) (Int.le_trans a2 (by decide)),by decide,InK.of (Int.le_trans (by decide) a3) (Int.le_trans a4 (by decide)),by decide,InK.of (Int.le_trans (by decide) b1) (Int.le_trans b2 (by decide)),by decide,InK.of (Int.le_trans (by decide) b3) (Int.le_trans b4 (by decide)),⟨ha,hb,hbq⟩,fun h=>⟨rfl,rfl,rfl,rfl,rfl,rfl,wher_on (l:=L.dblS l) hk h⟩,fun h=>⟨fun hc=>?_,fun hc=>?_⟩⟩
    · have hc:decide ((L.dbl (l.g (L.next l.n k))).y < (L.dbl (l.g k)).y)=true:=hc
      rw [hc] at hst
      exact ⟨fun _=>⟨hb,ha,hbq⟩,fun hu=>⟨InK.of (by show _ <= 0 - L.sgn (L.par (L.dblS l) p k);omega) (by show 0 - L.sgn (L.par (L.dblS l) p k) <= _;omega),0,rfl,rfl,rfl,rfl,rfl,rfl,yes hst hu,rfl,hoff h⟩,fun hu=>⟨0,rfl,rfl,rfl,rfl,rfl,rfl,no hst hu,rfl,hoff h⟩⟩
    · have hc:decide ((L.dbl (l.g (L.next l.n k))).y < (L.dbl (l.g k)).y)=false:=hc
      rw [hc] at hst
      exact ⟨fun _=>⟨ha,hb,hbq⟩,fun hu=>⟨InK.of (by show _ <= 0 - L.sgn (L.par (L.dblS l) p k);omega) (by show 0 - L.sgn (L.par (L.dblS l) p k) <= _;omega),0,rfl,rfl,rfl,rfl,rfl,rfl,yes hst hu,rfl,hoff h⟩,fun hu=>⟨0,rfl,rfl,rfl,rfl,rfl,rfl,no hst hu,rfl,hoff h⟩⟩)
theorem p_place_ok:SpecOk Tryz.prog 33 p_place_S:=fnX Tryz.func33 (c:=bodyOf Tryz.f33) (by kernel_rfl) mixed (fun args p r hs hp=>by
 unfold p_place_s at hs
 split at hs
 · cases hs;exact ⟨_,_,p_place_vc _ _ hp.2,(.p (.sl hp.1) (.same _ .nil)),⟨show SpecsL Tryz.prog _ from (SpecsL.cons p_triples_ok p_triples_en (SpecsL.cons p_on_ok p_on_en (SpecsL.cons p_cross_ok p_cross_en SpecsL.nil))),rfl,⟨show ItersL Tryz.prog _ from (ItersL.cons p_triples1_itok p_triples1_en ItersL.nil),(TrsOk.none (fun _=>rfl))⟩⟩⟩
 · cases hs)
theorem p_place_en:Enters Tryz.prog 33:=fun args w=>by kernel_rfl
end Go.Proofs.YtinfalehnaejbaaGreat
namespace Go.Proofs.YtinfalehnaejbaaGreat
open Go.SE Go.RowKit
set_option maxRecDepth 100000
set_option maxHeartbeats 4000000
set_option linter.unusedVariables false
attribute [local irreducible] vc
open Conf
def L.spBad (l:L.Sq L.Pt) (u v:Int):Bool:=bif bif bif !L.validOutline l then true else decide (u < 0) then true else decide (v <= u) then true else decide ((l.n:Int) <= v)
def L.spNb (l:L.Sq L.Pt) (u v:Int):Bool:=bif decide (v=u+1) then true else bif decide (u=0) then decide (v=(l.n:Int) - 1) else false
def L.spEnd (l:L.Sq L.Pt) (u v:Int) (m:Nat):Bool:=bif bif bif decide ((m:Int)=u) then true else decide ((m:Int)=v) then true else decide (Int.tmod ((m:Int)+1) (l.n:Int)=u) then true else decide (Int.tmod ((m:Int)+1) (l.n:Int)=v)
def L.spHow (l:L.Sq L.Pt) (u v:Int) (m:Nat):Int:=L.meet (l.g u.toNat) (l.g v.toNat) (l.g m) (l.g (L.next l.n m))
def L.spE (l:L.Sq L.Pt) (u v:Int) (m:Nat):Bool:=bif L.spEnd l u v m then decide (L.spHow l u v m=1) else decide (L.spHow l u v m=0)
def L.spMid (l:L.Sq L.Pt) (u v:Int):L.Pt:=⟨(l.g u.toNat).x+(l.g v.toNat).x,(l.g u.toNat).y+(l.g v.toNat).y⟩
def L.spIn (l:L.Sq L.Pt) (u v:Int):Bool:=decide (L.wher ⟨l.n,fun k=>L.dbl (l.g k)⟩ (L.spMid l u v)=1)
def L.spDg (l:L.Sq L.Pt) (u v:Int):Bool:=bif L.allB l.n (L.spE l u v) then L.spIn l u v else false
def L.spErr (l:L.Sq L.Pt) (u v:Int):Int:=bif L.spBad l u v then 1 else bif L.spNb l u v then 12 else bif L.spDg l u v then 0 else 12
def L.sub (l:L.Sq L.Pt) (lo hi:Int):L.Sq L.Pt:=⟨(hi - lo).toNat,fun k=>l.g (lo.toNat+k)⟩
def L.ptA (l:L.Sq L.Pt) (u v:Int):L.Sq L.Pt:=L.sub l u (v+1)
def L.ptB (l:L.Sq L.Pt) (u v:Int):L.Sq L.Pt:=L.catTo (L.two (L.sub l v (l.n:Int)) (L.sub l 0 (u+1))) 2
def L.spA (l:L.Sq L.Pt) (u v:Int):L.Sq L.Pt:=L.norm (L.thin L.cFlat (L.ptA l u v))
def L.spB (l:L.Sq L.Pt) (u v:Int):L.Sq L.Pt:=L.norm (L.thin L.cFlat (L.ptB l u v))
theorem rot_toL {x:L.Sq L.Pt} {i:Nat} (h:i <= x.n):Rot (L.toL x) (L.toL (L.rot x i)):=by
 refine ⟨(L.toL x).take i,(L.toL x).drop i,(List.take_append_drop _ _).symm,?_⟩
 have lf:=toL_len x
 refine List.ext_getElem? fun k=>?_
 rw [toL_get]
 show (if k < x.n then some ((L.rot x i).g k) else none)=_
 by_cases hk:k < x.n
 · rw [if_pos hk]
   show some (bif decide (k < x.n - i) then x.g (i+k) else x.g (k - (x.n - i)))=_
   by_cases hd:k < x.n - i
   · rw [decide_eq_true hd,List.getElem?_append_left (by rw [List.length_drop];omega),List.getElem?_drop,toL_get,if_pos (by omega)];rfl
   · rw [decide_eq_false hd,List.getElem?_append_right (by rw [List.length_drop];omega),List.getElem?_take,List.length_drop,lf,if_pos (by omega),toL_get,if_pos (by omega)];rfl
 · rw [if_neg hk,List.getElem?_eq_none (by rw [List.length_append,List.length_drop,List.length_take];omega)]
theorem out_fine {l:L.Sq L.Pt} (hv:L.validOutline l=true):L.fine l:=by
 obtain ⟨n3,n24,hsm,hbd⟩:=validOutline_of hv
 obtain ⟨hp,hc⟩:=outline_all hv
 have hs:L.simple l=true:=by
   unfold L.validOutline at hv
   rw [Bool.and_eq_true,Bool.and_eq_true] at hv
   exact hv.2.2
 have hsh:L.sharp l:=fun i hi=>decide_eq_false (hc i hi)
 exact ⟨n3,by omega,hs,nodup_toL n3 hs hsh,fun p h=>by obtain ⟨k,hk,rfl⟩:=mem_toL.1 h;exact hbd.2 k hk⟩
theorem part_fine {x:L.Sq L.Pt} (h:L.fine x) {d:Nat} (h2:2 <= d) (hd:d+2 <= x.n)
   (hdi:∀ m,m < x.n -> L.meet (x.g 0) (x.g d) (x.g m) (x.g (L.next x.n m))=(if m=0 \/ m=d \/ m+1=d \/ m+1=x.n then 1 else 0)):L.fine ⟨d+1,x.g⟩:=by
 obtain ⟨h3,hn,hs,hnd,hb⟩:=h
 refine ⟨show 3 <= d+1 by omega,show d+1 <= 1000 by omega,part_simple hs h2 hd hdi,?_,fun p hp=>?_⟩
 · have hsub:(List.range (d+1)).Sublist (List.range x.n):=List.range_sublist.2 (by omega)
   exact List.Nodup.sublist (hsub.map x.g) hnd
 · obtain ⟨k,hk,rfl⟩:=mem_toL.1 hp
   exact hb _ (mem_toL.2 ⟨k,by have hk:k < d+1:=hk;omega,rfl⟩)
theorem part_of {l:L.Sq L.Pt} (hl:L.fine l) {a b d:Nat} (ha:a < l.n) (hd2:2 <= d) (hdn:d+2 <= l.n) (hb:(d < l.n - a /\ b=a+d) \/ (¬ d < l.n - a /\ b=d - (l.n - a)))
   (H:∀ m,m < l.n -> L.meet (l.g a) (l.g b) (l.g m) (l.g (L.next l.n m))=if m=a \/ m=b \/ L.next l.n m=a \/ L.next l.n m=b then 1 else 0):L.fine ⟨d+1,(L.rot l a).g⟩:=by
 have hx:L.fine (L.rot l a):=fine_rot hl (rot_toL (by omega))
 refine part_fine hx hd2 hdn (fun m hm=>?_)
 have hm:m < l.n:=hm
 have g1:∀ j,j < l.n - a -> (L.rot l a).g j=l.g (a+j):=fun j hj=>by
   show (bif decide (j < l.n - a) then l.g (a+j) else l.g (j - (l.n - a)))=_
   rw [decide_eq_true hj];rfl
 have g2:∀ j,¬ j < l.n - a -> (L.rot l a).g j=l.g (j - (l.n - a)):=fun j hj=>by
   show (bif decide (j < l.n - a) then l.g (a+j) else l.g (j - (l.n - a)))=_
   rw [decide_eq_false hj];rfl
 show L.meet ((L.rot l a).g 0) ((L.rot l a).g d) ((L.rot l a).g m) ((L.rot l a).g (L.next l.n m))=if m=0 \/ m=d \/ m+1=d \/ m+1=l.n then 1 else 0
 have e0:(L.rot l a).g 0=l.g a:=by rw [g1 0 (by omega)];rfl
 have ed:(L.rot l a).g d=l.g b:=by
   rcases hb with ⟨h1,h2⟩ | ⟨h1,h2⟩
   · rw [g1 d h1,h2]
   · rw [g2 d h1,h2]
 obtain ⟨m',m1,em,q1⟩:∃ m',m' < l.n /\ (L.rot l a).g m=l.g m' /\ ((m < l.n - a /\ m'=a+m) \/ (¬ m < l.n - a /\ m'=m - (l.n - a))):=by
   by_cases c:m < l.n - a
   · exact ⟨a+m,by omega,g1 m c,.inl ⟨c,rfl⟩⟩
   · exact ⟨m - (l.n - a),by omega,g2 m c,.inr ⟨c,rfl⟩⟩
 have q2:(m+1=l.n /\ L.next l.n m=0) \/ (m+1 ≠ l.n /\ L.next l.n m=m+1):=by
   rw [next_at hm];by_cases c:m+1=l.n
   · exact .inl ⟨c,if_pos c⟩
   · exact .inr ⟨c,if_neg c⟩
 have q3:(m'+1=l.n /\ L.next l.n m'=0) \/ (m'+1 ≠ l.n /\ L.next l.n m'=m'+1):=by
   rw [next_at m1];by_cases c:m'+1=l.n
   · exact .inl ⟨c,if_pos c⟩
   · exact .inr ⟨c,if_neg c⟩
 have en:(L.rot l a).g (L.next l.n m)=l.g (L.next l.n m'):=by
   by_cases c:L.next l.n m < l.n - a
   · rw [g1 _ c,show a+L.next l.n m=L.next l.n m' by omega]
   · rw [g2 _ c,show L.next l.n m - (l.n - a)=L.next l.n m' by omega]
 rw [e0,ed,em,en,H m' m1]
 by_cases c:m=0 \/ m=d \/ m+1=d \/ m+1=l.n
 · rw [if_pos c,if_pos (by omega)]
 · rw [if_neg c,if_neg (by omega)]
theorem spEnd_iff {l:L.Sq L.Pt} {a b m:Nat} (hn:0 < l.n):L.spEnd l (a:Int) (b:Int) m=true ↔ (m=a \/ m=b \/ L.next l.n m=a \/ L.next l.n m=b):=by
 have e:Int.tmod ((m:Int)+1) (l.n:Int)=((L.next l.n m:Nat):Int):=by
   unfold L.next
   have:=Int.tmod_nonneg (a:=(m:Int)+1) (l.n:Int) (by omega)
   omega
 unfold L.spEnd
 rw [e,bor,bor,bor,Bool.or_eq_true,Bool.or_eq_true,Bool.or_eq_true,decide_eq_true_eq,decide_eq_true_eq,decide_eq_true_eq,decide_eq_true_eq]
 omega
theorem spE_H {l:L.Sq L.Pt} {a b m:Nat} (hn:0 < l.n) (h:L.spE l (a:Int) (b:Int) m=true):L.meet (l.g a) (l.g b) (l.g m) (l.g (L.next l.n m))=if m=a \/ m=b \/ L.next l.n m=a \/ L.next l.n m=b then 1 else 0:=by
 have hh:L.spHow l (a:Int) (b:Int) m=L.meet (l.g a) (l.g b) (l.g m) (l.g (L.next l.n m)):=by
   unfold L.spHow;rw [Int.toNat_natCast,Int.toNat_natCast]
 unfold L.spE at h
 rw [hh] at h
 by_cases c:m=a \/ m=b \/ L.next l.n m=a \/ L.next l.n m=b
 · rw [(spEnd_iff hn).2 c] at h
   rw [if_pos c];exact of_decide_eq_true h
 · rw [show L.spEnd l (a:Int) (b:Int) m=false by cases hq:L.spEnd l (a:Int) (b:Int) m with | true=>exact absurd ((spEnd_iff hn).1 hq) c | false=>rfl] at h
   rw [if_neg c];exact of_decide_eq_true h
theorem spBad_no {l:L.Sq L.Pt} {u v:Int} (h:L.spBad l u v=false):L.validOutline l=true /\ 0 <= u /\ u < v /\ v < (l.n:Int):=by
 unfold L.spBad at h
 rw [bor,bor,bor,Bool.or_eq_false_iff,Bool.or_eq_false_iff,Bool.or_eq_false_iff] at h
 obtain ⟨⟨⟨h1,h2⟩,h3⟩,h4⟩:=h
 have h2:=of_decide_eq_false h2
 have h3:=of_decide_eq_false h3
 have h4:=of_decide_eq_false h4
 exact ⟨notF h1,by omega,by omega,by omega⟩
theorem spNb_no {l:L.Sq L.Pt} {u v:Int} (h:L.spNb l u v=false):v ≠ u+1 /\ ¬ (u=0 /\ v=(l.n:Int) - 1):=by
 unfold L.spNb at h
 rw [bor,band,Bool.or_eq_false_iff] at h
 refine ⟨of_decide_eq_false h.1,fun ⟨a,b⟩=>?_⟩
 rw [decide_eq_true a,decide_eq_true b] at h
 exact Bool.noConfusion h.2
theorem parts_fine {l:L.Sq L.Pt} {u v:Int} (hb:L.spBad l u v=false) (hn:L.spNb l u v=false) (hE:∀ j,j < l.n -> L.spE l u v j=true):L.fine (L.ptA l u v) /\ L.fine (L.ptB l u v):=by
 obtain ⟨hv,h0,h1,h2⟩:=spBad_no hb
 obtain ⟨h3,h4⟩:=spNb_no hn
 obtain ⟨a,rfl⟩:∃ a:Nat,u=(a:Int):=⟨u.toNat,by omega⟩
 obtain ⟨b,rfl⟩:∃ b:Nat,v=(b:Int):=⟨v.toNat,by omega⟩
 have hl:=out_fine hv
 have H:∀ m,m < l.n -> L.meet (l.g a) (l.g b) (l.g m) (l.g (L.next l.n m))=if m=a \/ m=b \/ L.next l.n m=a \/ L.next l.n m=b then 1 else 0:=fun m hm=>spE_H (by omega) (hE m hm)
 have H':∀ m,m < l.n -> L.meet (l.g b) (l.g a) (l.g m) (l.g (L.next l.n m))=if m=b \/ m=a \/ L.next l.n m=b \/ L.next l.n m=a then 1 else 0:=fun m hm=>by
   rw [meet_rev,H m hm]
   by_cases c:m=a \/ m=b \/ L.next l.n m=a \/ L.next l.n m=b
   · rw [if_pos c,if_pos (by omega)]
   · rw [if_neg c,if_neg (by omega)]
 constructor
 · have:=part_of hl (a:=a) (b:=b) (d:=b - a) (by omega) (by omega) (by omega) (.inl ⟨by omega,by omega⟩) H
   refine fine_rot this ?_
   have e:L.toL ⟨b - a+1,(L.rot l a).g⟩=L.toL (L.ptA l (a:Int) (b:Int)):=by
     have en:((b:Int)+1 - (a:Int)).toNat=b - a+1:=by omega
     show (List.range (b - a+1)).map (L.rot l a).g=(List.range (((b:Int)+1 - (a:Int)).toNat)).map (fun k=>l.g ((a:Int).toNat+k))
     rw [en,Int.toNat_natCast]
     refine List.map_congr_left fun k hk=>?_
     have hk:=List.mem_range.1 hk
     show (bif decide (k < l.n - a) then l.g (a+k) else l.g (k - (l.n - a)))=_
     rw [decide_eq_true (by omega)];rfl
   rw [e];exact Rot.refl _
 · have:=part_of hl (a:=b) (b:=a) (d:=l.n - b+a) (by omega) (by omega) (by omega) (.inr ⟨by omega,by omega⟩) H'
   refine fine_rot this ?_
   have e:L.toL ⟨l.n - b+a+1,(L.rot l b).g⟩=L.toL (L.ptB l (a:Int) (b:Int)):=by
     have en:((l.n:Int) - (b:Int)).toNat=l.n - b:=by omega
     have em:((a:Int)+1 - 0).toNat=a+1:=by omega
     show (List.range (l.n - b+a+1)).map (L.rot l b).g=(List.range (0+((l.n:Int) - (b:Int)).toNat+((a:Int)+1 - 0).toNat)).map (fun k=>bif decide (k < 0+((l.n:Int) - (b:Int)).toNat) then (bif decide (k < 0) then (⟨0,0⟩:L.Pt) else l.g ((b:Int).toNat+(k - 0))) else l.g ((0:Int).toNat+(k - (0+((l.n:Int) - (b:Int)).toNat))))
     rw [en,em,Int.toNat_natCast,Nat.zero_add,<- Nat.add_assoc]
     refine List.map_congr_left fun k hk=>?_
     have hk:=List.mem_range.1 hk
     show (bif decide (k < l.n - b) then l.g (b+k) else l.g (k - (l.n - b)))=_
     by_cases c:k < l.n - b
     · rw [decide_eq_true c,decide_eq_false (Nat.not_lt_zero k)];rfl
     · rw [decide_eq_false c,show (0:Int).toNat+(k - (l.n - b))=k - (l.n - b) by simp];rfl
   rw [e];exact Rot.refl _
theorem end_ne {l:L.Sq L.Pt} {a b m:Nat} (c:m=a \/ m=b \/ L.next l.n m=a \/ L.next l.n m=b):L.meet (l.g a) (l.g b) (l.g m) (l.g (L.next l.n m)) ≠ 0:=fun h=>by
 have h:=(meet_zero.1 h).1
 rcases c with c | c | c | c
 · exact h _ (.inl ⟨by rw [c];exact on_left,rfl⟩)
 · exact h _ (.inr (.inl ⟨by rw [c];exact on_left,rfl⟩))
 · exact h _ (.inl ⟨by rw [c];exact on_right,rfl⟩)
 · exact h _ (.inr (.inl ⟨by rw [c];exact on_right,rfl⟩))
theorem pt_rng {p:L.Pt} (h:L.validPt p=true):0 <= p.x /\ p.x <= 4096 /\ 0 <= p.y /\ p.y <= 4096:=by
 have:0 <= 2 * p.x /\ 2 * p.x <= 8192 /\ 0 <= 2 * p.y /\ 2 * p.y <= 8192:=(dbl_bd h).1
 omega
theorem mid_bd {l:L.Sq L.Pt} {u v:Int} (hv:L.validOutline l=true) (h1:u.toNat < l.n) (h2:v.toNat < l.n):(0 <= (L.spMid l u v).x /\ (L.spMid l u v).x <= 8192 /\ 0 <= (L.spMid l u v).y /\ (L.spMid l u v).y <= 8192) /\ L.bd (L.spMid l u v):=by
 have a:=pt_rng (pts_valid hv _ h1)
 have b:=pt_rng (pts_valid hv _ h2)
 unfold L.bd
 show (0 <= (l.g u.toNat).x+(l.g v.toNat).x /\ (l.g u.toNat).x+(l.g v.toNat).x <= 8192 /\ 0 <= (l.g u.toNat).y+(l.g v.toNat).y /\ (l.g u.toNat).y+(l.g v.toNat).y <= 8192) /\ -4000000 <= (l.g u.toNat).x+(l.g v.toNat).x /\ (l.g u.toNat).x+(l.g v.toNat).x <= 4000000 /\ -4000000 <= (l.g u.toNat).y+(l.g v.toNat).y /\ (l.g u.toNat).y+(l.g v.toNat).y <= 4000000
 omega
theorem spErr_bad {l:L.Sq L.Pt} {u v:Int} (h:L.spBad l u v=true):L.spErr l u v=1:=by unfold L.spErr;rw [h];rfl
theorem spErr_nb {l:L.Sq L.Pt} {u v:Int} (h:L.spBad l u v=false) (h':L.spNb l u v=true):L.spErr l u v=12:=by unfold L.spErr;rw [h,h'];rfl
theorem spErr_dg {l:L.Sq L.Pt} {u v:Int} (h:L.spBad l u v=false) (h':L.spNb l u v=false):L.spErr l u v=bif L.spDg l u v then 0 else 12:=by unfold L.spErr;rw [h,h'];rfl
theorem spDg_no {l:L.Sq L.Pt} {u v:Int} {m:Nat} (hm:m < l.n) (h:L.spE l u v m=false):L.spDg l u v=false:=by
 unfold L.spDg;rw [allB_false hm h];rfl
theorem spDg_all {l:L.Sq L.Pt} {u v:Int} (h:∀ m,m < l.n -> L.spE l u v m=true):L.spDg l u v=L.spIn l u v:=by
 unfold L.spDg;rw [allB_iff.2 h];rfl
def p_outlined_p (l:(L.Sq L.Pt)):Prop:=L.fine l
def p_outlined_r (l:(L.Sq L.Pt)):SV:=.sl 2 (L.norm (L.thin L.cFlat l)).n (fun k=>[.int .i64 (((L.norm (L.thin L.cFlat l)).g k).x),.int .i64 (((L.norm (L.thin L.cFlat l)).g k).y)])
def p_outlined_s:List EV -> Option (Prop × SV)
 | [.p (.sl 2 l_n l_g)]=>some ((∀ i,i < l_n -> l_g i = [.int .i64 ((ofPt (l_g i)).x),.int .i64 ((ofPt (l_g i)).y)]) /\ p_outlined_p (⟨l_n,fun i=>ofPt (l_g i)⟩:(L.Sq L.Pt)),p_outlined_r (⟨l_n,fun i=>ofPt (l_g i)⟩:(L.Sq L.Pt)))
 | _=>none
abbrev p_outlined_S:SE.Spec:=(specO p_outlined_s)
def p_outlined_C:Cfg:={ cC with specs:=lookS [(62,p_thinC_S),(61,p_normal_S)],raws:=[62] }
theorem p_outlined_vc (l:(L.Sq L.Pt)) (hp:p_outlined_p l):vc Tryz.prog (p_outlined_C) (bodyOf Tryz.f34) (st0 Tryz.f34 [.p (.sl 2 l.n (fun i=>[.int .i64 ((l.g i).x),.int .i64 ((l.g i).y)]))]) (retFn Tryz.prog Tryz.f34 (p_outlined_r l)) :=
 @Eq.mpr _ (let I:=SV.int .i64;let A5:=(L.norm (L.thin L.cFlat l));let A3:=(L.thin L.cFlat (L.Sq.mk l.n fun (i:Nat)=>l.g i));((∀ (i:Nat),let A7:=[I (l.g i).x,I (l.g i).y];i < l.n -> A7=A7) /\ ((1:Nat) <= l.n /\ l.n <= (1000:Nat)) /\ ∀ (k:Nat),k < l.n -> L.bd (l.g k)) /\ ((∀ (i:Nat),let A1:=(L.thin L.cFlat (L.Sq.mk l.n fun (i:Nat)=>l.g i));let A6:=[I (A1.g i).x,I (A1.g i).y];i < A1.n -> A6=A6) /\ L.small (L.Sq.mk A3.n fun (i:Nat)=>(L.thin L.cFlat (L.Sq.mk l.n fun (i:Nat)=>l.g i)).g i) /\ (1:Nat) <= A3.n) /\ ∀ (t:Nat),True -> A3.n=A5.n /\ ∀ (i:Nat),let A4:=(L.thin L.cFlat (L.Sq.mk l.n fun (i:Nat)=>l.g i));let A2:=((L.norm (L.Sq.mk A4.n fun (i:Nat)=>(L.thin L.cFlat (L.Sq.mk l.n fun (i:Nat)=>l.g i)).g i)).g i);i < A4.n -> [I A2.x,I A2.y] = [I (A5.g i).x,I (A5.g i).y]) (by kernel_rfl) (by
 conv=>zeta
 have hf:L.fine l:=hp
 have ht:=fine_thin flat_fl hf
 refine ⟨⟨fun _ _=>rfl,⟨by have:=hf.1;omega,hf.2.1⟩,fun k hk=>hf.2.2.2.2 _ (mem_toL.2 ⟨k,hk,rfl⟩)⟩,⟨fun _ _=>rfl,⟨ht.2.1,fun k hk=>ht.2.2.2.2 _ (mem_toL.2 ⟨k,hk,rfl⟩)⟩,by show 1 <= (L.thin L.cFlat l).n;have:=ht.1;omega⟩,fun _ _=>⟨rfl,fun _ _=>rfl⟩⟩)
theorem p_outlined_ok:SpecOk Tryz.prog 34 p_outlined_S:=fnX Tryz.func34 (c:=bodyOf Tryz.f34) (by kernel_rfl) mixed (fun args p r hs hp=>by
 unfold p_outlined_s at hs
 split at hs
 · cases hs;exact ⟨_,_,p_outlined_vc _ hp.2,(.p (.sl hp.1) .nil),⟨show SpecsL Tryz.prog _ from (SpecsL.cons p_thinC_ok p_thinC_en (SpecsL.cons p_normal_ok p_normal_en SpecsL.nil)),rfl,⟨show ItersL Tryz.prog _ from ItersL.nil,(TrsOk.none (fun _=>rfl))⟩⟩⟩
 · cases hs)
theorem p_outlined_en:Enters Tryz.prog 34:=fun args w=>by kernel_rfl
def p_Split_p (l:(L.Sq L.Pt)) (u:Int) (v:Int):Prop:=l.n <= 1000000
def p_Split_r (l:(L.Sq L.Pt)) (u:Int) (v:Int):SV:=.tup [.sl 2 (bif decide (L.spErr l u v=0) then (L.spA l u v).n else 0) (fun k=>[.int .i64 (((L.spA l u v).g k).x),.int .i64 (((L.spA l u v).g k).y)]),.sl 2 (bif decide (L.spErr l u v=0) then (L.spB l u v).n else 0) (fun k=>[.int .i64 (((L.spB l u v).g k).x),.int .i64 (((L.spB l u v).g k).y)]),.int .i64 (L.spErr l u v)]
def p_Split_s:List EV -> Option (Prop × SV)
 | [.p (.sl 2 l_n l_g),.p (.int .i64 u),.p (.int .i64 v)]=>some ((∀ i,i < l_n -> l_g i = [.int .i64 ((ofPt (l_g i)).x),.int .i64 ((ofPt (l_g i)).y)]) /\ p_Split_p (⟨l_n,fun i=>ofPt (l_g i)⟩:(L.Sq L.Pt)) u v,p_Split_r (⟨l_n,fun i=>ofPt (l_g i)⟩:(L.Sq L.Pt)) u v)
 | _=>none
abbrev p_Split_S:SE.Spec:=(specO p_Split_s)
def p_Split_C:Cfg:={ cC with muts:=[6,7,8,9,11],specs:=lookS [(15,p_ValidOutline_S),(26,p_triples_S),(32,p_meet_S),(33,p_place_S),(34,p_outlined_S),(35,s_concat_S)],iters:=lookI [(56,p_triples1_it)] }
theorem p_Split_vc (l:(L.Sq L.Pt)) (u:Int) (v:Int) (hp:p_Split_p l u v):vc Tryz.prog ({ p_Split_C with loops:=lookL [],rfs:=lookR [(7,{ T:=Nat,keep:=[3,4,5,6,7,8,9],keepO:=[6,7,8,9],own:=fun k _=>[],inv:=fun k _=>∀ j,j < k -> L.spE l u v j=true })] }) (bodyOf Tryz.f12) (st0 Tryz.f12 [.p (.sl 2 l.n (fun i=>[.int .i64 ((l.g i).x),.int .i64 ((l.g i).y)])),.p (.int .i64 u),.p (.int .i64 v)]) (retFn Tryz.prog Tryz.f12 (p_Split_r l u v)) :=
 @Eq.mpr _ (let I:=SV.int .i64;let T:=Int.toNat;let M:=Int.tmod;let A54:=(12:Int);let A51:=(1:Nat);let A50:=(1000000:Nat);let A49:=(2:Nat);let A45:=(L.spA l u v);let A44:=(L.spB l u v);let A43:=(L.Sq.mk l.n fun (i:Nat)=>l.g i);let A34:=(nat_lit 3);let A33:=(nat_lit 4);let A32:=(nat_lit 5);let A31:=(nat_lit 6);let A30:=(nat_lit 7);let A29:=(nat_lit 8);let A28:=(nat_lit 9);let A24:=(l.g (T v));let A23:=(l.g (T u));let A40:=(L.Pt.mk (A23.x+A24.x) (A23.y+A24.y));let A16:=(nat_lit 0);let A11:=(∀ (i:Nat),let A52:=[I (l.g i).x,I (l.g i).y];i < l.n -> A52=A52);let A53:=(A11 /\ l.n <= (1000:Nat));let A10:=(0:Nat);let A9:=(1:Int);let A56:=(v+A9 - u);let A36:=(L.Sq.mk (T A56) fun (i:Nat)=>l.g (T u+i));let A19:=(!decide (L.wher (L.Sq.mk l.n fun (k:Nat)=>L.dbl (l.g k)) A40=A9));let A5:=(0:Int);let A26:=(T (u+A9 - A5));let A13:=(L.Sq.mk A26 fun (i:Nat)=>l.g (T A5+i));let A8:=(bif decide (L.spErr l u v=A5) then A44.n else A10);let A7:=(bif decide (L.spErr l u v=A5) then A45.n else A10);let A4:=(↑l.n:Int);let A47:=(A5 <= v /\ v < A4);let A46:=(A5 <= u /\ u < A4);let A41:=(T (A4 - v));let A21:=(bif decide (v=u+A9) then true else bif decide (u=A5) then decide (v=A4 - A9) else false);let A15:=(L.Sq.mk A41 fun (i:Nat)=>l.g (T v+i));let A14:=(bif bif bif !L.validOutline A43 then true else decide (u < A5) then true else decide (v <= u) then true else decide (A4 <= v));let A6:=(L.Sq.mk (L.catTo (L.two A15 A13) A49).n fun (i:Nat)=>(L.catTo (L.two (L.Sq.mk A41 fun (i:Nat)=>l.g (T v+i)) (L.Sq.mk A26 fun (i:Nat)=>l.g (T A5+i))) A49).g i);let A3:=[SV.sl (nat_lit 2) l.n fun (i:Nat)=>[I (l.g i).x,I (l.g i).y]];(A11 /\ l.n <= A50) /\ (A14=true -> A7=A10 /\ A8=A10 /\ A9=L.spErr l u v) /\ (A14=false -> InK .i64 (u+A9) /\ ((!decide (v=u+A9) && decide (u=A5))=true -> InK .i64 (A4 - A9)) /\ (A21=true -> A7=A10 /\ A8=A10 /\ A54=L.spErr l u v) /\ (A21=false -> A53 /\ (A53 /\ ∃ (t:Nat),A4=A4 /\ A5=A5 /\ Value.slice Option.none A10 A10=Value.slice Option.none A10 A10 /\ Value.slice Option.none A10 A10=Value.slice Option.none A10 A10 /\ ∀ (j:Nat),j < A10 -> L.spE l u v j=true) /\ (∀ (k t:Nat) (vk:Nat -> Go.Value),let A17:=(↑k:Int);let A55:=(l.g (T A17));let A42:=(A17+A9);let A25:=(!bif decide (A17=u) then true else decide (A17=v));let A22:=(l.g (T (M A42 A4)));let A35:=(!decide (L.meet A23 A24 A55 A22=A5));let A27:=(!decide (L.meet A23 A24 A55 A22=A9));let A20:=(!bif bif decide (A17=u) then true else decide (A17=v) then true else decide (M A42 A4=u));let A12:=(bif bif bif decide (A17=u) then true else decide (A17=v) then true else decide (M A42 A4=u) then true else decide (M A42 A4=v));k < l.n -> (∀ (j:Nat),j < k -> L.spE l u v j=true) -> A46 /\ A47 /\ (A5 <= A9 /\ A9 < (↑(3:Nat):Int)) /\ (A5 <= (2:Int) /\ (2:Int) < (↑(3:Nat):Int)) /\ (L.bd A23 /\ L.bd A24 /\ L.bd A55 /\ L.bd A22) /\ (A25=true -> InK .i64 A42) /\ (A25=true -> A4 ≠ A5) /\ (A20=true -> InK .i64 A42) /\ (A20=true -> A4 ≠ A5) /\ (A12=true -> (A27=true -> nat_lit 0=nat_lit 0 /\ nat_lit 0=nat_lit 0 /\ nat_lit 0=nat_lit 0 /\ nat_lit 0=nat_lit 0 /\ SV.ref [I v] A16=SV.ref [I v] A16 /\ SV.ref [I u] A16=SV.ref [I u] A16 /\ SV.ref A3 A16=SV.ref A3 A16 /\ vk A28=vk A28 /\ vk A29=vk A29 /\ vk A30=vk A30 /\ vk A31=vk A31 /\ vk A32=vk A32 /\ vk A33=vk A33 /\ vk A34=vk A34 /\ A7=A10 /\ A8=A10 /\ A54=L.spErr l u v) /\ (A27=false -> ∃ (t':Nat),nat_lit 0=nat_lit 0 /\ nat_lit 0=nat_lit 0 /\ nat_lit 0=nat_lit 0 /\ nat_lit 0=nat_lit 0 /\ SV.ref [I v] A16=SV.ref [I v] A16 /\ SV.ref [I u] A16=SV.ref [I u] A16 /\ SV.ref A3 A16=SV.ref A3 A16 /\ vk A28=vk A28 /\ vk A29=vk A29 /\ vk A30=vk A30 /\ vk A31=vk A31 /\ vk A32=vk A32 /\ vk A33=vk A33 /\ vk A34=vk A34 /\ A4=A4 /\ A5=A5 /\ Value.slice Option.none A10 A10=Value.slice Option.none A10 A10 /\ Value.slice Option.none A10 A10=Value.slice Option.none A10 A10 /\ ∀ (j:Nat),j < k+A51 -> L.spE l u v j=true)) /\ (A12=false -> (A35=true -> nat_lit 0=nat_lit 0 /\ nat_lit 0=nat_lit 0 /\ nat_lit 0=nat_lit 0 /\ nat_lit 0=nat_lit 0 /\ SV.ref [I v] A16=SV.ref [I v] A16 /\ SV.ref [I u] A16=SV.ref [I u] A16 /\ SV.ref A3 A16=SV.ref A3 A16 /\ vk A28=vk A28 /\ vk A29=vk A29 /\ vk A30=vk A30 /\ vk A31=vk A31 /\ vk A32=vk A32 /\ vk A33=vk A33 /\ vk A34=vk A34 /\ A7=A10 /\ A8=A10 /\ A54=L.spErr l u v) /\ (A35=false -> ∃ (t':Nat),nat_lit 0=nat_lit 0 /\ nat_lit 0=nat_lit 0 /\ nat_lit 0=nat_lit 0 /\ nat_lit 0=nat_lit 0 /\ SV.ref [I v] A16=SV.ref [I v] A16 /\ SV.ref [I u] A16=SV.ref [I u] A16 /\ SV.ref A3 A16=SV.ref A3 A16 /\ vk A28=vk A28 /\ vk A29=vk A29 /\ vk A30=vk A30 /\ vk A31=vk A31 /\ vk A32=vk A32 /\ vk A33=vk A33 /\ vk A34=vk A34 /\ A4=A4 /\ A5=A5 /\ Value.slice Option.none A10 A10=Value.slice Option.none A10 A10 /\ Value.slice Option.none A10 A10=Value.slice Option.none A10 A10 /\ ∀ (j:Nat),j < k+A51 -> L.spE l u v j=true))) /\ ∀ (t:Nat),(∀ (j:Nat),j < l.n -> L.spE l u v j=true) -> A46 /\ A47 /\ InK .i64 (A23.x+A24.x) /\ A46 /\ A47 /\ InK .i64 (A23.y+A24.y) /\ (A11 /\ L.validOutline A43=true /\ L.bd A40) /\ (A19=true -> A7=A10 /\ A8=A10 /\ A54=L.spErr l u v) /\ (A19=false -> InK .i64 (v+A9) /\ (A5 <= u /\ u <= v+A9 /\ v+A9 <= A4) /\ ((∀ (i:Nat),let A38:=[I (l.g (T u+i)).x,I (l.g (T u+i)).y];i < T A56 -> A38=A38) /\ L.fine A36) /\ (A5 <= v /\ v <= A4 /\ A4 <= A4) /\ InK .i64 (u+A9) /\ (A5 <= A5 /\ A5 <= u+A9 /\ u+A9 <= A4) /\ (((∀ (i:Nat),let A39:=[I (l.g (T v+i)).x,I (l.g (T v+i)).y];i < T (A4 - v) -> A39=A39) /\ ∀ (i:Nat),let A37:=[I (l.g (T A5+i)).x,I (l.g (T A5+i)).y];i < T (u+A9 - A5) -> A37=A37) /\ A51 <= (L.two A15 A13 A10).n+(L.two A15 A13 A51).n /\ (L.two A15 A13 A10).n <= A50 /\ (L.two A15 A13 A51).n <= A50) /\ ∀ (t:Nat),True -> ((∀ (i:Nat),let A2:=(L.catTo (L.two (L.Sq.mk A41 fun (i:Nat)=>l.g (T v+i)) (L.Sq.mk A26 fun (i:Nat)=>l.g (T A5+i))) A49);let A48:=[I (A2.g i).x,I (A2.g i).y];i < A2.n -> A48=A48) /\ L.fine A6) /\ (((L.norm (L.thin L.cFlat A36)).n=bif decide (L.spErr l u v=A5) then A45.n else A10) /\ ∀ (i:Nat),let A18:=(L.norm (L.thin L.cFlat (L.Sq.mk (T A56) fun (i:Nat)=>l.g (T u+i))));i < A18.n -> [I (A18.g i).x,I (A18.g i).y] = [I (A45.g i).x,I (A45.g i).y]) /\ (((L.norm (L.thin L.cFlat A6)).n=bif decide (L.spErr l u v=A5) then A44.n else A10) /\ ∀ (i:Nat),let A1:=(L.norm (L.thin L.cFlat (L.Sq.mk (L.catTo (L.two (L.Sq.mk A41 fun (i:Nat)=>l.g (T v+i)) (L.Sq.mk A26 fun (i:Nat)=>l.g (T A5+i))) A49).n fun (i:Nat)=>(L.catTo (L.two (L.Sq.mk A41 fun (i:Nat)=>l.g (T v+i)) (L.Sq.mk A26 fun (i:Nat)=>l.g (T A5+i))) A49).g i)));i < A1.n -> [I (A1.g i).x,I (A1.g i).y] = [I (A44.g i).x,I (A44.g i).y]) /\ A5=L.spErr l u v)))) (by kernel_rfl) (by
 conv=>zeta
 have hn:l.n <= 1000000:=hp
 refine ⟨⟨fun _ _=>rfl,hn⟩,fun h=>?_,fun h=>?_⟩
 · have h:L.spBad l u v=true:=h
   rw [spErr_bad h];exact ⟨rfl,rfl,rfl⟩
 have hb:L.spBad l u v=false:=h
 obtain ⟨hv,u0,uv,vn⟩:=spBad_no hb
 obtain ⟨n3,n24,hsm,hbd⟩:=validOutline_of hv
 have ut:u.toNat < l.n:=by omega
 have vt:v.toNat < l.n:=by omega
 refine ⟨iK,fun _=>iK,fun h=>?_,fun h=>?_⟩
 · have h:L.spNb l u v=true:=h
   rw [spErr_nb hb h];exact ⟨rfl,rfl,rfl⟩
 have hN:L.spNb l u v=false:=h
 have eE:=spErr_dg hb hN
 refine ⟨⟨fun _ _=>rfl,by omega⟩,⟨⟨fun _ _=>rfl,by omega⟩,0,rfl,rfl,rfl,rfl,fun j hj=>absurd hj (Nat.not_lt_zero _)⟩,fun k t vk hk h0=>?_,fun t h0=>?_⟩
 · have hk:k < l.n:=hk
   have ek:((k:Nat):Int).toNat=k:=by omega
   have en:(Int.tmod ((k:Int)+1) (l.n:Int)).toNat=L.next l.n k:=rfl
   rw [ek,en]
   have hkn:L.next l.n k < l.n:=next_lt (by omega)
   have fin:L.spE l u v k=true -> ∀ j,j < k+1 -> L.spE l u v j=true:=fun hh j hj=>by
     rcases Nat.lt_succ_iff_lt_or_eq.1 hj with h' | rfl
     · exact h0 j h'
     · exact hh
   refine ⟨⟨u0,by omega⟩,⟨by omega,vn⟩,⟨by omega,by show (1:Int) < ((3:Nat):Int);omega⟩,⟨by omega,by show (2:Int) < ((3:Nat):Int);omega⟩,⟨hbd.2 _ ut,hbd.2 _ vt,hbd.2 _ hk,hbd.2 _ hkn⟩,fun _=>iK,fun _=>by omega,fun _=>iK,fun _=>by omega,fun he=>?_,fun he=>?_⟩
   · have he:L.spEnd l u v k=true:=he
     refine ⟨fun h=>?_,fun h=>?_⟩
     · have hh:L.spE l u v k=false:=by unfold L.spE;rw [he];exact notT h
       have e12:L.spErr l u v=12:=by rw [eE,spDg_no hk hh];rfl
       rw [e12];exact ⟨rfl,rfl,rfl,rfl,rfl,rfl,rfl,rfl,rfl,rfl,rfl,rfl,rfl,rfl,rfl,rfl,rfl⟩
     · have hh:L.spE l u v k=true:=by unfold L.spE;rw [he];exact notF h
       exact ⟨0,rfl,rfl,rfl,rfl,rfl,rfl,rfl,rfl,rfl,rfl,rfl,rfl,rfl,rfl,rfl,rfl,rfl,rfl,fin hh⟩
   · have he:L.spEnd l u v k=false:=he
     refine ⟨fun h=>?_,fun h=>?_⟩
     · have hh:L.spE l u v k=false:=by unfold L.spE;rw [he];exact notT h
       have e12:L.spErr l u v=12:=by rw [eE,spDg_no hk hh];rfl
       rw [e12];exact ⟨rfl,rfl,rfl,rfl,rfl,rfl,rfl,rfl,rfl,rfl,rfl,rfl,rfl,rfl,rfl,rfl,rfl⟩
     · have hh:L.spE l u v k=true:=by unfold L.spE;rw [he];exact notF h
       exact ⟨0,rfl,rfl,rfl,rfl,rfl,rfl,rfl,rfl,rfl,rfl,rfl,rfl,rfl,rfl,rfl,rfl,rfl,rfl,fin hh⟩
 have hdg:=spDg_all h0
 obtain ⟨⟨m1,m2,m3,m4⟩,mb⟩:=mid_bd hv ut vt
 refine ⟨⟨u0,by omega⟩,⟨by omega,vn⟩,InK.of (by show _ <= (L.spMid l u v).x;omega) (by show (L.spMid l u v).x <= _;omega),⟨u0,by omega⟩,⟨by omega,vn⟩,InK.of (by show _ <= (L.spMid l u v).y;omega) (by show (L.spMid l u v).y <= _;omega),⟨fun _ _=>rfl,hv,mb⟩,fun h=>?_,fun h=>?_⟩
 · have hi:L.spIn l u v=false:=notT h
   have e12:L.spErr l u v=12:=by rw [eE,hdg,hi];rfl
   rw [e12];exact ⟨rfl,rfl,rfl⟩
 have hi:L.spIn l u v=true:=notF h
 have e0:L.spErr l u v=0:=by rw [eE,hdg,hi];rfl
 obtain ⟨fA,fB⟩:=parts_fine hb hN h0
 rw [e0]
 refine ⟨iK,⟨u0,by omega,by omega⟩,⟨fun _ _=>rfl,fA⟩,⟨by omega,by omega,by omega⟩,iK,⟨by omega,by omega,by omega⟩,⟨⟨fun _ _=>rfl,fun _ _=>rfl⟩,?_,?_,?_⟩,fun _ _=>⟨⟨fun _ _=>rfl,fB⟩,⟨rfl,fun _ _=>rfl⟩,⟨rfl,fun _ _=>rfl⟩,rfl⟩⟩
 · show 1 <= ((l.n:Int) - v).toNat+(u+1 - 0).toNat;omega
 · show ((l.n:Int) - v).toNat <= 1000000;omega
 · show (u+1 - 0).toNat <= 1000000;omega)
theorem p_Split_ok:SpecOk Tryz.prog 12 p_Split_S:=fnX Tryz.func12 (c:=bodyOf Tryz.f12) (by kernel_rfl) mixed (fun args p r hs hp=>by
 unfold p_Split_s at hs
 split at hs
 · cases hs;exact ⟨_,_,p_Split_vc _ _ _ hp.2,(.p (.sl hp.1) (.same _ (.same _ .nil))),⟨show SpecsL Tryz.prog _ from (SpecsL.cons p_ValidOutline_ok p_ValidOutline_en (SpecsL.cons p_triples_ok p_triples_en (SpecsL.cons p_meet_ok p_meet_en (SpecsL.cons p_place_ok p_place_en (SpecsL.cons p_outlined_ok p_outlined_en (SpecsL.cons s_concat_ok s_concat_en SpecsL.nil)))))),rfl,⟨show ItersL Tryz.prog _ from (ItersL.cons p_triples1_itok p_triples1_en ItersL.nil),(TrsOk.none (fun _=>rfl))⟩⟩⟩
 · cases hs)
theorem p_Split_en:Enters Tryz.prog 12:=fun args w=>by kernel_rfl
end Go.Proofs.YtinfalehnaejbaaGreat
