/- A symbolic walk over the model, and what it shows of functions of the program: parts of the proof that the text of the row joins. -/
import Derived.Test.YtpgaejicfbpcmaaGreatW1
import Derived.Test.YtpgaejicfbpcmaaGreatE4
import Derived.KernelRfl
import Derived.Test.YtpgaejicfbpcmaaGreatE5
namespace Go.Proofs.YtpgaejicfbpcmaaGreat
open Go.SE Go.RowKit
set_option maxRecDepth 100000
set_option maxHeartbeats 4000000
set_option linter.unusedVariables false
attribute [local irreducible] vc
def L.pick4 (a b c d:L.Pt) (i:Nat):L.Pt:=bif decide (i=0) then a else bif decide (i=1) then b else bif decide (i=2) then c else d
def L.onB (a b c d p:L.Pt):Bool:=L.on a b p && L.on c d p
def L.cm (a b c d:L.Pt):Nat->L.Sq L.Pt
 | 0=>L.no
 | n+1=>L.putIf (L.onB a b c d (L.pick4 a b c d n)) (L.cm a b c d n) (L.pick4 a b c d n)
theorem on_left {a b:L.Pt}:L.on a b a=true:=by
 unfold L.on
 rw [Bool.and_eq_true,Bool.and_eq_true,within_iff,within_iff]
 refine ⟨⟨decide_eq_true ?_,by omega⟩,by omega⟩
 unfold L.cross;simp
theorem on_right {a b:L.Pt}:L.on a b b=true:=by
 unfold L.on
 rw [Bool.and_eq_true,Bool.and_eq_true,within_iff,within_iff]
 refine ⟨⟨decide_eq_true ?_,by omega⟩,by omega⟩
 unfold L.cross;rw [Int.mul_comm];omega
theorem cm_eq {a b c d:L.Pt}:L.cm a b c d 4=L.k2 a b c d 2:=by
 have h1:L.onB a b c d a=L.on c d a:=by unfold L.onB;rw [on_left];rfl
 have h2:L.onB a b c d b=L.on c d b:=by unfold L.onB;rw [on_right];rfl
 have h3:L.onB a b c d c=L.on a b c:=by unfold L.onB;rw [on_left (a:=c),Bool.and_true]
 have h4:L.onB a b c d d=L.on a b d:=by unfold L.onB;rw [on_right (a:=c),Bool.and_true]
 show L.putIf (L.onB a b c d d) (L.putIf (L.onB a b c d c) (L.putIf (L.onB a b c d b) (L.putIf (L.onB a b c d a) L.no a) b) c) d=_
 rw [h1,h2,h3,h4];rfl
theorem same_sym (p q:L.Pt):L.same p q=L.same q p:=by
 unfold L.same
 rw [show decide (p.x=q.x)=decide (q.x=p.x) from by by_cases h:p.x=q.x <;> simp [h,eq_comm],show decide (p.y=q.y)=decide (q.y=p.y) from by by_cases h:p.y=q.y <;> simp [h,eq_comm]]
theorem put_n {ks:L.Sq L.Pt} {p:L.Pt}:(L.put ks p).n <= ks.n+1:=by
 unfold L.put
 cases L.has ks p
 ·exact Nat.le_refl _
 ·exact Nat.le_succ _
theorem cm_n {a b c d:L.Pt}:∀ {i:Nat},(L.cm a b c d i).n <= i
 | 0=>Nat.le_refl _
 | i+1=>by
   have ih:=cm_n (a:=a) (b:=b) (c:=c) (d:=d) (i:=i)
   rw [L.cm]
   cases L.onB a b c d (L.pick4 a b c d i)
   ·exact Nat.le_trans ih (Nat.le_succ _)
   ·exact Nat.le_trans put_n (Nat.succ_le_succ ih)
theorem corner_eq {l:L.Sq L.Pt} {k:Nat}:(bif bif decide (0<(k:Int)) then !decide (L.cmpPt (l.g 0) (l.g k)<0) else false then true else decide (L.cross (l.g (L.prev l.n k)) (l.g k) (l.g (L.next l.n k))=0)) = !L.corner l k:=by
 unfold L.corner
 have:decide (0 <= L.cmpPt (l.g 0) (l.g k)) = !decide (L.cmpPt (l.g 0) (l.g k)<0):=by
  by_cases h:L.cmpPt (l.g 0) (l.g k)<0
  ·rw [decide_eq_true h,decide_eq_false (by omega)];rfl
  ·rw [decide_eq_false h,decide_eq_true (by omega)];rfl
 rw [this,Bool.not_not]
 cases decide (0<(k:Int)) <;> cases decide (L.cmpPt (l.g 0) (l.g k)<0) <;> cases decide (L.cross (l.g (L.prev l.n k)) (l.g k) (l.g (L.next l.n k))=0) <;> rfl
def r1_meet_p (a:L.Pt) (b:L.Pt) (c:L.Pt) (d:L.Pt):Prop:=L.bd a/\L.bd b/\L.bd c/\L.bd d
def r1_meet_r (a:L.Pt) (b:L.Pt) (c:L.Pt) (d:L.Pt):SV:=.int .i64 (L.meet a b c d)
def r1_meet_s:List EV->Option (Prop × SV)
 | [.p (.agg [.int .i64 a_x,.int .i64 a_y]),.p (.agg [.int .i64 b_x,.int .i64 b_y]),.p (.agg [.int .i64 c_x,.int .i64 c_y]),.p (.agg [.int .i64 d_x,.int .i64 d_y])]=>some (r1_meet_p (⟨a_x,a_y⟩:L.Pt) (⟨b_x,b_y⟩:L.Pt) (⟨c_x,c_y⟩:L.Pt) (⟨d_x,d_y⟩:L.Pt),r1_meet_r (⟨a_x,a_y⟩:L.Pt) (⟨b_x,b_y⟩:L.Pt) (⟨c_x,c_y⟩:L.Pt) (⟨d_x,d_y⟩:L.Pt))
 | _=>none
abbrev r1_meet_S:SE.Spec:=(specO r1_meet_s)
def r1_meet_C:Cfg:={ cC with specs:=lookS [(170,r1_On_S),(37,r1_Cross_S),(171,r1_sign_S)],nils:=lookM [(2,[(9,20,48,2)])] }
theorem r1_meet_vc (a:L.Pt) (b:L.Pt) (c:L.Pt) (d:L.Pt) (hp:r1_meet_p a b c d):vc Tryz.prog ({ r1_meet_C with loops:=lookL [(4,{ T:=Nat,keep:=[4,5,6,7,9],keepO:=[],chg:=fun i=>[(10,.p (.sl 2 4 (fun j=>[.int .i64 ((L.pick4 a b c d j).x),.int .i64 ((L.pick4 a b c d j).y)]))),(11,.p (.int .i64 (i:Int)))],own:=fun i=>[(20,.row 48 2 (L.cm a b c d i).n (fun j=>[.int .i64 (((L.cm a b c d i).g j).x),.int .i64 (((L.cm a b c d i).g j).y)]))],inv:=fun i=>i <= 4,mu:=fun i=>4 - i }),(9,{ T:=Nat × Nat,keep:=[4,5,6,7,9,10,11],keepO:=[],tie:=fun g=>[(11,.int .i64 (g.1:Int))],chg:=fun g=>[(12,.p (.bool (L.anyB g.2 (fun j=>L.same ((L.cm a b c d g.1).g j) (L.pick4 a b c d g.1))))),(13,.p (.int .i64 (g.2:Int)))],own:=fun g=>[(20,.row 48 2 (L.cm a b c d g.1).n (fun j=>[.int .i64 (((L.cm a b c d g.1).g j).x),.int .i64 (((L.cm a b c d g.1).g j).y)]))],inv:=fun g=>g.1<4/\g.2 <= (L.cm a b c d g.1).n,mu:=fun g=>(L.cm a b c d g.1).n - g.2 })],rfs:=lookR [] }) (bodyOf Tryz.f140) (st0 Tryz.f140 [.p (.agg [.int .i64 a.x,.int .i64 a.y]),.p (.agg [.int .i64 b.x,.int .i64 b.y]),.p (.agg [.int .i64 c.x,.int .i64 c.y]),.p (.agg [.int .i64 d.x,.int .i64 d.y])]) (retFn Tryz.prog Tryz.f140 (r1_meet_r a b c d)) :=
 @Eq.mpr _ (let I:=SV.int .i64;let T:=Int.toNat;let A22:=(↑(nat_lit 4):Int);let A21:=(L.cross a b d);let A20:=(L.cross a b c);let A18:=(1:Int);let A17:=[I a.x,I a.y];let A16:=[I b.x,I b.y];let A15:=[I c.x,I c.y];let A14:=[I d.x,I d.y];let A11:=(4:Nat);let A6:=(0:Int);let A10:=(decide (L.cmp A20 A6 * L.cmp A21 A6<A6)=true->True);let A7:=(bif decide (L.cmp A20 A6 * L.cmp A21 A6<A6) then decide (L.cmp (L.cross c d a) A6 * L.cmp (L.cross c d b) A6<A6) else false);let A5:=(nat_lit 0);let A3:=(nat_lit 4=A11 /\ ∀ (i:Nat),let A23:=(L.pick4 a b c d i);i<nat_lit 4 -> [I A23.x,I A23.y] = [I A23.x,I A23.y]);(∃ (g:Nat),let A30:=(L.cm a b c d g);(nat_lit 4=A11 /\ ∀ (i:Nat),i<nat_lit 4->rowsOf [I a.x,I a.y,I b.x,I b.y,I c.x,I c.y,I d.x,I d.y] (nat_lit 2) i = [I (L.pick4 a b c d i).x,I (L.pick4 a b c d i).y])/\A6=(↑g:Int)/\(nat_lit 0=A30.n /\ ∀ (i:Nat),i<nat_lit 0 -> [] = [I (A30.g i).x,I (A30.g i).y])/\g <= A11) /\ ∀ (g:Nat),let A9:=(L.cm a b c d g);let A26:=(↑A9.n:Int);let A8:=(↑g:Int);let A2:=(L.pick4 a b c d (T A8));let A24:=(bif !L.on a b A2 then true else !L.on c d A2);g <= A11->(decide (A8<(4:Int))=true->(A6 <= A8/\A8<A22)/\(L.bd a/\L.bd b/\L.bd A2)/\((!!L.on a b A2)=true->A6 <= A8/\A8<A22)/\((!!L.on a b A2)=true->L.bd c/\L.bd d/\L.bd A2)/\(A24=true->InK .i64 (A8+A18) /\ ∃ (g':Nat),let A27:=(L.cm a b c d g');A3/\A8+A18=(↑g':Int)/\SV.ref A14 A5=SV.ref A14 A5/\SV.ref A15 A5=SV.ref A15 A5/\SV.ref A16 A5=SV.ref A16 A5/\SV.ref A17 A5=SV.ref A17 A5/\(A9.n=A27.n /\ ∀ (i:Nat),i<A9.n -> [I (A9.g i).x,I (A9.g i).y] = [I (A27.g i).x,I (A27.g i).y])/\g' <= A11/\A11 - g'<A11 - g)/\(A24=false->(∃ (g_1:Nat × Nat),let A19:=(L.cm a b c d g_1.1);(false=L.anyB g_1.2 fun (j:Nat)=>L.same (A19.g j) (L.pick4 a b c d g_1.1))/\A6=(↑g_1.2:Int)/\(A9.n=A19.n /\ ∀ (i:Nat),i<A9.n -> [I (A9.g i).x,I (A9.g i).y] = [I (A19.g i).x,I (A19.g i).y])/\A8=(↑g_1.1:Int)/\g_1.1<A11/\g_1.2 <= A19.n) /\ ∀ (g_1:Nat × Nat),let A31:=(L.pick4 a b c d g_1.1);let A12:=(↑g_1.2:Int);let A1:=(L.cm a b c d g_1.1);let A32:=(↑A1.n:Int);let A4:=(!L.anyB g_1.2 fun (j:Nat)=>L.same (A1.g j) A31);A8=(↑g_1.1:Int)/\g_1.1<A11/\g_1.2 <= A1.n->(decide (A12<A32)=true->(A4=true->A6 <= A12/\A12<A32)/\(A4=true->T A12<A1.n)/\(A4=true->A6 <= A8/\A8<A22)/\InK .i64 (A12+A18) /\ ∃ (g':Nat × Nat),let A13:=(L.cm a b c d g'.1);((bif L.anyB g_1.2 fun (j:Nat)=>L.same (A1.g j) A31 then true else decide ((A1.g (T A12)).x=A2.x) && decide ((A1.g (T A12)).y=A2.y))=L.anyB g'.2 fun (j:Nat)=>L.same (A13.g j) (L.pick4 a b c d g'.1))/\A12+A18=(↑g'.2:Int)/\(nat_lit 4=nat_lit 4 /\ ∀ (i:Nat),let A25:=(L.pick4 a b c d i);i<nat_lit 4 -> [I A25.x,I A25.y] = [I A25.x,I A25.y])/\A8=A8/\SV.ref A14 A5=SV.ref A14 A5/\SV.ref A15 A5=SV.ref A15 A5/\SV.ref A16 A5=SV.ref A16 A5/\SV.ref A17 A5=SV.ref A17 A5/\(A1.n=A13.n /\ ∀ (i:Nat),i<A1.n -> [I (A1.g i).x,I (A1.g i).y] = [I (A13.g i).x,I (A13.g i).y])/\(A8=(↑g'.1:Int)/\g'.1<A11/\g'.2 <= A13.n)/\A13.n - g'.2<A1.n - g_1.2)/\(decide (A12<A32)=false->(A4=true->(A6 <= A8/\A8<A22)/\(A1.n+nat_lit 1) * nat_lit 16 <= (140737488355328:Nat)/\InK .i64 (A8+A18) /\ ∃ (g':Nat),let A28:=(L.cm a b c d g');A3/\A8+A18=(↑g':Int)/\SV.ref A14 A5=SV.ref A14 A5/\SV.ref A15 A5=SV.ref A15 A5/\SV.ref A16 A5=SV.ref A16 A5/\SV.ref A17 A5=SV.ref A17 A5/\(A1.n+nat_lit 1=A28.n /\ ∀ (i:Nat),i<A1.n+nat_lit 1->appGet A1.n (fun (j:Nat)=>[I (A1.g j).x,I (A1.g j).y]) (fun (x:Nat)=>[I A2.x,I A2.y]) i = [I (A28.g i).x,I (A28.g i).y])/\g' <= A11/\A11 - g'<A11 - g)/\(A4=false->InK .i64 (A8+A18) /\ ∃ (g':Nat),let A29:=(L.cm a b c d g');A3/\A8+A18=(↑g':Int)/\SV.ref A14 A5=SV.ref A14 A5/\SV.ref A15 A5=SV.ref A15 A5/\SV.ref A16 A5=SV.ref A16 A5/\SV.ref A17 A5=SV.ref A17 A5/\(A1.n=A29.n /\ ∀ (i:Nat),i<A1.n -> [I (A1.g i).x,I (A1.g i).y] = [I (A29.g i).x,I (A29.g i).y])/\g' <= A11/\A11 - g'<A11 - g))))/\(decide (A8<(4:Int))=false->(decide (A18<A26)=true->(3:Int)=L.meet a b c d)/\(decide (A18<A26)=false->(decide (A26=A18)=true->A18=L.meet a b c d)/\(decide (A26=A18)=false->(L.bd a/\L.bd b/\L.bd c)/\True/\(L.bd a/\L.bd b/\L.bd d)/\True/\InK .i64 (L.cmp A20 A6 * L.cmp A21 A6)/\(decide (L.cmp A20 A6 * L.cmp A21 A6<A6)=true->L.bd c/\L.bd d/\L.bd a)/\A10/\(decide (L.cmp A20 A6 * L.cmp A21 A6<A6)=true->L.bd c/\L.bd d/\L.bd b)/\A10/\(decide (L.cmp A20 A6 * L.cmp A21 A6<A6)=true->InK .i64 (L.cmp (L.cross c d a) A6 * L.cmp (L.cross c d b) A6))/\(A7=true->(2:Int)=L.meet a b c d)/\(A7=false->A6=L.meet a b c d))))) (by kernel_rfl) (by
 conv=>zeta
 obtain ⟨ha,hb,hc,hd⟩:=hp
 have hp4:∀ i,L.bd (L.pick4 a b c d i):=fun i=>by
  unfold L.pick4
  cases decide (i=0) <;> cases decide (i=1) <;> cases decide (i=2) <;> assumption
 refine ⟨⟨(0:Nat),⟨rfl,fun i hi=>by match i,hi with | 0,_=>rfl | 1,_=>rfl | 2,_=>rfl | 3,_=>rfl⟩,rfl,⟨rfl,fun i hi=>absurd hi (Nat.not_lt_zero _)⟩,by decide⟩,fun g hg=>⟨fun hlt=>?_,fun hge=>?_⟩⟩
 ·have hb1:(g:Int)<4:=of_decide_eq_true hlt
  have e0:((g:Int)).toNat=g:=by omega
  rw [e0]
  refine ⟨⟨by omega,hb1⟩,⟨ha,hb,hp4 g⟩,fun _=>⟨by omega,hb1⟩,fun _=>⟨hc,hd,hp4 g⟩,fun h1=>?_,fun h1=>?_⟩
  ·have hoff : L.onB a b c d (L.pick4 a b c d g) = false := by
    unfold L.onB
    revert h1
    cases L.on a b (L.pick4 a b c d g) <;> cases L.on c d (L.pick4 a b c d g) <;> intro h1 <;> first | rfl | cases h1
   have e:L.cm a b c d (g+1)=L.cm a b c d g:=by rw [L.cm,hoff];rfl
   refine ⟨jK,g+1,⟨rfl,fun _ _=>rfl⟩,by omega,rfl,rfl,rfl,rfl,?_,by omega,by omega⟩
   rw [e];exact ⟨rfl,fun _ _=>rfl⟩
  ·have hon : L.onB a b c d (L.pick4 a b c d g) = true := by
    unfold L.onB
    revert h1
    cases L.on a b (L.pick4 a b c d g) <;> cases L.on c d (L.pick4 a b c d g) <;> intro h1 <;> first | rfl | cases h1
   refine ⟨⟨(g,0),rfl,rfl,⟨rfl,fun _ _=>rfl⟩,rfl,by show g<4;omega,Nat.zero_le _⟩,?_⟩
   rintro ⟨g',k⟩ ⟨e1,e2,e3⟩
   have e1:(g:Int)=(g':Int):=e1
   obtain rfl:g=g':=by omega
   have e3:k <= (L.cm a b c d g).n:=e3
   have ek:((k:Int)).toNat=k:=by omega
   have hcn:=cm_n (a:=a) (b:=b) (c:=c) (d:=d) (i:=g)
   dsimp only
   rw [ek]
   refine ⟨fun hlt2=>?_,fun hge2=>?_⟩
   ·have hk:(k:Int)<((L.cm a b c d g).n:Int):=of_decide_eq_true hlt2
    refine ⟨fun _=>⟨by omega,hk⟩,fun _=>(show k<(L.cm a b c d g).n by omega),fun _=>⟨by omega,hb1⟩,jK,(g,k+1),?_,by show (k:Int)+1=((k+1:Nat):Int);omega,⟨rfl,fun _ _=>rfl⟩,rfl,rfl,rfl,rfl,rfl,⟨rfl,fun _ _=>rfl⟩,⟨rfl,by show g<4;omega,by show k+1 <= (L.cm a b c d g).n;omega⟩,by show (L.cm a b c d g).n - (k+1)<(L.cm a b c d g).n - k;omega⟩
    rw [bor];rfl
   ·have hk:¬ (k:Int)<((L.cm a b c d g).n:Int):=of_decide_eq_false hge2
    obtain rfl:k=(L.cm a b c d g).n:=by omega
    have hhas:L.anyB (L.cm a b c d g).n (fun j=>L.same ((L.cm a b c d g).g j) (L.pick4 a b c d g))=L.has (L.cm a b c d g) (L.pick4 a b c d g) :=
     anyB_congr (fun i _=>same_sym _ _)
    rw [hhas]
    refine ⟨fun h2=>?_,fun h2=>?_⟩
    ·have e : L.cm a b c d (g + 1) = ⟨(L.cm a b c d g).n + 1, fun i => if i < (L.cm a b c d g).n then (L.cm a b c d g).g i else L.pick4 a b c d g⟩ := by
      rw [L.cm,hon]
      show L.put _ _=_
      unfold L.put;rw [notT h2];rfl
     refine ⟨⟨by omega,hb1⟩,show ((L.cm a b c d g).n+1) * 16 <= 140737488355328 by omega,jK,g+1,⟨rfl,fun _ _=>rfl⟩,by omega,rfl,rfl,rfl,rfl,?_,by omega,by omega⟩
     rw [e]
     refine ⟨rfl,fun i hi=>?_⟩
     unfold appGet
     dsimp only
     by_cases h':i<(L.cm a b c d g).n
     ·rw [if_pos h',if_pos h']
     ·rw [if_neg h',if_neg h']
    ·have e : L.cm a b c d (g + 1) = L.cm a b c d g := by
      rw [L.cm,hon]
      show L.put _ _=_
      unfold L.put;rw [notF h2];rfl
     refine ⟨jK,g+1,⟨rfl,fun _ _=>rfl⟩,by omega,rfl,rfl,rfl,rfl,?_,by omega,by omega⟩
     rw [e];exact ⟨rfl,fun _ _=>rfl⟩
 ·have hb1:¬ (g:Int)<4:=of_decide_eq_false hge
  obtain rfl:g=4:=by omega
  rw [cm_eq]
  have q1:=cmp_bd (L.cross a b c) 0
  have q2:=cmp_bd (L.cross a b d) 0
  have q3:=cmp_bd (L.cross c d a) 0
  have q4:=cmp_bd (L.cross c d b) 0
  have m1:=mul_bd (m:=1) (n:=1) q1.1 q1.2 q2.1 q2.2
  have m2:=mul_bd (m:=1) (n:=1) q3.1 q3.2 q4.1 q4.2
  refine ⟨fun h1=>?_,fun h1=>⟨fun h2=>?_,fun h2=>⟨⟨ha,hb,hc⟩,trivial,⟨ha,hb,hd⟩,trivial,jK,fun _=>⟨hc,hd,ha⟩,fun _=>trivial,fun _=>⟨hc,hd,hb⟩,fun _=>trivial,fun _=>jK,fun h3=>?_,fun h3=>?_⟩⟩⟩
  ·unfold L.meet;rw [h1];rfl
  ·unfold L.meet;rw [h1,h2];rfl
  ·have h3:(bif L.apart a b c d then L.apart c d a b else false)=true:=h3
   unfold L.meet;rw [h1,h2,h3];rfl
  ·have h3:(bif L.apart a b c d then L.apart c d a b else false)=false:=h3
   unfold L.meet;rw [h1,h2,h3];rfl)
theorem r1_meet_ok:SpecOk Tryz.prog 140 r1_meet_S:=fnX Tryz.func140 (c:=bodyOf Tryz.f140) (by kernel_rfl) mixed (fun args p r hs hp=>by
 unfold r1_meet_s at hs
 split at hs
 ·cases hs;exact ⟨_,_,r1_meet_vc _ _ _ _ hp,(.same _ (.same _ (.same _ (.same _ .nil)))),⟨show SpecsL Tryz.prog _ from (SpecsL.cons r1_On_ok r1_On_en (SpecsL.cons r1_Cross_ok r1_Cross_en (SpecsL.cons r1_sign_ok r1_sign_en SpecsL.nil))),rfl,⟨show ItersL Tryz.prog _ from ItersL.nil,(TrsOk.none (fun _=>rfl))⟩⟩⟩
 ·cases hs)
theorem r1_meet_en:Enters Tryz.prog 140:=fun args w=>by kernel_rfl
def r1_simple_p (l:(L.Sq L.Pt)):Prop:=L.allBd l
def r1_simple_r (l:(L.Sq L.Pt)):SV:=.bool (L.simple l)
def r1_simple_s:List EV->Option (Prop × SV)
 | [.p (.sl 2 l_n l_g)]=>some ((∀ i,i<l_n->l_g i = [.int .i64 ((ofPt (l_g i)).x),.int .i64 ((ofPt (l_g i)).y)])/\r1_simple_p (⟨l_n,fun i=>ofPt (l_g i)⟩:(L.Sq L.Pt)),r1_simple_r (⟨l_n,fun i=>ofPt (l_g i)⟩:(L.Sq L.Pt)))
 | _=>none
abbrev r1_simple_S:SE.Spec:=(specO r1_simple_s)
def r1_simple_C:Cfg:={ cC with specs:=lookS [(98,r1_at_S),(140,r1_meet_S)] }
theorem r1_simple_vc (l:(L.Sq L.Pt)) (hp:r1_simple_p l):vc Tryz.prog ({ r1_simple_C with loops:=lookL [(3,{ T:=Nat,keep:=[0,3],keepO:=[],chg:=fun i=>[(4,.p (.int .i64 (i:Int)))],own:=fun _=>[],inv:=fun i=>i <= l.n /\ ∀ j,j<i -> ∀ k,j<k->k<l.n->L.okPair l j k=true,mu:=fun i=>l.n - i }),(6,{ T:=Nat × Nat,keep:=[0,3,4],keepO:=[],tie:=fun i=>[(4,.int .i64 (i.1:Int))],chg:=fun i=>[(5,.p (.int .i64 (i.2:Int)))],own:=fun _=>[],inv:=fun i=>i.1<i.2/\i.2 <= l.n/\(∀ j,j<i.1 -> ∀ k,j<k->k<l.n->L.okPair l j k=true) /\ ∀ k,i.1<k->k<i.2->L.okPair l i.1 k=true,mu:=fun i=>l.n - i.2 })],rfs:=lookR [] }) (bodyOf Tryz.f95) (st0 Tryz.f95 [.p (.sl 2 l.n (fun i=>[.int .i64 ((l.g i).x),.int .i64 ((l.g i).y)]))]) (retFn Tryz.prog Tryz.f95 (r1_simple_r l)) :=
 @Eq.mpr _ (let I:=SV.int .i64;let A19:=(1:Nat);let A15:=(0:Int);let A12:=(1000000:Int);let A11:=(1000000:Nat);let A10:=(-1000000:Int);let A7:=(l.n=l.n /\ ∀ (i:Nat),let A17:=[I (l.g i).x,I (l.g i).y];i<l.n->A17=A17);let A6:=(↑l.n:Int);let A5:=(1:Int);let A2:=(∀ (i:Nat),let A18:=[I (l.g i).x,I (l.g i).y];i<l.n->A18=A18);(∃ (g
:Nat),A15=(↑g:Int)/\g <= l.n /\ ∀ (j:Nat),j<g -> ∀ (k:Nat),j<k->k<l.n->L.okPair l j k=true) /\ ∀ (g:Nat),let A4:=(↑g:Int);let A16:=(A4+A5);let A13:=(l.g (L.ix l.n A4));let A8:=(l.g (L.ix l.n A16));(g <= l.n /\ ∀ (j:Nat),j<g -> ∀ (k:Nat),j<k->k<l.n->L.okPair l j k=true)->(decide (A4<A6)=true->InK .i64
 A16/\(∃ (g_1:Nat × Nat),A4+A5=(↑g_1.2:Int)/\A4=(↑g_1.1:Int)/\g_1.1<g_1.2/\g_1.2 <= l.n/\(∀ (j:Nat),j<g_1.1 -> ∀ (k:Nat),j<k->k<l.n->L.okPair l j k=true) /\ ∀ (k:Nat),g_1.1<k->k<g_1.2->L.okPair l g_1.1 k=true) /\ ∀ (g_1:Nat × Nat),let A3:=(↑g_1.2:Int);let A14:=(l.g (L.ix l.n A3));let A9:=(l.g (L.ix l.n (A3+A5)));let A1:=(bif bif
 bif decide (A3=A4+A5) then true else bif decide (A4=A15) then decide (A3=A6 - A5) else false then !decide (L.meet A13 A8 A14 A9=A5) else false then true else bif !bif decide (A3=A4+A5) then true else bif decide (A4=A15) then decide (A3=A6 - A5) else false then !decide
 (L.meet A13 A8 A14 A9=A15) else false);(A4=(↑g_1.1:Int)/\g_1.1<g_1.2/\g_1.2 <= l.n/\(∀ (j:Nat),j<g_1.1 -> ∀ (k:Nat),j<k->k<l.n->L.okPair l j k=true) /\ ∀ (k:Nat),g_1.1<k->k<g_1.2->L.okPair l g_1.1 k=true)->(decide (A3<A6)=true->(A2/\A19 <= l.n/\l.n <= A11/\A10 <= A4/\A4 <= A12)/\InK .i64 A16/\(A2/\A19 <= l.n
 /\ l.n <= A11/\A10 <= A4+A5/\A4+A5 <= A12)/\(A2/\A19 <= l.n/\l.n <= A11/\A10 <= A3/\A3 <= A12)/\InK .i64 (A3+A5)/\(A2/\A19 <= l.n/\l.n <= A11/\A10 <= A3+A5/\A3+A5 <= A12)/\(L.bd A13/\L.bd A8/\L.bd A14/\L.bd A9)/\InK .i64 A16/\((!decide (A3=A4+A5) && decide (A4=A15))=true->InK .i64 (A6 - A5))/\(A1 =
 true->false=L.simple l)/\(A1=false->InK .i64 (A3+A5) /\ ∃ (g':Nat × Nat),A3+A5=(↑g'.2:Int)/\A4=A4/\A6=A6/\A7/\(A4=(↑g'.1:Int)/\g'.1<g'.2/\g'.2 <= l.n/\(∀ (j:Nat),j<g'.1 -> ∀ (k:Nat),j<k->k<l.n->L.okPair l j k=true) /\ ∀ (k:Nat),g'.1<k->k<g'.2->L.okPair l g'.1 k=true)/\l.n - g'.2<l.n - g_1.2)) /\
 (decide (A3<A6)=false->InK .i64 A16 /\ ∃ (g':Nat),A4+A5=(↑g':Int)/\A6=A6/\A7/\(g' <= l.n /\ ∀ (j:Nat),j<g' -> ∀ (k:Nat),j<k->k<l.n->L.okPair l j k=true)/\l.n - g'<l.n - g))/\(decide (A4<A6)=false->true=L.simple l)) (by kernel_rfl) (by
  conv=>zeta
  obtain ⟨hn,hb⟩:=hp
  have fin0:∀ {i k:Nat},i<k->k<l.n->L.okPair l i k=false->false=L.simple l:=fun {i k} hik hk h=>by
   unfold L.simple
   rw [allB_false (i:=i) (by omega) (allB_false (i:=k) hk (by simp [hik,h]))]
  refine ⟨⟨(0:Nat),rfl,Nat.zero_le _,fun j hj=>absurd hj (Nat.not_lt_zero _)⟩,fun g hg=>⟨fun hlt=>?_,fun hge=>?_⟩⟩
  ·have hb1:(g:Int)<(l.n:Int):=of_decide_eq_true hlt
   refine ⟨jK,⟨(g,g+1),by show (g:Int)+1=((g+1:Nat):Int);omega,rfl,Nat.lt_succ_self g,by show g+1 <= l.n;omega,hg.2,fun k h1 h2=>?_⟩,?_⟩
   ·have h1:g<k:=h1
    have h2:k<g+1:=h2
    omega
   rintro ⟨i,k⟩ ⟨e1,hik,hkn,h0,h1⟩
   have e1:(g:Int)=(i:Int):=e1
   obtain rfl:g=i:=by omega
   have hik:g<k:=hik
   have hkn:k <= l.n:=hkn
   have h0:∀ j,j<g -> ∀ k,j<k->k<l.n->L.okPair l j k=true:=h0
   have h1:∀ m,g<m->m<k->L.okPair l g m=true:=h1
   dsimp only
   refine ⟨fun hlt2=>?_,fun hge2=>?_⟩
   ·have hk:(k:Int)<(l.n:Int):=of_decide_eq_true hlt2
    have c5:L.next l.n k<l.n:=next_lt (by omega)
    have c2:L.ix l.n ((g:Int)+1)=g+1:=by
     rw [show (g:Int)+1=((g+1:Nat):Int) by omega,ix_self (by omega)]
    rw [ix_self (n:=l.n) (k:=g) (by omega),c2,ix_self (n:=l.n) (k:=k) (by omega),ix_next (n:=l.n) (k:=k) (by omega)]
    have key:(bif (bif (bif decide ((k:Int)=(g:Int)+1) then true else bif decide ((g:Int)=0) then decide ((k:Int)=(l.n:Int) - 1) else false) then !decide (L.meet (l.g g) (l.g (g+1)) (l.g k) (l.g (L.next l.n k))=1) else false) then true else bif !(bif decide ((k:Int)=(g:Int)+1) then true else bif decide ((g:Int)=0) then decide ((k:Int)=(l.n:Int) - 1) else false) then !decide (L.meet (l.g g) (l.g (g+1)) (l.g k) (l.g (L.next l.n k))=0) else false) = !L.okPair l g k:=by
     unfold L.okPair L.nxt L.how
     generalize (bif decide ((k:Int)=(g:Int)+1) then true else bif decide ((g:Int)=0) then decide ((k:Int)=(l.n:Int) - 1) else false)=q
     generalize decide (L.meet (l.g g) (l.g (g+1)) (l.g k) (l.g (L.next l.n k))=1)=q1
     generalize decide (L.meet (l.g g) (l.g (g+1)) (l.g k) (l.g (L.next l.n k))=0)=q2
     cases q <;> cases q1 <;> cases q2 <;> rfl
    rw [key]
    refine ⟨⟨fun _ _=>rfl,by omega,by omega,by omega,by omega⟩,jK,⟨fun _ _=>rfl,by omega,by omega,by omega,by omega⟩,⟨fun _ _=>rfl,by omega,by omega,by omega,by omega⟩,jK,⟨fun _ _=>rfl,by omega,by omega,by omega,by omega⟩,⟨hb g (by omega),hb (g+1) (by omega),hb k (by omega),hb _ c5⟩,jK,fun _=>jK,fun h=>fin0 hik (by omega) (notT h),fun h=>?_⟩
    have hok:L.okPair l g k=true:=notF h
    refine ⟨jK,(g,k+1),by show (k:Int)+1=((k+1:Nat):Int);omega,rfl,rfl,⟨rfl,fun _ _=>rfl⟩,⟨rfl,by show g<k+1;omega,by show k+1 <= l.n;omega,h0,fun m hm1 hm2=>?_⟩,by show l.n - (k+1)<l.n - k;omega⟩
    have hm1:g<m:=hm1
    have hm2:m<k+1:=hm2
    show L.okPair l g m=true
    rcases Nat.lt_succ_iff_lt_or_eq.1 hm2 with h' | rfl
    ·exact h1 m hm1 h'
    ·exact hok
   ·have hk:¬ (k:Int)<(l.n:Int):=of_decide_eq_false hge2
    refine ⟨jK,g+1,by omega,rfl,⟨rfl,fun _ _=>rfl⟩,⟨by omega,fun j hj m hm1 hm2=>?_⟩,by omega⟩
    rcases Nat.lt_succ_iff_lt_or_eq.1 hj with h' | rfl
    ·exact h0 j h' m hm1 hm2
    ·exact h1 m hm1 (by omega)
  ·have hb1:¬ (g:Int)<(l.n:Int):=of_decide_eq_false hge
   unfold L.simple
   rw [allB_iff.2 (fun i hi=>allB_iff.2 (fun k hk=>?_))]
   by_cases hik:i<k
   ·simp [hik,hg.2 i (by omega) k hik hk]
   ·simp [hik])
theorem r1_simple_ok:SpecOk Tryz.prog 95 r1_simple_S:=fnX Tryz.func95 (c:=bodyOf Tryz.f95) (by kernel_rfl) mixed (fun args p r hs hp=>by
 unfold r1_simple_s at hs
 split at hs
 ·cases hs;exact ⟨_,_,r1_simple_vc _ hp.2,(.p (.sl hp.1) .nil),⟨show SpecsL Tryz.prog _ from (SpecsL.cons r1_at_ok r1_at_en (SpecsL.cons r1_meet_ok r1_meet_en SpecsL.nil)),rfl,⟨show ItersL Tryz.prog _ from ItersL.nil,(TrsOk.none (fun _=>rfl))⟩⟩⟩
 ·cases hs)
theorem r1_simple_en:Enters Tryz.prog 95:=fun args w=>by kernel_rfl
def r1_ValidOutline_p (l:(L.Sq L.Pt)):Prop:=True
def r1_ValidOutline_r (l:(L.Sq L.Pt)):SV:=.bool (L.validOutline l)
def r1_ValidOutline_s:List EV->Option (Prop × SV)
 | [.p (.sl 2 l_n l_g)]=>some ((∀ i,i<l_n->l_g i = [.int .i64 ((ofPt (l_g i)).x),.int .i64 ((ofPt (l_g i)).y)])/\r1_ValidOutline_p (⟨l_n,fun i=>ofPt (l_g i)⟩:(L.Sq L.Pt)),r1_ValidOutline_r (⟨l_n,fun i=>ofPt (l_g i)⟩:(L.Sq L.Pt)))
 | _=>none
abbrev r1_ValidOutline_S:SE.Spec:=(specO r1_ValidOutline_s)
def r1_ValidOutline_C:Cfg:={ cC with specs:=lookS [(94,r1_points_S),(95,r1_simple_S),(96,r1_sum_S),(97,r1_less_S),(98,r1_at_S),(37,r1_Cross_S)] }
theorem r1_ValidOutline_vc (l:(L.Sq L.Pt)) (hp:r1_ValidOutline_p l):vc Tryz.prog ({ r1_ValidOutline_C with loops:=lookL [(4,{ T:=Nat,keep:=[0],keepO:=[],chg:=fun i=>[(3,.p (.int .i64 (i:Int)))],own:=fun _=>[],inv:=fun i=>i <= l.n /\ ∀ j,j<i->L.corner l j=true,mu:=fun i=>l.n - i })],rfs:=lookR [] }) (bodyOf Tryz.f44) (st0 Tryz.f44 [.p (.sl 2 l.n (fun i=>[.int .i64 ((l.g i).x),.int .i64 ((l.g i).y)]))]) (retFn Tryz.prog Tryz.f44 (r1_ValidOutline_r l)) :=
 @Eq.mpr _ (let I:=SV.int .i64;let T:=Int.toNat;let A17:=(3:Int);let A16:=(24:Int);let A11:=(1000000:Nat);let A9:=(1:Int);let A8:=(0:Int);let A7:=(↑l.n:Int);let A5:=(L.Sq.mk l.n fun (i:Nat)=>l.g i);let A4:=(∀ (i:Nat),let A12:=[I (l.g i).x,I (l.g i).y];i<l.n->A12=A12);let A2:=(bif bif bif bif decide (A7<A17) then true else decide (A16<A7) then true else !L.validPts A5 then true else !L.simple A5 then true else decide (L.areaTo A5 l.n <= A8));((!bif decide (A7<A17) then true else decide (A16<A7))=true->A4/\l.n <= A11)/\((!bif bif decide (A7<A17) then true else decide (A16<A7) then true else !L.validPts A5)=true->A4/\L.allBd A5)/\((!bif bif bif decide (A7<A17) then true else decide (A16<A7) then true else !L.validPts A5 then true else !L.simple A5)=true->A4/\L.small A5)/\(A2=true->false=L.validOutline l)/\(A2=false->(∃ (g:Nat),A8=(↑g:Int)/\g <= l.n /\ ∀ (j:Nat),j<g->L.corner l j=true) /\ ∀ (g:Nat),let A6:=(↑g:Int);let A14:=(l.g (L.ix l.n (A6+A9)));let A13:=(l.g (L.ix l.n (A6 - A9)));let A10:=(l.g (T A6));let A3:=(bif bif decide (A8<A6) then !decide (L.cmpPt (l.g (T A8)) A10<A8) else false then true else decide (L.cross A13 A10 A14=A8));let A1:=(!bif decide (A8<A6) then !decide (L.cmpPt (l.g (T A8)) A10<A8) else false);(g <= l.n /\ ∀ (j:Nat),j<g->L.corner l j=true)->(decide (A6<A7)=true->(decide (A8<A6)=true->A8 <= A8/\A8<A7)/\(decide (A8<A6)=true->A8 <= A6/\A6<A7)/\(decide (A8<A6)=true->True)/\(A1=true->InK .i64 (A6 - A9))/\(A1=true->A4/\(1:Nat) <= l.n/\l.n <= A11/\(-1000000:Int) <= A6 - A9/\A6 - A9 <= (1000000:Int))/\(A1=true->A8 <= A6/\A6<A7)/\(A1=true->InK .i64 (A6+A9))/\(A1=true->A4/\(1:Nat) <= l.n/\l.n <= A11/\(-1000000:Int) <= A6+A9/\A6+A9 <= (1000000:Int))/\(A1=true->L.bd A13/\L.bd A10/\L.bd A14)/\(A3=true->false=L.validOutline l)/\(A3=false->InK .i64 (A6+A9) /\ ∃ (g':Nat),A6+A9=(↑g':Int)/\(l.n=l.n /\ ∀ (i:Nat),let A15:=[I (l.g i).x,I (l.g i).y];i<l.n->A15=A15)/\(g' <= l.n /\ ∀ (j:Nat),j<g'->L.corner l j=true)/\l.n - g'<l.n - g))/\(decide (A6<A7)=false->true=L.validOutline l))) (by kernel_rfl) (by
 conv=>zeta
 have c1:(bif decide ((l.n:Int)<3) then true else decide (24<(l.n:Int))) = !L.within (l.n:Int) 3 24:=by
  rw [bor,Bool.eq_iff_iff,Bool.or_eq_true,decide_eq_true_eq,decide_eq_true_eq,Bool.not_eq_true',Bool.eq_false_iff,Ne,within_iff]
  omega
 rw [c1]
 have sp:L.within (l.n:Int) 3 24=true->L.validPts l=true->3 <= l.n/\l.n <= 24/\L.small l/\L.allBd l:=valid3_spec
 refine ⟨fun h=>⟨fun _ _=>rfl,?_⟩,fun h=>⟨fun _ _=>rfl,?_⟩,fun h=>⟨fun _ _=>rfl,?_⟩,fun h=>?_,fun h=>?_⟩
 ·have:=within_iff.1 (notF (notT h));omega
 ·have h:=notT h
  rw [bor,Bool.or_eq_false_iff] at h
  exact (sp (notF h.1) (notF h.2)).2.2.2
 ·have h:=notT h
  rw [bor,bor,Bool.or_eq_false_iff,Bool.or_eq_false_iff] at h
  exact (sp (notF h.1.1) (notF h.1.2)).2.2.1
 ·have h:(bif bif bif !L.within (l.n:Int) 3 24 then true else !L.validPts l then true else !L.simple l then true else decide (L.areaTo l l.n <= 0))=true:=h
  have e3:L.valid3 l=false\/L.simple l=false:=by
   rw [bor,bor,bor,Bool.or_eq_true,Bool.or_eq_true,Bool.or_eq_true] at h
   unfold L.valid3
   rcases h with ((h | h) | h) | h
   ·rw [notT h];exact .inl rfl
   ·rw [notT h];left;cases L.within (l.n:Int) 3 24 <;> rfl
   ·exact .inr (notT h)
   ·left
    have:=of_decide_eq_true h
    rw [decide_eq_false (show ¬ 0<L.areaTo l l.n by omega)]
    cases L.within (l.n:Int) 3 24 <;> cases L.validPts l <;> rfl
  unfold L.validOutline
  rcases e3 with e3 | e3 <;> rw [e3] <;> simp
 have h:(bif bif bif !L.within (l.n:Int) 3 24 then true else !L.validPts l then true else !L.simple l then true else decide (L.areaTo l l.n <= 0))=false:=h
 rw [bor,bor,bor,Bool.or_eq_false_iff,Bool.or_eq_false_iff,Bool.or_eq_false_iff] at h
 obtain ⟨⟨⟨h1,h2⟩,h3⟩,h4⟩:=h
 have h1:=notF h1
 have h2:=notF h2
 have h3:=notF h3
 have h4:=of_decide_eq_false h4
 obtain ⟨n3,n24,hsm,hbd⟩:=sp h1 h2
 have hv:L.valid3 l=true:=by
  unfold L.valid3;rw [h1,h2,decide_eq_true (show 0<L.areaTo l l.n by omega)];rfl
 refine ⟨⟨(0:Nat),rfl,Nat.zero_le _,fun j hj=>absurd hj (Nat.not_lt_zero _)⟩,fun g hg=>⟨fun hlt=>?_,fun hge=>?_⟩⟩
 ·have hb:(g:Int)<(l.n:Int):=of_decide_eq_true hlt
  have hk:g<l.n:=by omega
  have e0:((g:Int)).toNat=g:=by omega
  have key:=corner_eq (l:=l) (k:=g)
  rw [e0,ix_prev hk,ix_next hk]
  refine ⟨fun _=>by omega,fun _=>by omega,fun _=>trivial,fun _=>jK,fun _=>⟨fun _ _=>rfl,by omega,by omega,by omega,by omega⟩,fun _=>by omega,fun _=>jK,fun _=>⟨fun _ _=>rfl,by omega,by omega,by omega,by omega⟩,fun _=>⟨hbd.2 _ (prev_lt (by omega)),hbd.2 _ hk,hbd.2 _ (next_lt (by omega))⟩,fun h=>?_,fun h=>?_⟩
  ·have h:L.corner l g=false:=notT (key.symm.trans h)
   unfold L.validOutline
   rw [allB_false hk h];simp
  ·have h:L.corner l g=true:=notF (key.symm.trans h)
   exact ⟨jK,g+1,by omega,⟨rfl,fun _ _=>rfl⟩,⟨by omega,fun j hj=>by
    rcases Nat.lt_succ_iff_lt_or_eq.1 hj with h' | rfl
    ·exact hg.2 j h'
    ·exact h⟩,by omega⟩
 ·have hb:¬ (g:Int)<(l.n:Int):=of_decide_eq_false hge
  unfold L.validOutline
  rw [hv,allB_iff.2 (fun i hi=>hg.2 i (by omega)),h3];rfl)
theorem r1_ValidOutline_ok:SpecOk Tryz.prog 44 r1_ValidOutline_S:=fnX Tryz.func44 (c:=bodyOf Tryz.f44) (by kernel_rfl) mixed (fun args p r hs hp=>by
 unfold r1_ValidOutline_s at hs
 split at hs
 ·cases hs;exact ⟨_,_,r1_ValidOutline_vc _ hp.2,(.p (.sl hp.1) .nil),⟨show SpecsL Tryz.prog _ from (SpecsL.cons r1_points_ok r1_points_en (SpecsL.cons r1_simple_ok r1_simple_en (SpecsL.cons r1_sum_ok r1_sum_en (SpecsL.cons r1_less_ok r1_less_en (SpecsL.cons r1_at_ok r1_at_en (SpecsL.cons r1_Cross_ok r1_Cross_en SpecsL.nil)))))),rfl,⟨show ItersL Tryz.prog _ from ItersL.nil,(TrsOk.none (fun _=>rfl))⟩⟩⟩
 ·cases hs)
theorem r1_ValidOutline_en:Enters Tryz.prog 44:=fun args w=>by kernel_rfl
end Go.Proofs.YtpgaejicfbpcmaaGreat
namespace Go.Proofs.YtpgaejicfbpcmaaGreat
open Go.SE Go.RowKit
set_option maxRecDepth 100000
set_option maxHeartbeats 4000000
set_option linter.unusedVariables false
attribute [local irreducible] vc
def L.oE (l:L.Sq L.Pt):Int:=bif L.validOutline l then 0 else 1
def L.lowTo (l:L.Sq L.Pt):Nat->L.Pt
 | 0=>l.g 0
 | k+1=>⟨min (L.lowTo l k).x (l.g k).x,min (L.lowTo l k).y (l.g k).y⟩
def L.highTo (l:L.Sq L.Pt):Nat->L.Pt
 | 0=>l.g 0
 | k+1=>⟨max (L.highTo l k).x (l.g k).x,max (L.highTo l k).y (l.g k).y⟩
def L.boxL (l:L.Sq L.Pt):L.Pt:=bif L.validOutline l then L.lowTo l l.n else ⟨0,0⟩
def L.boxH (l:L.Sq L.Pt):L.Pt:=bif L.validOutline l then L.highTo l l.n else ⟨0,0⟩
structure L.Want where
 id:Int
 colour:Int
 grain:Int
 ol:L.Sq L.Pt
structure L.Sheet where
 id:Int
 colour:Int
 w:Int
 h:Int
 grain:Int
structure L.Size where
 w:Int
 h:Int
def ofWant:List SV->L.Want
 | [.int _ a,.int _ b,.int _ c,.sl _ n g]=>⟨a,b,c,⟨n,fun i=>ofPt (g i)⟩⟩
 | _=>⟨0,0,0,⟨0,fun _=>⟨0,0⟩⟩⟩
def okWant:List SV->Prop
 | [.int .i64 _,.int .i64 _,.int .i64 _,.sl 2 n g]=>∀ i,i<n->g i = [.int .i64 (ofPt (g i)).x,.int .i64 (ofPt (g i)).y]
 | _=>False
def ofSheet:List SV->L.Sheet
 | [.int _ a,.int _ b,.int _ c,.int _ d,.int _ e]=>⟨a,b,c,d,e⟩
 | _=>⟨0,0,0,0,0⟩
def ofSize:List SV->L.Size
 | [.int _ a,.int _ b]=>⟨a,b⟩
 | _=>⟨0,0⟩
theorem want_row {l:List SV} (h:okWant l):l.length=4 /\ ∀ j,j<4->Ext (SV.at l j) (SV.at [.int .i64 (ofWant l).id,.int .i64 (ofWant l).colour,.int .i64 (ofWant l).grain,.sl 2 (ofWant l).ol.n (fun i=>[.int .i64 ((ofWant l).ol.g i).x,.int .i64 ((ofWant l).ol.g i).y])] j):=by
 unfold okWant at h
 split at h
 ·rename_i a b c n g
  refine ⟨rfl,fun j hj=>?_⟩
  match j,hj with
  | 0,_=>exact .refl _
  | 1,_=>exact .refl _
  | 2,_=>exact .refl _
  | 3,_=>exact .sl h
 ·exact h.elim
theorem Want_ext {n:Nat} {g:Nat->List SV} (h:∀ i,i<n->okWant (g i)):Ext (.sl 4 n g) (.sl 4 n (fun i=>[.int .i64 (ofWant (g i)).id,.int .i64 (ofWant (g i)).colour,.int .i64 (ofWant (g i)).grain,.sl 2 (ofWant (g i)).ol.n (fun i1=>[.int .i64 ((ofWant (g i)).ol.g i1).x,.int .i64 ((ofWant (g i)).ol.g i1).y])])) :=
 .sl2 (fun i hi=>by rw [(want_row (h i hi)).1];rfl) (fun i hi j hj=>(want_row (h i hi)).2 j (by rw [(want_row (h i hi)).1] at hj;exact hj))
def L.vSheet (s:L.Sheet):Bool:=bif (bif (bif (bif L.within s.id 1 65535 then L.within s.colour 1 16 else false) then L.within s.w 1 4096 else false) then L.within s.h 1 4096 else false) then L.within s.grain 0 2 else false
def L.vWant (w:L.Want):Bool:=bif (bif (bif L.within w.id 1 65535 then L.within w.colour 1 16 else false) then L.within w.grain 0 2 else false) then L.validOutline w.ol else false
def L.alw (own grain turn:Int):Bool:=bif (bif decide (own=0) then true else decide (grain=0)) then true else (decide (turn=0) == decide (own=grain))
def L.badGT (grain turn:Int):Bool:=bif !L.within grain 0 2 then true else !L.within turn 0 1
def L.alwE (w:L.Want) (grain turn:Int):Int:=bif !L.vWant w then 50 else bif L.badGT grain turn then 1 else 0
def L.alwB (w:L.Want) (grain turn:Int):Bool:=bif !L.vWant w then false else bif L.badGT grain turn then false else L.alw w.grain grain turn
def L.box (l:L.Sq L.Pt) (turn:Int):L.Size:=bif decide (turn=1) then ⟨(L.boxH l).y - (L.boxL l).y,(L.boxH l).x - (L.boxL l).x⟩ else ⟨(L.boxH l).x - (L.boxL l).x,(L.boxH l).y - (L.boxL l).y⟩
def L.boxE (w:L.Want) (turn:Int):Int:=bif !L.vWant w then 50 else bif !L.within turn 0 1 then 1 else 0
def L.boxOf (w:L.Want) (turn:Int):L.Size:=bif decide (L.boxE w turn=0) then L.box w.ol turn else ⟨0,0⟩
theorem vPt_iff {p:L.Pt}:L.validPt p=true ↔ 0 <= p.x/\p.x <= 4096/\0 <= p.y/\p.y <= 4096:=by
 unfold L.validPt L.within
 rw [Bool.and_eq_true,Bool.and_eq_true,Bool.and_eq_true,decide_eq_true_eq,decide_eq_true_eq,decide_eq_true_eq,decide_eq_true_eq]
 omega
theorem vPts_of {l:L.Sq L.Pt} (hv:L.validOutline l=true):∀ i,i<l.n->L.validPt (l.g i)=true:=(outline_all hv).1
theorem lowTo_v {l:L.Sq L.Pt} (hn:0<l.n) (h:∀ i,i<l.n->L.validPt (l.g i)=true):∀ k,k <= l.n->L.validPt (L.lowTo l k)=true
 | 0,_=>h 0 hn
 | k+1,hk=>by
   have h1:=vPt_iff.1 (lowTo_v hn h k (by omega))
   have h2:=vPt_iff.1 (h k (by omega))
   rw [vPt_iff]
   simp only [L.lowTo]
   omega
theorem highTo_v {l:L.Sq L.Pt} (hn:0<l.n) (h:∀ i,i<l.n->L.validPt (l.g i)=true):∀ k,k <= l.n->L.validPt (L.highTo l k)=true
 | 0,_=>h 0 hn
 | k+1,hk=>by
   have h1:=vPt_iff.1 (highTo_v hn h k (by omega))
   have h2:=vPt_iff.1 (h k (by omega))
   rw [vPt_iff]
   simp only [L.highTo]
   omega
theorem lowTo_le {l:L.Sq L.Pt}:∀ k i,i<k->(L.lowTo l k).x <= (l.g i).x/\(L.lowTo l k).y <= (l.g i).y
 | 0,_,h=>absurd h (Nat.not_lt_zero _)
 | k+1,i,h=>by
   rw [L.lowTo]
   by_cases e:i=k
   ·subst e;exact ⟨by show min _ _ <= _;omega,by show min _ _ <= _;omega⟩
   ·have:=lowTo_le (l:=l) k i (by omega)
    exact ⟨by show min _ _ <= _;omega,by show min _ _ <= _;omega⟩
theorem highTo_ge {l:L.Sq L.Pt}:∀ k i,i<k->(l.g i).x <= (L.highTo l k).x/\(l.g i).y <= (L.highTo l k).y
 | 0,_,h=>absurd h (Nat.not_lt_zero _)
 | k+1,i,h=>by
   rw [L.highTo]
   by_cases e:i=k
   ·subst e;exact ⟨by show _ <= max _ _;omega,by show _ <= max _ _;omega⟩
   ·have:=highTo_ge (l:=l) k i (by omega)
    exact ⟨by show _ <= max _ _;omega,by show _ <= max _ _;omega⟩
theorem box_bd (l:L.Sq L.Pt):(0 <= (L.boxL l).x/\(L.boxL l).x <= 4096/\0 <= (L.boxL l).y/\(L.boxL l).y <= 4096)/\(0 <= (L.boxH l).x/\(L.boxH l).x <= 4096/\0 <= (L.boxH l).y/\(L.boxH l).y <= 4096):=by
 unfold L.boxL L.boxH
 cases hv:L.validOutline l with
 | false =>
   rw [cond_false]
   have h0:(0:Int) <= 0/\(0:Int) <= 4096/\(0:Int) <= 0/\(0:Int) <= 4096:=by decide
   exact ⟨h0,h0⟩
 | true =>
   rw [cond_true]
   obtain ⟨n3,_,_,_⟩:=validOutline_of hv
   exact ⟨vPt_iff.1 (lowTo_v (by omega) (vPts_of hv) _ (Nat.le_refl _)),vPt_iff.1 (highTo_v (by omega) (vPts_of hv) _ (Nat.le_refl _))⟩
theorem boxIn (l:L.Sq L.Pt):InK .i64 ((L.boxH l).x - (L.boxL l).x)/\InK .i64 ((L.boxH l).y - (L.boxL l).y):=by
 have:=box_bd l
 exact ⟨jK,jK⟩
def L.sizeA (s:L.Size):SV:=.agg [.int .i64 s.w,.int .i64 s.h]
theorem box_1 {l:L.Sq L.Pt} {t:Int} (h:decide (t=1)=true):L.sizeA ⟨(L.boxH l).y - (L.boxL l).y,(L.boxH l).x - (L.boxL l).x⟩=L.sizeA (L.box l t):=by
 unfold L.box
 rw [h];rfl
theorem box_0 {l:L.Sq L.Pt} {t:Int} (h:decide (t=1)=false):L.sizeA ⟨(L.boxH l).x - (L.boxL l).x,(L.boxH l).y - (L.boxL l).y⟩=L.sizeA (L.box l t):=by
 unfold L.box
 rw [h];rfl
def L.trn (l:L.Sq L.Pt) (t:Int) (at_:L.Pt) (i:Nat):L.Pt:=bif decide (t=1) then ⟨at_.x+((L.boxH l).y - (L.boxL l).y - ((l.g i).y - (L.boxL l).y)),at_.y+((l.g i).x - (L.boxL l).x)⟩ else ⟨at_.x+((l.g i).x - (L.boxL l).x),at_.y+((l.g i).y - (L.boxL l).y)⟩
def L.trnN (l:L.Sq L.Pt) (t:Int) (at_:L.Pt) (k:Nat) (j:Nat):L.Pt:=bif decide (j<k) then L.trn l t at_ j else ⟨0,0⟩
def p_Box_p (l:(L.Sq L.Pt)):Prop:=l.n <= 1000000
def p_Box_r (l:(L.Sq L.Pt)):SV:=.tup [(.agg [.int .i64 ((L.boxL l).x),.int .i64 ((L.boxL l).y)]),(.agg [.int .i64 ((L.boxH l).x),.int .i64 ((L.boxH l).y)]),.int .i64 (L.oE l)]
def p_Box_s:List EV->Option (Prop × SV)
 | [.p (.sl 2 l_n l_g)]=>some ((∀ i,i<l_n->l_g i = [.int .i64 ((ofPt (l_g i)).x),.int .i64 ((ofPt (l_g i)).y)])/\p_Box_p (⟨l_n,fun i=>ofPt (l_g i)⟩:(L.Sq L.Pt)),p_Box_r (⟨l_n,fun i=>ofPt (l_g i)⟩:(L.Sq L.Pt)))
 | _=>none
abbrev p_Box_S:SE.Spec:=(specO p_Box_s)
def p_Box_C:Cfg:={ cC with muts:=[2,3,6],specs:=lookS [(91,p_ValidOutline_S)],anys:=[2,10] }
theorem p_Box_vc (l:(L.Sq L.Pt)) (hp:p_Box_p l):vc Tryz.prog ({ p_Box_C with loops:=lookL [(5,{ T:=Nat,keep:=[0,2,3,18,19],keepO:=[],chg:=fun i=>[(20,.p (.int .i64 (i:Int)))],own:=fun i=>[(2,.blk 48 [.p (.int .i64 (L.lowTo l i).x),.p (.int .i64 (L.lowTo l i).y)]),(3,.blk 48 [.p (.int .i64 (L.highTo l i).x),.p (.int .i64 (L.highTo l i).y)])],inv:=fun i=>i <= l.n,mu:=fun i=>l.n - i })],rfs:=lookR [] }) (bodyOf Tryz.f126) (st0 Tryz.f126 [.p (.sl 2 l.n (fun i=>[.int .i64 ((l.g i).x),.int .i64 ((l.g i).y)]))]) (retFn Tryz.prog Tryz.f126 (p_Box_r l)) :=
 @Eq.mpr _ (let I:=SV.int .i64;let T:=Int.toNat;let A15:=(1:Int);let A8:=(!L.validOutline (L.Sq.mk l.n fun (i:Nat)=>l.g i));let A7:=(↑l.n:Int);let A4:=[I (L.boxH l).x,I (L.boxH l).y];let A3:=[I (L.boxL l).x,I (L.boxL l).y];let A2:=(l.n=l.n /\ ∀ (i:Nat),let A13:=[I (l.g i).x,I (l.g i).y];i<l.n->A13=A13);let A1:=(0:Int);let A11:=(l.g (T A1));let A10:=[I A1,I A1];((∀ (i:Nat),let A14:=[I (l.g i).x,I (l.g i).y];i<l.n->A14=A14)/\l.n <= (1000000:Nat))/\(A8=true->(SV.agg A10=SV.agg A3/\SV.agg A10=SV.agg A4/\A15=L.oE l)/\SV.agg A10=SV.agg A3/\SV.agg A10=SV.agg A4/\A15=L.oE l)/\(A8=false->(A1 <= A1/\A1<A7)/\(A1 <= A1/\A1<A7)/\(∃ (g:Nat),A1=(↑g:Int)/\A11.x=(L.lowTo l g).x/\A11.y=(L.lowTo l g).y/\A11.x=(L.highTo l g).x/\A11.y=(L.highTo l g).y/\g <= l.n) /\ ∀ (g:Nat),let A9:=(L.lowTo l g);let A6:=(L.highTo l g);let A5:=(↑g:Int);let A12:=(l.g (T A5));g <= l.n->(decide (A5<A7)=true->(A1 <= A5/\A5<A7)/\InK .i64 (A5+A15) /\ ∃ (g':Nat),A5+A15=(↑g':Int)/\A7=A7/\A2/\nat_lit 0=nat_lit 0/\nat_lit 0=nat_lit 0/\A2/\Min.min A9.x A12.x=(L.lowTo l g').x/\Min.min A9.y A12.y=(L.lowTo l g').y/\Max.max A6.x A12.x=(L.highTo l g').x/\Max.max A6.y A12.y=(L.highTo l g').y/\g' <= l.n/\l.n - g'<l.n - g)/\(decide (A5<A7)=false->(SV.agg [I A9.x,I A9.y]=SV.agg A3/\SV.agg [I A6.x,I A6.y]=SV.agg A4/\A1=L.oE l)/\SV.agg [I A9.x,I A9.y]=SV.agg A3/\SV.agg [I A6.x,I A6.y]=SV.agg A4/\A1=L.oE l))) (by kernel_rfl) (by
 conv=>zeta
 have hn:l.n <= 1000000:=hp
 refine ⟨⟨fun _ _=>rfl,hn⟩,fun h=>?_,fun h=>?_⟩
 ·have h:L.validOutline l=false:=notT h
  have eL:L.boxL l=⟨0,0⟩:=by unfold L.boxL;rw [h];rfl
  have eH:L.boxH l=⟨0,0⟩:=by unfold L.boxH;rw [h];rfl
  have e3:L.oE l=1:=by unfold L.oE;rw [h];rfl
  rw [eL,eH,e3]
  repeat' first
   | exact rfl
   | apply And.intro
 have hv:L.validOutline l=true:=notF h
 obtain ⟨n3,n24,hsm,hbd⟩:=validOutline_of hv
 have eL:L.boxL l=L.lowTo l l.n:=by unfold L.boxL;rw [hv];rfl
 have eH:L.boxH l=L.highTo l l.n:=by unfold L.boxH;rw [hv];rfl
 have e3:L.oE l=0:=by unfold L.oE;rw [hv];rfl
 refine ⟨⟨Int.le_refl _,by omega⟩,⟨Int.le_refl _,by omega⟩,⟨(0:Nat),rfl,rfl,rfl,rfl,rfl,Nat.zero_le _⟩,fun g hg=>⟨fun hlt=>?_,fun hge=>?_⟩⟩
 ·have hlt:(g:Int)<(l.n:Int):=of_decide_eq_true hlt
  exact ⟨⟨by omega,hlt⟩,jK,g+1,by omega,rfl,⟨rfl,fun _ _=>rfl⟩,rfl,rfl,⟨rfl,fun _ _=>rfl⟩,rfl,rfl,rfl,rfl,by omega,by omega⟩
 ·have hge:¬ (g:Int)<(l.n:Int):=of_decide_eq_false hge
  obtain rfl:g=l.n:=by omega
  rw [eL,eH,e3]
  repeat' first
   | exact rfl
   | apply And.intro)
theorem p_Box_ok:SpecOk Tryz.prog 126 p_Box_S:=fnX Tryz.func126 (c:=bodyOf Tryz.f126) (by kernel_rfl) mixed (fun args p r hs hp=>by
 unfold p_Box_s at hs
 split at hs
 ·cases hs;exact ⟨_,_,p_Box_vc _ hp.2,(.p (.sl hp.1) .nil),⟨show SpecsL Tryz.prog _ from (SpecsL.cons p_ValidOutline_ok p_ValidOutline_en SpecsL.nil),rfl,⟨show ItersL Tryz.prog _ from ItersL.nil,(TrsOk.none (fun _=>rfl))⟩⟩⟩
 ·cases hs)
theorem p_Box_en:Enters Tryz.prog 126:=fun args w=>by kernel_rfl
def r1_corners_p (l:(L.Sq L.Pt)):Prop:=1 <= l.n/\l.n <= 1000000
def r1_corners_r (l:(L.Sq L.Pt)):SV:=.tup [(.agg [.int .i64 ((L.lowTo l l.n).x),.int .i64 ((L.lowTo l l.n).y)]),(.agg [.int .i64 ((L.highTo l l.n).x),.int .i64 ((L.highTo l l.n).y)])]
def r1_corners_s:List EV->Option (Prop × SV)
 | [.p (.sl 2 l_n l_g)]=>some ((∀ i,i<l_n->l_g i = [.int .i64 ((ofPt (l_g i)).x),.int .i64 ((ofPt (l_g i)).y)])/\r1_corners_p (⟨l_n,fun i=>ofPt (l_g i)⟩:(L.Sq L.Pt)),r1_corners_r (⟨l_n,fun i=>ofPt (l_g i)⟩:(L.Sq L.Pt)))
 | _=>none
abbrev r1_corners_S:SE.Spec:=(specO r1_corners_s)
def r1_corners_C:Cfg:={ cC with muts:=[2,3,4,5] }
theorem r1_corners_vc (l:(L.Sq L.Pt)) (hp:r1_corners_p l):vc Tryz.prog ({ r1_corners_C with loops:=lookL [(4,{ T:=Nat,keep:=[0,2,3,4,5],keepO:=[2,3],chg:=fun i=>[(6,.p (.int .i64 (i:Int)))],own:=fun i=>[(4,.blk 48 [.p (.int .i64 (L.lowTo l i).x),.p (.int .i64 (L.lowTo l i).y)]),(5,.blk 48 [.p (.int .i64 (L.highTo l i).x),.p (.int .i64 (L.highTo l i).y)])],inv:=fun i=>i <= l.n,mu:=fun i=>l.n - i })],rfs:=lookR [] }) (bodyOf Tryz.f166) (st0 Tryz.f166 [.p (.sl 2 l.n (fun i=>[.int .i64 ((l.g i).x),.int .i64 ((l.g i).y)]))]) (retFn Tryz.prog Tryz.f166 (r1_corners_r l)) :=
 @Eq.mpr _ (let I:=SV.int .i64;let T:=Int.toNat;let A4:=(↑l.n:Int);let A2:=(0:Int);let A7:=(l.g (T A2));(A2 <= A2/\A2<A4)/\(A2 <= A2/\A2<A4)/\(∃ (g:Nat),A2=(↑g:Int)/\A7.x=(L.lowTo l g).x/\A7.y=(L.lowTo l g).y/\A7.x=(L.highTo l g).x/\A7.y=(L.highTo l g).y/\g <= l.n) /\ ∀ (g:Nat),let A6:=(L.lowTo l g);let A5:=(L.highTo l g);let A3:=(↑g:Int);let A8:=(l.g (T A3));let A1:=(A2 <= A3/\A3<A4);g <= l.n->(decide (A3<A4)=true->A1/\A1/\A1/\A1/\InK .i64 (A3+(1:Int)) /\ ∃ (g':Nat),A3+(1:Int)=(↑g':Int)/\nat_lit 0=nat_lit 0/\nat_lit 0=nat_lit 0/\nat_lit 0=nat_lit 0/\nat_lit 0=nat_lit 0/\(l.n=l.n /\ ∀ (i:Nat),let A9:=[I (l.g i).x,I (l.g i).y];i<l.n->A9=A9)/\Min.min A6.x A8.x=(L.lowTo l g').x/\Min.min A6.y A8.y=(L.lowTo l g').y/\Max.max A5.x A8.x=(L.highTo l g').x/\Max.max A5.y A8.y=(L.highTo l g').y/\A2=A2/\A2=A2/\A2=A2/\A2=A2/\g' <= l.n/\l.n - g'<l.n - g)/\(decide (A3<A4)=false->SV.agg [I A6.x,I A6.y]=SV.agg [I (L.lowTo l l.n).x,I (L.lowTo l l.n).y]/\SV.agg [I A5.x,I A5.y]=SV.agg [I (L.highTo l l.n).x,I (L.highTo l l.n).y])) (by kernel_rfl) (by
 conv=>zeta
 obtain ⟨h1,hn⟩:=hp
 refine ⟨⟨Int.le_refl _,by omega⟩,⟨Int.le_refl _,by omega⟩,⟨(0:Nat),rfl,rfl,rfl,rfl,rfl,Nat.zero_le _⟩,fun g hg=>⟨fun hlt=>?_,fun hge=>?_⟩⟩
 ·have hlt:(g:Int)<(l.n:Int):=of_decide_eq_true hlt
  exact ⟨⟨by omega,hlt⟩,⟨by omega,hlt⟩,⟨by omega,hlt⟩,⟨by omega,hlt⟩,jK,g+1,by omega,rfl,rfl,rfl,rfl,⟨rfl,fun _ _=>rfl⟩,rfl,rfl,rfl,rfl,rfl,rfl,rfl,rfl,by omega,by omega⟩
 ·have hge:¬ (g:Int)<(l.n:Int):=of_decide_eq_false hge
  obtain rfl:g=l.n:=by omega
  exact ⟨rfl,rfl⟩)
theorem r1_corners_ok:SpecOk Tryz.prog 166 r1_corners_S:=fnX Tryz.func166 (c:=bodyOf Tryz.f166) (by kernel_rfl) mixed (fun args p r hs hp=>by
 unfold r1_corners_s at hs
 split at hs
 ·cases hs;exact ⟨_,_,r1_corners_vc _ hp.2,(.p (.sl hp.1) .nil),⟨show SpecsL Tryz.prog _ from SpecsL.nil,rfl,⟨show ItersL Tryz.prog _ from ItersL.nil,(TrsOk.none (fun _=>rfl))⟩⟩⟩
 ·cases hs)
theorem r1_corners_en:Enters Tryz.prog 166:=fun args w=>by kernel_rfl
def r1_Box_p (l:(L.Sq L.Pt)):Prop:=l.n <= 1000000
def r1_Box_r (l:(L.Sq L.Pt)):SV:=.tup [(.agg [.int .i64 ((L.boxL l).x),.int .i64 ((L.boxL l).y)]),(.agg [.int .i64 ((L.boxH l).x),.int .i64 ((L.boxH l).y)]),.int .i64 (L.oE l)]
def r1_Box_s:List EV->Option (Prop × SV)
 | [.p (.sl 2 l_n l_g)]=>some ((∀ i,i<l_n->l_g i = [.int .i64 ((ofPt (l_g i)).x),.int .i64 ((ofPt (l_g i)).y)])/\r1_Box_p (⟨l_n,fun i=>ofPt (l_g i)⟩:(L.Sq L.Pt)),r1_Box_r (⟨l_n,fun i=>ofPt (l_g i)⟩:(L.Sq L.Pt)))
 | _=>none
abbrev r1_Box_S:SE.Spec:=(specO r1_Box_s)
def r1_Box_C:Cfg:={ cC with muts:=[2,3],specs:=lookS [(44,r1_ValidOutline_S),(166,r1_corners_S)] }
theorem r1_Box_vc (l:(L.Sq L.Pt)) (hp:r1_Box_p l):vc Tryz.prog (r1_Box_C) (bodyOf Tryz.f134) (st0 Tryz.f134 [.p (.sl 2 l.n (fun i=>[.int .i64 ((l.g i).x),.int .i64 ((l.g i).y)]))]) (retFn Tryz.prog Tryz.f134 (r1_Box_r l)) :=
 @Eq.mpr _ (let I:=SV.int .i64;let A5:=(0:Int);let A4:=[I (L.boxH l).x,I (L.boxH l).y];let A3:=[I (L.boxL l).x,I (L.boxL l).y];let A2:=(∀ (i:Nat),let A6:=[I (l.g i).x,I (l.g i).y];i<l.n->A6=A6);let A1:=(L.Sq.mk l.n fun (i:Nat)=>l.g i);(A2/\True)/\((!L.validOutline A1)=true->SV.agg [I A5,I A5]=SV.agg A3/\SV.agg [I A5,I A5]=SV.agg A4/\(1:Int)=L.oE l)/\((!L.validOutline A1)=false->(A2/\(1:Nat) <= l.n/\l.n <= (1000000:Nat))/\SV.agg [I (L.lowTo A1 l.n).x,I (L.lowTo A1 l.n).y]=SV.agg A3/\SV.agg [I (L.highTo A1 l.n).x,I (L.highTo A1 l.n).y]=SV.agg A4/\A5=L.oE l)) (by kernel_rfl) (by
 conv=>zeta
 have hn:l.n <= 1000000:=hp
 refine ⟨⟨fun _ _=>rfl,trivial⟩,fun h=>?_,fun h=>?_⟩
 ·have h:L.validOutline l=false:=notT h
  have eL:L.boxL l=⟨0,0⟩:=by unfold L.boxL;rw [h];rfl
  have eH:L.boxH l=⟨0,0⟩:=by unfold L.boxH;rw [h];rfl
  have e3:L.oE l=1:=by unfold L.oE;rw [h];rfl
  rw [eL,eH,e3]
  repeat' first
   | exact rfl
   | apply And.intro
 have hv:L.validOutline l=true:=notF h
 obtain ⟨n3,n24,hsm,hbd⟩:=validOutline_of hv
 have eL:L.boxL l=L.lowTo l l.n:=by unfold L.boxL;rw [hv];rfl
 have eH:L.boxH l=L.highTo l l.n:=by unfold L.boxH;rw [hv];rfl
 have e3:L.oE l=0:=by unfold L.oE;rw [hv];rfl
 rw [eL,eH,e3]
 exact ⟨⟨fun _ _=>rfl,by omega,hn⟩,rfl,rfl,rfl⟩)
theorem r1_Box_ok:SpecOk Tryz.prog 134 r1_Box_S:=fnX Tryz.func134 (c:=bodyOf Tryz.f134) (by kernel_rfl) mixed (fun args p r hs hp=>by
 unfold r1_Box_s at hs
 split at hs
 ·cases hs;exact ⟨_,_,r1_Box_vc _ hp.2,(.p (.sl hp.1) .nil),⟨show SpecsL Tryz.prog _ from (SpecsL.cons r1_ValidOutline_ok r1_ValidOutline_en (SpecsL.cons r1_corners_ok r1_corners_en SpecsL.nil)),rfl,⟨show ItersL Tryz.prog _ from ItersL.nil,(TrsOk.none (fun _=>rfl))⟩⟩⟩
 ·cases hs)
theorem r1_Box_en:Enters Tryz.prog 134:=fun args w=>by kernel_rfl
def c_within_p (n:Int) (a:Int) (b:Int):Prop:=True
def c_within_r (n:Int) (a:Int) (b:Int):SV:=.bool (L.within n a b)
def c_within_s:List EV->Option (Prop × SV)
 | [.p (.int .i64 n),.p (.int .i64 a),.p (.int .i64 b)]=>some (c_within_p n a b,c_within_r n a b)
 | _=>none
abbrev c_within_S:SE.Spec:=(specO c_within_s)
def c_within_C:Cfg:={ muts:=[],frz:=lookN [],specs:=lookS [],loops:=lookL [],iters:=lookI [],rfs:=lookR [],nils:=lookM [] }
theorem c_within_vc (n:Int) (a:Int) (b:Int) (hp:c_within_p n a b):vc Tryz.prog (c_within_C) (bodyOf Tryz.f61) (st0 Tryz.f61 [.p (.int .i64 n),.p (.int .i64 a),.p (.int .i64 b)]) (retFn Tryz.prog Tryz.f61 (c_within_r n a b)) :=
 @Eq.mpr _ ((bif decide (a <= n) then decide (n <= b) else false)=L.within n a b) (by kernel_rfl) (by
 grind [L.within])
theorem c_within_ok:SpecOk Tryz.prog 61 c_within_S:=fnX Tryz.func61 (c:=bodyOf Tryz.f61) (by kernel_rfl) mixed (fun args p r hs hp=>by
 unfold c_within_s at hs
 split at hs
 ·cases hs;exact ⟨_,_,c_within_vc _ _ _ hp,(.same _ (.same _ (.same _ .nil))),⟨show SpecsL Tryz.prog _ from SpecsL.nil,rfl,⟨show ItersL Tryz.prog _ from ItersL.nil,(TrsOk.none (fun _=>rfl))⟩⟩⟩
 ·cases hs)
theorem c_within_en:Enters Tryz.prog 61:=fun args w=>by kernel_rfl
def r5_within_p (n:Int) (a:Int) (b:Int):Prop:=True
def r5_within_r (n:Int) (a:Int) (b:Int):SV:=.bool (L.within n a b)
def r5_within_s:List EV->Option (Prop × SV)
 | [.p (.int .i64 n),.p (.int .i64 a),.p (.int .i64 b)]=>some (r5_within_p n a b,r5_within_r n a b)
 | _=>none
abbrev r5_within_S:SE.Spec:=(specO r5_within_s)
def r5_within_C:Cfg:={ muts:=[],frz:=lookN [],specs:=lookS [],loops:=lookL [],iters:=lookI [],rfs:=lookR [],nils:=lookM [] }
theorem r5_within_vc (n:Int) (a:Int) (b:Int) (hp:r5_within_p n a b):vc Tryz.prog (r5_within_C) (bodyOf Tryz.f67) (st0 Tryz.f67 [.p (.int .i64 n),.p (.int .i64 a),.p (.int .i64 b)]) (retFn Tryz.prog Tryz.f67 (r5_within_r n a b)) :=
 @Eq.mpr _ ((bif decide (a <= n) then decide (n <= b) else false)=L.within n a b) (by kernel_rfl) (by
 grind [L.within])
theorem r5_within_ok:SpecOk Tryz.prog 67 r5_within_S:=fnX Tryz.func67 (c:=bodyOf Tryz.f67) (by kernel_rfl) mixed (fun args p r hs hp=>by
 unfold r5_within_s at hs
 split at hs
 ·cases hs;exact ⟨_,_,r5_within_vc _ _ _ hp,(.same _ (.same _ (.same _ .nil))),⟨show SpecsL Tryz.prog _ from SpecsL.nil,rfl,⟨show ItersL Tryz.prog _ from ItersL.nil,(TrsOk.none (fun _=>rfl))⟩⟩⟩
 ·cases hs)
theorem r5_within_en:Enters Tryz.prog 67:=fun args w=>by kernel_rfl
def c_boxOf_p (l:(L.Sq L.Pt)) (t:Int):Prop:=l.n <= 1000000
def c_boxOf_r (l:(L.Sq L.Pt)) (t:Int):SV:=(.agg [.int .i64 ((L.box l t).w),.int .i64 ((L.box l t).h)])
def c_boxOf_s:List EV->Option (Prop × SV)
 | [.p (.sl 2 l_n l_g),.p (.int .i64 t)]=>some ((∀ i,i<l_n->l_g i = [.int .i64 ((ofPt (l_g i)).x),.int .i64 ((ofPt (l_g i)).y)])/\c_boxOf_p (⟨l_n,fun i=>ofPt (l_g i)⟩:(L.Sq L.Pt)) t,c_boxOf_r (⟨l_n,fun i=>ofPt (l_g i)⟩:(L.Sq L.Pt)) t)
 | _=>none
abbrev c_boxOf_S:SE.Spec:=(specO c_boxOf_s)
def c_boxOf_C:Cfg:={ cC with muts:=[4,5,6,8],specs:=lookS [(126,p_Box_S)] }
theorem c_boxOf_vc (l:(L.Sq L.Pt)) (t:Int) (hp:c_boxOf_p l t):vc Tryz.prog (c_boxOf_C) (bodyOf Tryz.f77) (st0 Tryz.f77 [.p (.sl 2 l.n (fun i=>[.int .i64 ((l.g i).x),.int .i64 ((l.g i).y)])),.p (.int .i64 t)]) (retFn Tryz.prog Tryz.f77 (c_boxOf_r l t)) :=
 @Eq.mpr _ (let I:=SV.int .i64;let A4:=[I (L.box l t).w,I (L.box l t).h];let A1:=(L.Sq.mk l.n fun (i:Nat)=>l.g i);let A3:=((L.boxH A1).y - (L.boxL A1).y);let A2:=((L.boxH A1).x - (L.boxL A1).x);((∀ (i:Nat),let A5:=[I (l.g i).x,I (l.g i).y];i<l.n->A5=A5)/\l.n <= (1000000:Nat))/\InK .i64 A2/\InK .i64 A3/\(decide (t=(1:Int))=true->SV.agg [I A3,I A2]=SV.agg A4)/\(decide (t=(1:Int))=false->SV.agg [I A2,I A3]=SV.agg A4)) (by kernel_rfl) (by
 conv=>zeta
 obtain ⟨b1,b2⟩:=boxIn l
 exact ⟨⟨fun _ _=>rfl,hp⟩,b1,b2,fun h=>box_1 h,fun h=>box_0 h⟩)
theorem c_boxOf_ok:SpecOk Tryz.prog 77 c_boxOf_S:=fnX Tryz.func77 (c:=bodyOf Tryz.f77) (by kernel_rfl) mixed (fun args p r hs hp=>by
 unfold c_boxOf_s at hs
 split at hs
 ·cases hs;exact ⟨_,_,c_boxOf_vc _ _ hp.2,(.p (.sl hp.1) (.same _ .nil)),⟨show SpecsL Tryz.prog _ from (SpecsL.cons p_Box_ok p_Box_en SpecsL.nil),rfl,⟨show ItersL Tryz.prog _ from ItersL.nil,(TrsOk.none (fun _=>rfl))⟩⟩⟩
 ·cases hs)
theorem c_boxOf_en:Enters Tryz.prog 77:=fun args w=>by kernel_rfl
def r5_box_p (w:L.Want) (t:Int):Prop:=w.ol.n <= 1000000
def r5_box_r (w:L.Want) (t:Int):SV:=(.agg [.int .i64 ((L.box w.ol t).w),.int .i64 ((L.box w.ol t).h)])
def r5_box_s:List EV->Option (Prop × SV)
 | [.p (.agg [.int .i64 w_id,.int .i64 w_colour,.int .i64 w_grain,.sl 2 w_ol_n w_ol_g]),.p (.int .i64 t)]=>some ((∀ i,i<w_ol_n->w_ol_g i = [.int .i64 ((ofPt (w_ol_g i)).x),.int .i64 ((ofPt (w_ol_g i)).y)])/\r5_box_p (⟨w_id,w_colour,w_grain,(⟨w_ol_n,fun i=>ofPt (w_ol_g i)⟩:(L.Sq L.Pt))⟩:L.Want) t,r5_box_r (⟨w_id,w_colour,w_grain,(⟨w_ol_n,fun i=>ofPt (w_ol_g i)⟩:(L.Sq L.Pt))⟩:L.Want) t)
 | _=>none
abbrev r5_box_S:SE.Spec:=(specO r5_box_s)
def r5_box_C:Cfg:={ cC with muts:=[4,5,6],specs:=lookS [(134,r1_Box_S)] }
theorem r5_box_vc (w:L.Want) (t:Int) (hp:r5_box_p w t):vc Tryz.prog (r5_box_C) (bodyOf Tryz.f90) (st0 Tryz.f90 [.p (.agg [.int .i64 w.id,.int .i64 w.colour,.int .i64 w.grain,.sl 2 w.ol.n (fun i=>[.int .i64 ((w.ol.g i).x),.int .i64 ((w.ol.g i).y)])]),.p (.int .i64 t)]) (retFn Tryz.prog Tryz.f90 (r5_box_r w t)) :=
 @Eq.mpr _ (let I:=SV.int .i64;let A4:=[I (L.box w.ol t).w,I (L.box w.ol t).h];let A1:=(L.Sq.mk w.ol.n fun (i:Nat)=>w.ol.g i);let A3:=((L.boxH A1).x - (L.boxL A1).x);let A2:=((L.boxH A1).y - (L.boxL A1).y);((∀ (i:Nat),let A5:=[I (w.ol.g i).x,I (w.ol.g i).y];i<w.ol.n->A5=A5)/\w.ol.n <= (1000000:Nat))/\(decide (t=(1:Int))=true->InK .i64 A2/\InK .i64 A3/\SV.agg [I A2,I A3]=SV.agg A4)/\(decide (t=(1:Int))=false->InK .i64 A3/\InK .i64 A2/\SV.agg [I A3,I A2]=SV.agg A4)) (by kernel_rfl) (by
 conv=>zeta
 obtain ⟨b1,b2⟩:=boxIn w.ol
 exact ⟨⟨fun _ _=>rfl,hp⟩,fun h=>⟨b2,b1,box_1 (l:=w.ol) h⟩,fun h=>⟨b1,b2,box_0 (l:=w.ol) h⟩⟩)
theorem r5_box_ok:SpecOk Tryz.prog 90 r5_box_S:=fnX Tryz.func90 (c:=bodyOf Tryz.f90) (by kernel_rfl) mixed (fun args p r hs hp=>by
 unfold r5_box_s at hs
 split at hs
 ·cases hs; exact ⟨_, _, r5_box_vc _ _ hp.2, (.p (.agg rfl (fun i hi => by
  rcases i with _ | i
  ·exact (Ext.refl _:Ext _ _)
  rcases i with _ | i
  ·exact (Ext.refl _:Ext _ _)
  rcases i with _ | i
  ·exact (Ext.refl _:Ext _ _)
  rcases i with _ | i
  ·exact (Ext.sl hp.1:Ext _ _)
  exact absurd hi (by simp;try omega))) (.same _ .nil)),⟨show SpecsL Tryz.prog _ from (SpecsL.cons r1_Box_ok r1_Box_en SpecsL.nil),rfl,⟨show ItersL Tryz.prog _ from ItersL.nil,(TrsOk.none (fun _=>rfl))⟩⟩⟩
 ·cases hs)
theorem r5_box_en:Enters Tryz.prog 90:=fun args w=>by kernel_rfl
def c_ValidSheet_p (s:L.Sheet):Prop:=True
def c_ValidSheet_r (s:L.Sheet):SV:=.bool (L.vSheet s)
def c_ValidSheet_s:List EV->Option (Prop × SV)
 | [.p (.agg [.int .i64 s_id,.int .i64 s_colour,.int .i64 s_w,.int .i64 s_h,.int .i64 s_grain])]=>some (c_ValidSheet_p (⟨s_id,s_colour,s_w,s_h,s_grain⟩:L.Sheet),c_ValidSheet_r (⟨s_id,s_colour,s_w,s_h,s_grain⟩:L.Sheet))
 | _=>none
abbrev c_ValidSheet_S:SE.Spec:=(specO c_ValidSheet_s)
def c_ValidSheet_C:Cfg:={ cC with specs:=lookS [(61,c_within_S)] }
theorem c_ValidSheet_vc (s:L.Sheet) (hp:c_ValidSheet_p s):vc Tryz.prog (c_ValidSheet_C) (bodyOf Tryz.f41) (st0 Tryz.f41 [.p (.agg [.int .i64 s.id,.int .i64 s.colour,.int .i64 s.w,.int .i64 s.h,.int .i64 s.grain])]) (retFn Tryz.prog Tryz.f41 (c_ValidSheet_r s)) :=
 @Eq.mpr _ (let A4:=(16:Int);let A3:=(4096:Int);let A2:=(65535:Int);let A1:=(1:Int);True/\(L.within s.id A1 A2=true->True)/\((bif L.within s.id A1 A2 then L.within s.colour A1 A4 else false)=true->True)/\((bif bif L.within s.id A1 A2 then L.within s.colour A1 A4 else false then L.within s.w A1 A3 else false)=true->True)/\((bif bif bif L.within s.id A1 A2 then L.within s.colour A1 A4 else false then L.within s.w A1 A3 else false then L.within s.h A1 A3 else false)=true->True)/\(bif bif bif bif L.within s.id A1 A2 then L.within s.colour A1 A4 else false then L.within s.w A1 A3 else false then L.within s.h A1 A3 else false then L.within s.grain (0:Int) (2:Int) else false)=L.vSheet s) (by kernel_rfl) (by
 conv=>zeta
 exact ⟨trivial,fun _=>trivial,fun _=>trivial,fun _=>trivial,fun _=>trivial,rfl⟩)
theorem c_ValidSheet_ok:SpecOk Tryz.prog 41 c_ValidSheet_S:=fnX Tryz.func41 (c:=bodyOf Tryz.f41) (by kernel_rfl) mixed (fun args p r hs hp=>by
 unfold c_ValidSheet_s at hs
 split at hs
 ·cases hs;exact ⟨_,_,c_ValidSheet_vc _ hp,(.same _ .nil),⟨show SpecsL Tryz.prog _ from (SpecsL.cons c_within_ok c_within_en SpecsL.nil),rfl,⟨show ItersL Tryz.prog _ from ItersL.nil,(TrsOk.none (fun _=>rfl))⟩⟩⟩
 ·cases hs)
theorem c_ValidSheet_en:Enters Tryz.prog 41:=fun args w=>by kernel_rfl
def c_ValidWant_p (w:L.Want):Prop:=w.ol.n <= 1000000
def c_ValidWant_r (w:L.Want):SV:=.bool (L.vWant w)
def c_ValidWant_s:List EV->Option (Prop × SV)
 | [.p (.agg [.int .i64 w_id,.int .i64 w_colour,.int .i64 w_grain,.sl 2 w_ol_n w_ol_g])]=>some ((∀ i,i<w_ol_n->w_ol_g i = [.int .i64 ((ofPt (w_ol_g i)).x),.int .i64 ((ofPt (w_ol_g i)).y)])/\c_ValidWant_p (⟨w_id,w_colour,w_grain,(⟨w_ol_n,fun i=>ofPt (w_ol_g i)⟩:(L.Sq L.Pt))⟩:L.Want),c_ValidWant_r (⟨w_id,w_colour,w_grain,(⟨w_ol_n,fun i=>ofPt (w_ol_g i)⟩:(L.Sq L.Pt))⟩:L.Want))
 | _=>none
abbrev c_ValidWant_S:SE.Spec:=(specO c_ValidWant_s)
def c_ValidWant_C:Cfg:={ cC with specs:=lookS [(61,c_within_S),(91,p_ValidOutline_S)] }
theorem c_ValidWant_vc (w:L.Want) (hp:c_ValidWant_p w):vc Tryz.prog (c_ValidWant_C) (bodyOf Tryz.f40) (st0 Tryz.f40 [.p (.agg [.int .i64 w.id,.int .i64 w.colour,.int .i64 w.grain,.sl 2 w.ol.n (fun i=>[.int .i64 ((w.ol.g i).x),.int .i64 ((w.ol.g i).y)])])]) (retFn Tryz.prog Tryz.f40 (c_ValidWant_r w)) :=
 @Eq.mpr _ (let A3:=(65535:Int);let A2:=(1:Int);True/\(L.within w.id A2 A3=true->True)/\((bif L.within w.id A2 A3 then L.within w.colour A2 (16:Int) else false)=true->True)/\((bif bif L.within w.id A2 A3 then L.within w.colour A2 (16:Int) else false then L.within w.grain (0:Int) (2:Int) else false)=true->(∀ (i:Nat),let A1:=[SV.int .i64 (w.ol.g i).x,SV.int .i64 (w.ol.g i).y];i<w.ol.n->A1=A1)/\w.ol.n <= (1000000:Nat))/\(bif bif bif L.within w.id A2 A3 then L.within w.colour A2 (16:Int) else false then L.within w.grain (0:Int) (2:Int) else false then L.validOutline (L.Sq.mk w.ol.n fun (i:Nat)=>w.ol.g i) else false)=L.vWant w) (by kernel_rfl) (by
 conv=>zeta
 exact ⟨trivial,fun _=>trivial,fun _=>trivial,fun _=>⟨fun _ _=>rfl,hp⟩,rfl⟩)
theorem c_ValidWant_ok:SpecOk Tryz.prog 40 c_ValidWant_S:=fnX Tryz.func40 (c:=bodyOf Tryz.f40) (by kernel_rfl) mixed (fun args p r hs hp=>by
 unfold c_ValidWant_s at hs
 split at hs
 ·cases hs; exact ⟨_, _, c_ValidWant_vc _ hp.2, (.p (.agg rfl (fun i hi => by
  rcases i with _ | i
  ·exact (Ext.refl _:Ext _ _)
  rcases i with _ | i
  ·exact (Ext.refl _:Ext _ _)
  rcases i with _ | i
  ·exact (Ext.refl _:Ext _ _)
  rcases i with _ | i
  ·exact (Ext.sl hp.1:Ext _ _)
  exact absurd hi (by simp;try omega))) .nil),⟨show SpecsL Tryz.prog _ from (SpecsL.cons c_within_ok c_within_en (SpecsL.cons p_ValidOutline_ok p_ValidOutline_en SpecsL.nil)),rfl,⟨show ItersL Tryz.prog _ from ItersL.nil,(TrsOk.none (fun _=>rfl))⟩⟩⟩
 ·cases hs)
theorem c_ValidWant_en:Enters Tryz.prog 40:=fun args w=>by kernel_rfl
def c_allowed_p (a:Int) (b:Int) (t:Int):Prop:=True
def c_allowed_r (a:Int) (b:Int) (t:Int):SV:=.bool (L.alw a b t)
def c_allowed_s:List EV->Option (Prop × SV)
 | [.p (.int .i64 a),.p (.int .i64 b),.p (.int .i64 t)]=>some (c_allowed_p a b t,c_allowed_r a b t)
 | _=>none
abbrev c_allowed_S:SE.Spec:=(specO c_allowed_s)
def c_allowed_C:Cfg:={ muts:=[],frz:=lookN [],specs:=lookS [],loops:=lookL [],iters:=lookI [],rfs:=lookR [],nils:=lookM [] }
theorem c_allowed_vc (a:Int) (b:Int) (t:Int) (hp:c_allowed_p a b t):vc Tryz.prog (c_allowed_C) (bodyOf Tryz.f76) (st0 Tryz.f76 [.p (.int .i64 a),.p (.int .i64 b),.p (.int .i64 t)]) (retFn Tryz.prog Tryz.f76 (c_allowed_r a b t)) :=
 @Eq.mpr _ ((bif bif decide (a=(0:Int)) then true else decide (b=(0:Int)) then true else decide (t=(0:Int)) == decide (a=b))=L.alw a b t) (by kernel_rfl) (by
 rfl)
theorem c_allowed_ok:SpecOk Tryz.prog 76 c_allowed_S:=fnX Tryz.func76 (c:=bodyOf Tryz.f76) (by kernel_rfl) mixed (fun args p r hs hp=>by
 unfold c_allowed_s at hs
 split at hs
 ·cases hs;exact ⟨_,_,c_allowed_vc _ _ _ hp,(.same _ (.same _ (.same _ .nil))),⟨show SpecsL Tryz.prog _ from SpecsL.nil,rfl,⟨show ItersL Tryz.prog _ from ItersL.nil,(TrsOk.none (fun _=>rfl))⟩⟩⟩
 ·cases hs)
theorem c_allowed_en:Enters Tryz.prog 76:=fun args w=>by kernel_rfl
def c_Allowed_p (w:L.Want) (grain:Int) (t:Int):Prop:=w.ol.n <= 1000000
def c_Allowed_r (w:L.Want) (grain:Int) (t:Int):SV:=.tup [.bool (L.alwB w grain t),.int .i64 (L.alwE w grain t)]
def c_Allowed_s:List EV->Option (Prop × SV)
 | [.p (.agg [.int .i64 w_id,.int .i64 w_colour,.int .i64 w_grain,.sl 2 w_ol_n w_ol_g]),.p (.int .i64 grain),.p (.int .i64 t)]=>some ((∀ i,i<w_ol_n->w_ol_g i = [.int .i64 ((ofPt (w_ol_g i)).x),.int .i64 ((ofPt (w_ol_g i)).y)])/\c_Allowed_p (⟨w_id,w_colour,w_grain,(⟨w_ol_n,fun i=>ofPt (w_ol_g i)⟩:(L.Sq L.Pt))⟩:L.Want) grain t,c_Allowed_r (⟨w_id,w_colour,w_grain,(⟨w_ol_n,fun i=>ofPt (w_ol_g i)⟩:(L.Sq L.Pt))⟩:L.Want) grain t)
 | _=>none
abbrev c_Allowed_S:SE.Spec:=(specO c_Allowed_s)
def c_Allowed_C:Cfg:={ cC with specs:=lookS [(61,c_within_S),(40,c_ValidWant_S),(76,c_allowed_S)] }
theorem c_Allowed_vc (w:L.Want) (grain:Int) (t:Int) (hp:c_Allowed_p w grain t):vc Tryz.prog (c_Allowed_C) (bodyOf Tryz.f25) (st0 Tryz.f25 [.p (.agg [.int .i64 w.id,.int .i64 w.colour,.int .i64 w.grain,.sl 2 w.ol.n (fun i=>[.int .i64 ((w.ol.g i).x),.int .i64 ((w.ol.g i).y)])]),.p (.int .i64 grain),.p (.int .i64 t)]) (retFn Tryz.prog Tryz.f25 (c_Allowed_r w grain t)) :=
 @Eq.mpr _ (let A4:=(0:Int);let A2:=(!L.vWant (L.Want.mk w.id w.colour w.grain (L.Sq.mk w.ol.n fun (i:Nat)=>w.ol.g i)));let A1:=(bif !L.within grain A4 (2:Int) then true else !L.within t A4 (1:Int));((∀ (i:Nat),let A3:=[SV.int .i64 (w.ol.g i).x,SV.int .i64 (w.ol.g i).y];i<w.ol.n->A3=A3)/\w.ol.n <= (1000000:Nat))/\(A2=true->false=L.alwB w grain t/\(50:Int)=L.alwE w grain t)/\(A2=false->True/\((!!L.within grain A4 (2:Int))=true->True)/\(A1=true->false=L.alwB w grain t/\(1:Int)=L.alwE w grain t)/\(A1=false->True/\L.alw w.grain grain t=L.alwB w grain t/\A4=L.alwE w grain t))) (by kernel_rfl) (by
 conv=>zeta
 refine ⟨⟨fun _ _=>rfl,hp⟩,fun h=>?_,fun h=>⟨trivial,fun _=>trivial,fun h2=>?_,fun h2=>⟨trivial,?_⟩⟩⟩
 ·have h:L.vWant w=false:=notT h
  unfold L.alwB L.alwE
  rw [h];exact ⟨rfl,rfl⟩
 ·have h:L.vWant w=true:=notF h
  have h2:L.badGT grain t=true:=h2
  unfold L.alwB L.alwE
  rw [h,h2];exact ⟨rfl,rfl⟩
 ·have h:L.vWant w=true:=notF h
  have h2:L.badGT grain t=false:=h2
  unfold L.alwB L.alwE
  rw [h,h2];exact ⟨rfl,rfl⟩)
theorem c_Allowed_ok:SpecOk Tryz.prog 25 c_Allowed_S:=fnX Tryz.func25 (c:=bodyOf Tryz.f25) (by kernel_rfl) mixed (fun args p r hs hp=>by
 unfold c_Allowed_s at hs
 split at hs
 ·cases hs; exact ⟨_, _, c_Allowed_vc _ _ _ hp.2, (.p (.agg rfl (fun i hi => by
  rcases i with _ | i
  ·exact (Ext.refl _:Ext _ _)
  rcases i with _ | i
  ·exact (Ext.refl _:Ext _ _)
  rcases i with _ | i
  ·exact (Ext.refl _:Ext _ _)
  rcases i with _ | i
  ·exact (Ext.sl hp.1:Ext _ _)
  exact absurd hi (by simp;try omega))) (.same _ (.same _ .nil))),⟨show SpecsL Tryz.prog _ from (SpecsL.cons c_within_ok c_within_en (SpecsL.cons c_ValidWant_ok c_ValidWant_en (SpecsL.cons c_allowed_ok c_allowed_en SpecsL.nil))),rfl,⟨show ItersL Tryz.prog _ from ItersL.nil,(TrsOk.none (fun _=>rfl))⟩⟩⟩
 ·cases hs)
theorem c_Allowed_en:Enters Tryz.prog 25:=fun args w=>by kernel_rfl
def c_BoxOf_p (w:L.Want) (t:Int):Prop:=w.ol.n <= 1000000
def c_BoxOf_r (w:L.Want) (t:Int):SV:=.tup [(.agg [.int .i64 ((L.boxOf w t).w),.int .i64 ((L.boxOf w t).h)]),.int .i64 (L.boxE w t)]
def c_BoxOf_s:List EV->Option (Prop × SV)
 | [.p (.agg [.int .i64 w_id,.int .i64 w_colour,.int .i64 w_grain,.sl 2 w_ol_n w_ol_g]),.p (.int .i64 t)]=>some ((∀ i,i<w_ol_n->w_ol_g i = [.int .i64 ((ofPt (w_ol_g i)).x),.int .i64 ((ofPt (w_ol_g i)).y)])/\c_BoxOf_p (⟨w_id,w_colour,w_grain,(⟨w_ol_n,fun i=>ofPt (w_ol_g i)⟩:(L.Sq L.Pt))⟩:L.Want) t,c_BoxOf_r (⟨w_id,w_colour,w_grain,(⟨w_ol_n,fun i=>ofPt (w_ol_g i)⟩:(L.Sq L.Pt))⟩:L.Want) t)
 | _=>none
abbrev c_BoxOf_S:SE.Spec:=(specO c_BoxOf_s)
def c_BoxOf_C:Cfg:={ cC with muts:=[4],specs:=lookS [(61,c_within_S),(40,c_ValidWant_S),(77,c_boxOf_S)] }
theorem c_BoxOf_vc (w:L.Want) (t:Int) (hp:c_BoxOf_p w t):vc Tryz.prog (c_BoxOf_C) (bodyOf Tryz.f26) (st0 Tryz.f26 [.p (.agg [.int .i64 w.id,.int .i64 w.colour,.int .i64 w.grain,.sl 2 w.ol.n (fun i=>[.int .i64 ((w.ol.g i).x),.int .i64 ((w.ol.g i).y)])]),.p (.int .i64 t)]) (retFn Tryz.prog Tryz.f26 (c_BoxOf_r w t)) :=
 @Eq.mpr _ (let I:=SV.int .i64;let A5:=(0:Int);let A7:=(!L.within t A5 (1:Int));let A3:=[I (L.boxOf w t).w,I (L.boxOf w t).h];let A2:=(L.Sq.mk w.ol.n fun (i:Nat)=>w.ol.g i);let A4:=(!L.vWant (L.Want.mk w.id w.colour w.grain A2));let A1:=((∀ (i:Nat),let A6:=[I (w.ol.g i).x,I (w.ol.g i).y];i<w.ol.n->A6=A6)/\w.ol.n <= (1000000:Nat));A1/\(A4=true->SV.agg [I A5,I A5]=SV.agg A3/\(50:Int)=L.boxE w t)/\(A4=false->True/\(A7=true->SV.agg [I A5,I A5]=SV.agg A3/\(1:Int)=L.boxE w t)/\(A7=false->A1/\SV.agg [I (L.box A2 t).w,I (L.box A2 t).h]=SV.agg A3/\A5=L.boxE w t))) (by kernel_rfl) (by
 conv=>zeta
 refine ⟨⟨fun _ _=>rfl,hp⟩,fun h=>?_,fun h=>⟨trivial,fun h2=>?_,fun h2=>⟨⟨fun _ _=>rfl,hp⟩,?_⟩⟩⟩
 ·have e:L.boxE w t=50:=by unfold L.boxE;rw [show L.vWant w=false from notT h];rfl
  have e2:L.boxOf w t=⟨0,0⟩:=by unfold L.boxOf;rw [e];rfl
  rw [e,e2];exact ⟨rfl,rfl⟩
 ·have e:L.boxE w t=1:=by unfold L.boxE;rw [show L.vWant w=true from notF h,show L.within t 0 1=false from notT h2];rfl
  have e2:L.boxOf w t=⟨0,0⟩:=by unfold L.boxOf;rw [e];rfl
  rw [e,e2];exact ⟨rfl,rfl⟩
 ·have e:L.boxE w t=0:=by unfold L.boxE;rw [show L.vWant w=true from notF h,show L.within t 0 1=true from notF h2];rfl
  have e2:L.boxOf w t=L.box w.ol t:=by unfold L.boxOf;rw [e];rfl
  rw [e,e2];exact ⟨rfl,rfl⟩)
theorem c_BoxOf_ok:SpecOk Tryz.prog 26 c_BoxOf_S:=fnX Tryz.func26 (c:=bodyOf Tryz.f26) (by kernel_rfl) mixed (fun args p r hs hp=>by
 unfold c_BoxOf_s at hs
 split at hs
 ·cases hs; exact ⟨_, _, c_BoxOf_vc _ _ hp.2, (.p (.agg rfl (fun i hi => by
  rcases i with _ | i
  ·exact (Ext.refl _:Ext _ _)
  rcases i with _ | i
  ·exact (Ext.refl _:Ext _ _)
  rcases i with _ | i
  ·exact (Ext.refl _:Ext _ _)
  rcases i with _ | i
  ·exact (Ext.sl hp.1:Ext _ _)
  exact absurd hi (by simp;try omega))) (.same _ .nil)),⟨show SpecsL Tryz.prog _ from (SpecsL.cons c_within_ok c_within_en (SpecsL.cons c_ValidWant_ok c_ValidWant_en (SpecsL.cons c_boxOf_ok c_boxOf_en SpecsL.nil))),rfl,⟨show ItersL Tryz.prog _ from ItersL.nil,(TrsOk.none (fun _=>rfl))⟩⟩⟩
 ·cases hs)
theorem c_BoxOf_en:Enters Tryz.prog 26:=fun args w=>by kernel_rfl
def r5_ValidSheet_p (s:L.Sheet):Prop:=True
def r5_ValidSheet_r (s:L.Sheet):SV:=.bool (L.vSheet s)
def r5_ValidSheet_s:List EV->Option (Prop × SV)
 | [.p (.agg [.int .i64 s_id,.int .i64 s_colour,.int .i64 s_w,.int .i64 s_h,.int .i64 s_grain])]=>some (r5_ValidSheet_p (⟨s_id,s_colour,s_w,s_h,s_grain⟩:L.Sheet),r5_ValidSheet_r (⟨s_id,s_colour,s_w,s_h,s_grain⟩:L.Sheet))
 | _=>none
abbrev r5_ValidSheet_S:SE.Spec:=(specO r5_ValidSheet_s)
def r5_ValidSheet_C:Cfg:={ cC with specs:=lookS [(67,r5_within_S)] }
theorem r5_ValidSheet_vc (s:L.Sheet) (hp:r5_ValidSheet_p s):vc Tryz.prog (r5_ValidSheet_C) (bodyOf Tryz.f23) (st0 Tryz.f23 [.p (.agg [.int .i64 s.id,.int .i64 s.colour,.int .i64 s.w,.int .i64 s.h,.int .i64 s.grain])]) (retFn Tryz.prog Tryz.f23 (r5_ValidSheet_r s)) :=
 @Eq.mpr _ (let A4:=(16:Int);let A3:=(4096:Int);let A2:=(65535:Int);let A1:=(1:Int);True/\(L.within s.id A1 A2=true->True)/\((bif L.within s.id A1 A2 then L.within s.colour A1 A4 else false)=true->True)/\((bif bif L.within s.id A1 A2 then L.within s.colour A1 A4 else false then L.within s.w A1 A3 else false)=true->True)/\((bif bif bif L.within s.id A1 A2 then L.within s.colour A1 A4 else false then L.within s.w A1 A3 else false then L.within s.h A1 A3 else false)=true->True)/\(bif bif bif bif L.within s.id A1 A2 then L.within s.colour A1 A4 else false then L.within s.w A1 A3 else false then L.within s.h A1 A3 else false then L.within s.grain (0:Int) (2:Int) else false)=L.vSheet s) (by kernel_rfl) (by
 conv=>zeta
 exact ⟨trivial,fun _=>trivial,fun _=>trivial,fun _=>trivial,fun _=>trivial,rfl⟩)
theorem r5_ValidSheet_ok:SpecOk Tryz.prog 23 r5_ValidSheet_S:=fnX Tryz.func23 (c:=bodyOf Tryz.f23) (by kernel_rfl) mixed (fun args p r hs hp=>by
 unfold r5_ValidSheet_s at hs
 split at hs
 ·cases hs;exact ⟨_,_,r5_ValidSheet_vc _ hp,(.same _ .nil),⟨show SpecsL Tryz.prog _ from (SpecsL.cons r5_within_ok r5_within_en SpecsL.nil),rfl,⟨show ItersL Tryz.prog _ from ItersL.nil,(TrsOk.none (fun _=>rfl))⟩⟩⟩
 ·cases hs)
theorem r5_ValidSheet_en:Enters Tryz.prog 23:=fun args w=>by kernel_rfl
def r5_ValidWant_p (w:L.Want):Prop:=w.ol.n <= 1000000
def r5_ValidWant_r (w:L.Want):SV:=.bool (L.vWant w)
def r5_ValidWant_s:List EV->Option (Prop × SV)
 | [.p (.agg [.int .i64 w_id,.int .i64 w_colour,.int .i64 w_grain,.sl 2 w_ol_n w_ol_g])]=>some ((∀ i,i<w_ol_n->w_ol_g i = [.int .i64 ((ofPt (w_ol_g i)).x),.int .i64 ((ofPt (w_ol_g i)).y)])/\r5_ValidWant_p (⟨w_id,w_colour,w_grain,(⟨w_ol_n,fun i=>ofPt (w_ol_g i)⟩:(L.Sq L.Pt))⟩:L.Want),r5_ValidWant_r (⟨w_id,w_colour,w_grain,(⟨w_ol_n,fun i=>ofPt (w_ol_g i)⟩:(L.Sq L.Pt))⟩:L.Want))
 | _=>none
abbrev r5_ValidWant_S:SE.Spec:=(specO r5_ValidWant_s)
def r5_ValidWant_C:Cfg:={ cC with specs:=lookS [(67,r5_within_S),(44,r1_ValidOutline_S)] }
theorem r5_ValidWant_vc (w:L.Want) (hp:r5_ValidWant_p w):vc Tryz.prog (r5_ValidWant_C) (bodyOf Tryz.f35) (st0 Tryz.f35 [.p (.agg [.int .i64 w.id,.int .i64 w.colour,.int .i64 w.grain,.sl 2 w.ol.n (fun i=>[.int .i64 ((w.ol.g i).x),.int .i64 ((w.ol.g i).y)])])]) (retFn Tryz.prog Tryz.f35 (r5_ValidWant_r w)) :=
 @Eq.mpr _ (let A3:=(65535:Int);let A2:=(1:Int);True/\(L.within w.id A2 A3=true->True)/\((bif L.within w.id A2 A3 then L.within w.colour A2 (16:Int) else false)=true->True)/\((bif bif L.within w.id A2 A3 then L.within w.colour A2 (16:Int) else false then L.within w.grain (0:Int) (2:Int) else false)=true->(∀ (i:Nat),let A1:=[SV.int .i64 (w.ol.g i).x,SV.int .i64 (w.ol.g i).y];i<w.ol.n->A1=A1)/\True)/\(bif bif bif L.within w.id A2 A3 then L.within w.colour A2 (16:Int) else false then L.within w.grain (0:Int) (2:Int) else false then L.validOutline (L.Sq.mk w.ol.n fun (i:Nat)=>w.ol.g i) else false)=L.vWant w) (by kernel_rfl) (by
 conv=>zeta
 exact ⟨trivial,fun _=>trivial,fun _=>trivial,fun _=>⟨fun _ _=>rfl,trivial⟩,rfl⟩)
theorem r5_ValidWant_ok:SpecOk Tryz.prog 35 r5_ValidWant_S:=fnX Tryz.func35 (c:=bodyOf Tryz.f35) (by kernel_rfl) mixed (fun args p r hs hp=>by
 unfold r5_ValidWant_s at hs
 split at hs
 ·cases hs; exact ⟨_, _, r5_ValidWant_vc _ hp.2, (.p (.agg rfl (fun i hi => by
  rcases i with _ | i
  ·exact (Ext.refl _:Ext _ _)
  rcases i with _ | i
  ·exact (Ext.refl _:Ext _ _)
  rcases i with _ | i
  ·exact (Ext.refl _:Ext _ _)
  rcases i with _ | i
  ·exact (Ext.sl hp.1:Ext _ _)
  exact absurd hi (by simp;try omega))) .nil),⟨show SpecsL Tryz.prog _ from (SpecsL.cons r5_within_ok r5_within_en (SpecsL.cons r1_ValidOutline_ok r1_ValidOutline_en SpecsL.nil)),rfl,⟨show ItersL Tryz.prog _ from ItersL.nil,(TrsOk.none (fun _=>rfl))⟩⟩⟩
 ·cases hs)
theorem r5_ValidWant_en:Enters Tryz.prog 35:=fun args w=>by kernel_rfl
def r5_allowed_p (a:Int) (b:Int) (t:Int):Prop:=True
def r5_allowed_r (a:Int) (b:Int) (t:Int):SV:=.bool (L.alw a b t)
def r5_allowed_s:List EV->Option (Prop × SV)
 | [.p (.int .i64 a),.p (.int .i64 b),.p (.int .i64 t)]=>some (r5_allowed_p a b t,r5_allowed_r a b t)
 | _=>none
abbrev r5_allowed_S:SE.Spec:=(specO r5_allowed_s)
def r5_allowed_C:Cfg:={ muts:=[],frz:=lookN [],specs:=lookS [],loops:=lookL [],iters:=lookI [],rfs:=lookR [],nils:=lookM [] }
theorem r5_allowed_vc (a:Int) (b:Int) (t:Int) (hp:r5_allowed_p a b t):vc Tryz.prog (r5_allowed_C) (bodyOf Tryz.f89) (st0 Tryz.f89 [.p (.int .i64 a),.p (.int .i64 b),.p (.int .i64 t)]) (retFn Tryz.prog Tryz.f89 (r5_allowed_r a b t)) :=
 @Eq.mpr _ ((bif bif decide (a=(0:Int)) then true else decide (b=(0:Int)) then true else decide (a=b) == decide (t=(0:Int)))=L.alw a b t) (by kernel_rfl) (by
 unfold L.alw
 cases decide (a=b) <;> cases decide (t=0) <;> rfl)
theorem r5_allowed_ok:SpecOk Tryz.prog 89 r5_allowed_S:=fnX Tryz.func89 (c:=bodyOf Tryz.f89) (by kernel_rfl) mixed (fun args p r hs hp=>by
 unfold r5_allowed_s at hs
 split at hs
 ·cases hs;exact ⟨_,_,r5_allowed_vc _ _ _ hp,(.same _ (.same _ (.same _ .nil))),⟨show SpecsL Tryz.prog _ from SpecsL.nil,rfl,⟨show ItersL Tryz.prog _ from ItersL.nil,(TrsOk.none (fun _=>rfl))⟩⟩⟩
 ·cases hs)
theorem r5_allowed_en:Enters Tryz.prog 89:=fun args w=>by kernel_rfl
def r5_Allowed_p (w:L.Want) (grain:Int) (t:Int):Prop:=w.ol.n <= 1000000
def r5_Allowed_r (w:L.Want) (grain:Int) (t:Int):SV:=.tup [.bool (L.alwB w grain t),.int .i64 (L.alwE w grain t)]
def r5_Allowed_s:List EV->Option (Prop × SV)
 | [.p (.agg [.int .i64 w_id,.int .i64 w_colour,.int .i64 w_grain,.sl 2 w_ol_n w_ol_g]),.p (.int .i64 grain),.p (.int .i64 t)]=>some ((∀ i,i<w_ol_n->w_ol_g i = [.int .i64 ((ofPt (w_ol_g i)).x),.int .i64 ((ofPt (w_ol_g i)).y)])/\r5_Allowed_p (⟨w_id,w_colour,w_grain,(⟨w_ol_n,fun i=>ofPt (w_ol_g i)⟩:(L.Sq L.Pt))⟩:L.Want) grain t,r5_Allowed_r (⟨w_id,w_colour,w_grain,(⟨w_ol_n,fun i=>ofPt (w_ol_g i)⟩:(L.Sq L.Pt))⟩:L.Want) grain t)
 | _=>none
abbrev r5_Allowed_S:SE.Spec:=(specO r5_Allowed_s)
def r5_Allowed_C:Cfg:={ cC with specs:=lookS [(67,r5_within_S),(35,r5_ValidWant_S),(89,r5_allowed_S)] }
theorem r5_Allowed_vc (w:L.Want) (grain:Int) (t:Int) (hp:r5_Allowed_p w grain t):vc Tryz.prog (r5_Allowed_C) (bodyOf Tryz.f38) (st0 Tryz.f38 [.p (.agg [.int .i64 w.id,.int .i64 w.colour,.int .i64 w.grain,.sl 2 w.ol.n (fun i=>[.int .i64 ((w.ol.g i).x),.int .i64 ((w.ol.g i).y)])]),.p (.int .i64 grain),.p (.int .i64 t)]) (retFn Tryz.prog Tryz.f38 (r5_Allowed_r w grain t)) :=
 @Eq.mpr _ (let A4:=(0:Int);let A2:=(!L.vWant (L.Want.mk w.id w.colour w.grain (L.Sq.mk w.ol.n fun (i:Nat)=>w.ol.g i)));let A1:=(bif !L.within grain A4 (2:Int) then true else !L.within t A4 (1:Int));((∀ (i:Nat),let A3:=[SV.int .i64 (w.ol.g i).x,SV.int .i64 (w.ol.g i).y];i<w.ol.n->A3=A3)/\w.ol.n <= (1000000:Nat))/\(A2=true->false=L.alwB w grain t/\(50:Int)=L.alwE w grain t)/\(A2=false->True/\((!!L.within grain A4 (2:Int))=true->True)/\(A1=true->false=L.alwB w grain t/\(1:Int)=L.alwE w grain t)/\(A1=false->True/\L.alw w.grain grain t=L.alwB w grain t/\A4=L.alwE w grain t))) (by kernel_rfl) (by
 conv=>zeta
 refine ⟨⟨fun _ _=>rfl,hp⟩,fun h=>?_,fun h=>⟨trivial,fun _=>trivial,fun h2=>?_,fun h2=>⟨trivial,?_⟩⟩⟩
 ·have h:L.vWant w=false:=notT h
  unfold L.alwB L.alwE
  rw [h];exact ⟨rfl,rfl⟩
 ·have h:L.vWant w=true:=notF h
  have h2:L.badGT grain t=true:=h2
  unfold L.alwB L.alwE
  rw [h,h2];exact ⟨rfl,rfl⟩
 ·have h:L.vWant w=true:=notF h
  have h2:L.badGT grain t=false:=h2
  unfold L.alwB L.alwE
  rw [h,h2];exact ⟨rfl,rfl⟩)
theorem r5_Allowed_ok:SpecOk Tryz.prog 38 r5_Allowed_S:=fnX Tryz.func38 (c:=bodyOf Tryz.f38) (by kernel_rfl) mixed (fun args p r hs hp=>by
 unfold r5_Allowed_s at hs
 split at hs
 ·cases hs; exact ⟨_, _, r5_Allowed_vc _ _ _ hp.2, (.p (.agg rfl (fun i hi => by
  rcases i with _ | i
  ·exact (Ext.refl _:Ext _ _)
  rcases i with _ | i
  ·exact (Ext.refl _:Ext _ _)
  rcases i with _ | i
  ·exact (Ext.refl _:Ext _ _)
  rcases i with _ | i
  ·exact (Ext.sl hp.1:Ext _ _)
  exact absurd hi (by simp;try omega))) (.same _ (.same _ .nil))),⟨show SpecsL Tryz.prog _ from (SpecsL.cons r5_within_ok r5_within_en (SpecsL.cons r5_ValidWant_ok r5_ValidWant_en (SpecsL.cons r5_allowed_ok r5_allowed_en SpecsL.nil))),rfl,⟨show ItersL Tryz.prog _ from ItersL.nil,(TrsOk.none (fun _=>rfl))⟩⟩⟩
 ·cases hs)
theorem r5_Allowed_en:Enters Tryz.prog 38:=fun args w=>by kernel_rfl
def r5_BoxOf_p (w:L.Want) (t:Int):Prop:=w.ol.n <= 1000000
def r5_BoxOf_r (w:L.Want) (t:Int):SV:=.tup [(.agg [.int .i64 ((L.boxOf w t).w),.int .i64 ((L.boxOf w t).h)]),.int .i64 (L.boxE w t)]
def r5_BoxOf_s:List EV->Option (Prop × SV)
 | [.p (.agg [.int .i64 w_id,.int .i64 w_colour,.int .i64 w_grain,.sl 2 w_ol_n w_ol_g]),.p (.int .i64 t)]=>some ((∀ i,i<w_ol_n->w_ol_g i = [.int .i64 ((ofPt (w_ol_g i)).x),.int .i64 ((ofPt (w_ol_g i)).y)])/\r5_BoxOf_p (⟨w_id,w_colour,w_grain,(⟨w_ol_n,fun i=>ofPt (w_ol_g i)⟩:(L.Sq L.Pt))⟩:L.Want) t,r5_BoxOf_r (⟨w_id,w_colour,w_grain,(⟨w_ol_n,fun i=>ofPt (w_ol_g i)⟩:(L.Sq L.Pt))⟩:L.Want) t)
 | _=>none
abbrev r5_BoxOf_S:SE.Spec:=(specO r5_BoxOf_s)
def r5_BoxOf_C:Cfg:={ cC with muts:=[4],specs:=lookS [(67,r5_within_S),(35,r5_ValidWant_S),(90,r5_box_S)] }
theorem r5_BoxOf_vc (w:L.Want) (t:Int) (hp:r5_BoxOf_p w t):vc Tryz.prog (r5_BoxOf_C) (bodyOf Tryz.f39) (st0 Tryz.f39 [.p (.agg [.int .i64 w.id,.int .i64 w.colour,.int .i64 w.grain,.sl 2 w.ol.n (fun i=>[.int .i64 ((w.ol.g i).x),.int .i64 ((w.ol.g i).y)])]),.p (.int .i64 t)]) (retFn Tryz.prog Tryz.f39 (r5_BoxOf_r w t)) :=
 @Eq.mpr _ (let I:=SV.int .i64;let A5:=(0:Int);let A7:=(!L.within t A5 (1:Int));let A3:=[I (L.boxOf w t).w,I (L.boxOf w t).h];let A2:=(L.Sq.mk w.ol.n fun (i:Nat)=>w.ol.g i);let A4:=(!L.vWant (L.Want.mk w.id w.colour w.grain A2));let A1:=((∀ (i:Nat),let A6:=[I (w.ol.g i).x,I (w.ol.g i).y];i<w.ol.n->A6=A6)/\w.ol.n <= (1000000:Nat));A1/\(A4=true->SV.agg [I A5,I A5]=SV.agg A3/\(50:Int)=L.boxE w t)/\(A4=false->True/\(A7=true->SV.agg [I A5,I A5]=SV.agg A3/\(1:Int)=L.boxE w t)/\(A7=false->A1/\SV.agg [I (L.box A2 t).w,I (L.box A2 t).h]=SV.agg A3/\A5=L.boxE w t))) (by kernel_rfl) (by
 conv=>zeta
 refine ⟨⟨fun _ _=>rfl,hp⟩,fun h=>?_,fun h=>⟨trivial,fun h2=>?_,fun h2=>⟨⟨fun _ _=>rfl,hp⟩,?_⟩⟩⟩
 ·have e:L.boxE w t=50:=by unfold L.boxE;rw [show L.vWant w=false from notT h];rfl
  have e2:L.boxOf w t=⟨0,0⟩:=by unfold L.boxOf;rw [e];rfl
  rw [e,e2];exact ⟨rfl,rfl⟩
 ·have e:L.boxE w t=1:=by unfold L.boxE;rw [show L.vWant w=true from notF h,show L.within t 0 1=false from notT h2];rfl
  have e2:L.boxOf w t=⟨0,0⟩:=by unfold L.boxOf;rw [e];rfl
  rw [e,e2];exact ⟨rfl,rfl⟩
 ·have e:L.boxE w t=0:=by unfold L.boxE;rw [show L.vWant w=true from notF h,show L.within t 0 1=true from notF h2];rfl
  have e2:L.boxOf w t=L.box w.ol t:=by unfold L.boxOf;rw [e];rfl
  rw [e,e2];exact ⟨rfl,rfl⟩)
theorem r5_BoxOf_ok:SpecOk Tryz.prog 39 r5_BoxOf_S:=fnX Tryz.func39 (c:=bodyOf Tryz.f39) (by kernel_rfl) mixed (fun args p r hs hp=>by
 unfold r5_BoxOf_s at hs
 split at hs
 ·cases hs; exact ⟨_, _, r5_BoxOf_vc _ _ hp.2, (.p (.agg rfl (fun i hi => by
  rcases i with _ | i
  ·exact (Ext.refl _:Ext _ _)
  rcases i with _ | i
  ·exact (Ext.refl _:Ext _ _)
  rcases i with _ | i
  ·exact (Ext.refl _:Ext _ _)
  rcases i with _ | i
  ·exact (Ext.sl hp.1:Ext _ _)
  exact absurd hi (by simp;try omega))) (.same _ .nil)),⟨show SpecsL Tryz.prog _ from (SpecsL.cons r5_within_ok r5_within_en (SpecsL.cons r5_ValidWant_ok r5_ValidWant_en (SpecsL.cons r5_box_ok r5_box_en SpecsL.nil))),rfl,⟨show ItersL Tryz.prog _ from ItersL.nil,(TrsOk.none (fun _=>rfl))⟩⟩⟩
 ·cases hs)
theorem r5_BoxOf_en:Enters Tryz.prog 39:=fun args w=>by kernel_rfl
end Go.Proofs.YtpgaejicfbpcmaaGreat
namespace Go.Proofs.YtpgaejicfbpcmaaGreat
open Go.SE Go.RowKit
set_option maxRecDepth 100000
set_option maxHeartbeats 4000000
set_option linter.unusedVariables false
attribute [local irreducible] vc
def L.tdE (w:L.Want) (t:Int) (at_:L.Pt):Int:=bif !L.vWant w then 50 else bif (bif !L.within t 0 1 then true else !L.validPt at_) then 1 else bif L.anyB w.ol.n (fun i=>!L.validPt (L.trn w.ol t at_ i)) then 2 else 0
def L.tdN (w:L.Want) (t:Int) (at_:L.Pt):Nat:=bif decide (L.tdE w t at_=0) then w.ol.n else 0
theorem vWant_ol {w:L.Want} (h:L.vWant w=true):L.validOutline w.ol=true:=by
 unfold L.vWant at h
 cases h1:L.within w.id 1 65535
 ·rw [h1] at h;cases h
 cases h2:L.within w.colour 1 16
 ·rw [h1,h2] at h;cases h
 cases h3:L.within w.grain 0 2
 ·rw [h1,h2,h3] at h;cases h
 rw [h1,h2,h3] at h
 exact h
def c_turned_p (l:(L.Sq L.Pt)) (t:Int) (at_:L.Pt):Prop:=L.validOutline l=true/\L.validPt at_=true
def c_turned_r (l:(L.Sq L.Pt)) (t:Int) (at_:L.Pt):SV:=.sl 2 l.n (fun j=>[.int .i64 (L.trn l t at_ j).x,.int .i64 (L.trn l t at_ j).y])
def c_turned_s:List EV->Option (Prop × SV)
 | [.p (.sl 2 l_n l_g),.p (.int .i64 t),.p (.agg [.int .i64 at__x,.int .i64 at__y])]=>some ((∀ i,i<l_n->l_g i = [.int .i64 ((ofPt (l_g i)).x),.int .i64 ((ofPt (l_g i)).y)])/\c_turned_p (⟨l_n,fun i=>ofPt (l_g i)⟩:(L.Sq L.Pt)) t (⟨at__x,at__y⟩:L.Pt),c_turned_r (⟨l_n,fun i=>ofPt (l_g i)⟩:(L.Sq L.Pt)) t (⟨at__x,at__y⟩:L.Pt))
 | _=>none
abbrev c_turned_S:SE.Spec:=(specO c_turned_s)
def c_turned_C:Cfg:={ cC with muts:=[7,8,12,21],specs:=lookS [(126,p_Box_S)],anys:=[6] }
theorem c_turned_vc (l:(L.Sq L.Pt)) (t:Int) (at_:L.Pt) (hp:c_turned_p l t at_):vc Tryz.prog ({ c_turned_C with loops:=lookL [(4,{ T:=Nat,keep:=[0,1,5,7,8,10,22,23],keepO:=[7,8],chg:=fun i=>[(24,.p (.int .i64 (i:Int)))],own:=fun i=>[(21,.row 48 2 l.n (fun j=>[.int .i64 (L.trnN l t at_ i j).x,.int .i64 (L.trnN l t at_ i j).y]))],inv:=fun i=>i <= l.n,mu:=fun i=>l.n - i })],rfs:=lookR [] }) (bodyOf Tryz.f86) (st0 Tryz.f86 [.p (.sl 2 l.n (fun i=>[.int .i64 ((l.g i).x),.int .i64 ((l.g i).y)])),.p (.int .i64 t),.p (.agg [.int .i64 at_.x,.int .i64 at_.y])]) (retFn Tryz.prog Tryz.f86 (c_turned_r l t at_)) :=
 @Eq.mpr _ (let I:=SV.int .i64;let T:=Int.toNat;let A18:=(0:Int);let A17:=(1:Int);let A15:=(nat_lit 0);let A13:=[I at_.x,I at_.y];let A7:=(↑l.n:Int);let A4:=(l.n=l.n /\ ∀ (i:Nat),let A19:=[I (l.g i).x,I (l.g i).y];i<l.n->A19=A19);let A3:=(L.Sq.mk l.n fun (i:Nat)=>l.g i);let A10:=(L.boxH A3);let A8:=(L.boxL A3);((∀ (i:Nat),let A20:=[I (l.g i).x,I (l.g i).y];i<l.n->A20=A20)/\l.n <= (1000000:Nat))/\(A18 <= A7/\A7 <= A7/\A7 * (↑(nat_lit 16):Int) <= (140737488355328:Int))/\(∃ (g:Nat),A18=(↑g:Int)/\(T A7=l.n /\ ∀ (i:Nat),i<T A7 -> [I A18,I A18] = [I (L.trnN l t at_ g i).x,I (L.trnN l t at_ g i).y])/\g <= l.n) /\ ∀ (g:Nat),let A6:=(↑g:Int);let A12:=(A18 <= A6/\A6<A7);let A11:=(l.g (T A6));let A21:=(A11.x - A8.x);let A5:=(A11.y - A8.y);let A2:=(decide (t=A17)=false->InK .i64 (at_.x+A21)/\InK .i64 (at_.y+A5)/\A12/\T A6<l.n/\InK .i64 (A6+A17) /\ ∃ (g':Nat),A6+A17=(↑g':Int)/\A7=A7/\A4/\nat_lit 0=nat_lit 0/\nat_lit 0=nat_lit 0/\SV.ref A13 A15=SV.ref A13 A15/\A4/\t=t/\(l.n=l.n /\ ∀ (i:Nat),let A22:=(L.trnN l t at_ g' i);let A14:=(L.boxL (L.Sq.mk l.n fun (i:Nat)=>l.g i));i<l.n->setRow (fun (j:Nat)=>[I (L.trnN l t at_ g j).x,I (L.trnN l t at_ g j).y]) (T A6) A15 [I (at_.x+(A11.x - A14.x)),I (at_.y+(A11.y - A14.y))] i = [I A22.x,I A22.y])/\A10.x=A10.x/\A10.y=A10.y/\A8.x=A8.x/\A8.y=A8.y/\g' <= l.n/\l.n - g'<l.n - g);let A1:=(decide (t=A17)=true->InK .i64 (A10.y - A8.y)/\InK .i64 (A10.y - A8.y - A5)/\InK .i64 (at_.x+(A10.y - A8.y - A5))/\InK .i64 (at_.y+A21)/\A12/\T A6<l.n/\InK .i64 (A6+A17) /\ ∃ (g':Nat),A6+A17=(↑g':Int)/\A7=A7/\A4/\nat_lit 0=nat_lit 0/\nat_lit 0=nat_lit 0/\SV.ref A13 A15=SV.ref A13 A15/\A4/\t=t/\(l.n=l.n /\ ∀ (i:Nat),let A23:=(L.trnN l t at_ g' i);let A9:=(L.Sq.mk l.n fun (i:Nat)=>l.g i);i<l.n->setRow (fun (j:Nat)=>[I (L.trnN l t at_ g j).x,I (L.trnN l t at_ g j).y]) (T A6) A15 [I (at_.x+((L.boxH A9).y - (L.boxL A9).y - (A11.y - (L.boxL A9).y))),I (at_.y+(A11.x - (L.boxL A9).x))] i = [I A23.x,I A23.y])/\A10.x=A10.x/\A10.y=A10.y/\A8.x=A8.x/\A8.y=A8.y/\g' <= l.n/\l.n - g'<l.n - g);let A16:=(InK .i64 A5/\A1/\A2);g <= l.n->(decide (A6<A7)=true->A12/\InK .i64 A21/\InK .i64 A5/\(A1/\A2)/\A16/\A16/\InK .i64 A5/\A1/\A2)/\(decide (A6<A7)=false->l.n=l.n /\ ∀ (i:Nat),i<l.n -> [I (L.trnN l t at_ g i).x,I (L.trnN l t at_ g i).y] = [I (L.trn l t at_ i).x,I (L.trn l t at_ i).y])) (by kernel_rfl) (by
 conv=>zeta
 obtain ⟨hv,ha⟩:=(show L.validOutline l=true/\L.validPt at_=true from hp)
 obtain ⟨n3,n24,_,_⟩:=validOutline_of hv
 have hb:=box_bd l
 have hap:=vPt_iff.1 ha
 have hn:l.n <= 1000000:=by omega
 have b2:(l.n:Int) * 16 <= 140737488355328:=by omega
 refine ⟨⟨fun _ _=>rfl,hn⟩,⟨Int.natCast_nonneg _,Int.le_refl _,b2⟩,⟨(0:Nat),rfl,⟨Int.toNat_natCast _,fun i hi=>?_⟩,Nat.zero_le _⟩,fun g hg=>⟨fun hc=>?_,fun hc=>?_⟩⟩
 ·have e:L.trnN l t at_ 0 i=⟨0,0⟩:=by unfold L.trnN;rw [decide_eq_false (Nat.not_lt_zero _)];rfl
  rw [e]
 ·have hc:(g:Int)<(l.n:Int):=of_decide_eq_true hc
  have hlt:g<l.n:=by omega
  have e0:((g:Int)).toNat=g:=Int.toNat_natCast g
  have hgp:=vPt_iff.1 (vPts_of hv g hlt)
  rw [e0]
  have k0:0 <= (g:Int):=Int.natCast_nonneg _
  have row1:∀ (x y:Int),L.trn l t at_ g=⟨x,y⟩ -> ∀ i,i<l.n->setRow (fun (j:Nat)=>[SV.int .i64 (L.trnN l t at_ g j).x,SV.int .i64 (L.trnN l t at_ g j).y]) g 0 [SV.int .i64 x,SV.int .i64 y] i = [SV.int .i64 (L.trnN l t at_ (g+1) i).x,SV.int .i64 (L.trnN l t at_ (g+1) i).y]:=fun x y h i _=>by
   unfold setRow
   by_cases e:i=g
   ·subst e
    rw [if_pos rfl]
    have:L.trnN l t at_ (i+1) i=⟨x,y⟩:=by unfold L.trnN;rw [decide_eq_true (Nat.lt_succ_self i)];exact h
    rw [this];rfl
   ·rw [if_neg e]
    have:L.trnN l t at_ (g+1) i=L.trnN l t at_ g i:=by
     unfold L.trnN
     by_cases h:i<g
     ·rw [decide_eq_true h,decide_eq_true (show i<g+1 by omega)]
     ·rw [decide_eq_false h,decide_eq_false (show ¬ i<g+1 by omega)]
    rw [this]
  have t1:decide (t=1)=true->L.trn l t at_ g=⟨at_.x+((L.boxH l).y - (L.boxL l).y - ((l.g g).y - (L.boxL l).y)),at_.y+((l.g g).x - (L.boxL l).x)⟩:=fun h=>by unfold L.trn;rw [h];rfl
  have t0:decide (t=1)=false->L.trn l t at_ g=⟨at_.x+((l.g g).x - (L.boxL l).x),at_.y+((l.g g).y - (L.boxL l).y)⟩:=fun h=>by unfold L.trn;rw [h];rfl
  have w1:InK .i64 ((l.g g).x - (L.boxL l).x):=jK
  have w2:InK .i64 ((l.g g).y - (L.boxL l).y):=jK
  have w3:InK .i64 ((L.boxH l).y - (L.boxL l).y):=jK
  have w4:InK .i64 ((L.boxH l).y - (L.boxL l).y - ((l.g g).y - (L.boxL l).y)):=jK
  have w5:InK .i64 (at_.x+((L.boxH l).y - (L.boxL l).y - ((l.g g).y - (L.boxL l).y))):=jK
  have w6:InK .i64 (at_.y+((l.g g).x - (L.boxL l).x)):=jK
  have w7:InK .i64 (at_.x+((l.g g).x - (L.boxL l).x)):=jK
  have w8:InK .i64 (at_.y+((l.g g).y - (L.boxL l).y)):=jK
  have w9:InK .i64 ((g:Int)+1):=jK
  have h1:g+1 <= l.n:=hlt
  have h2:l.n - (g+1)<l.n - g:=by omega
  repeat' with_reducible apply And.intro
  all_goals first | exact w1 | exact w2 | exact k0 | exact hc | (intro hT;first | exact ⟨w3,w4,w5,w6,⟨k0,hc⟩,hlt,w9,g+1,(by (repeat' with_reducible apply And.intro) <;> first | with_reducible rfl | exact rfl | exact fun _=>rfl | exact fun _ _=>rfl | exact h1 | exact h2 | exact row1 _ _ (t1 hT) | exact trivial)⟩ | exact ⟨w7,w8,⟨k0,hc⟩,hlt,w9,g+1,(by (repeat' with_reducible apply And.intro) <;> first | with_reducible rfl | exact rfl | exact fun _=>rfl | exact fun _ _=>rfl | exact h1 | exact h2 | exact row1 _ _ (t0 hT) | exact trivial)⟩)
 ·have hc:¬ (g:Int)<(l.n:Int):=of_decide_eq_false hc
  obtain rfl:g=l.n:=by omega
  refine ⟨rfl,fun i hi=>?_⟩
  have:L.trnN l t at_ l.n i=L.trn l t at_ i:=by unfold L.trnN;rw [decide_eq_true hi];rfl
  rw [this])
theorem c_turned_ok:SpecOk Tryz.prog 86 c_turned_S:=fnX Tryz.func86 (c:=bodyOf Tryz.f86) (by kernel_rfl) mixed (fun args p r hs hp=>by
 unfold c_turned_s at hs
 split at hs
 ·cases hs;exact ⟨_,_,c_turned_vc _ _ _ hp.2,(.p (.sl hp.1) (.same _ (.same _ .nil))),⟨show SpecsL Tryz.prog _ from (SpecsL.cons p_Box_ok p_Box_en SpecsL.nil),rfl,⟨show ItersL Tryz.prog _ from ItersL.nil,(TrsOk.none (fun _=>rfl))⟩⟩⟩
 ·cases hs)
theorem c_turned_en:Enters Tryz.prog 86:=fun args w=>by kernel_rfl
def c_Turned1_p (p:L.Pt):Prop:=True
def c_Turned1_r (p:L.Pt):SV:=.bool (!L.validPt p)
def c_Turned1_s:List EV->Option (Prop × SV)
 | [.p (.agg [.int .i64 p_x,.int .i64 p_y])]=>some (c_Turned1_p (⟨p_x,p_y⟩:L.Pt),c_Turned1_r (⟨p_x,p_y⟩:L.Pt))
 | _=>none
abbrev c_Turned1_S:SE.Spec:=(specO c_Turned1_s)
def c_Turned1_C:Cfg:={ cC with specs:=lookS [(85,p_validPoint_S)] }
theorem c_Turned1_vc (p:L.Pt) (hp:c_Turned1_p p):vc Tryz.prog (c_Turned1_C) (bodyOf Tryz.f88) (st0 Tryz.f88 [.p (.agg [.int .i64 p.x,.int .i64 p.y])]) (retFn Tryz.prog Tryz.f88 (c_Turned1_r p)) :=
 @Eq.mpr _ (True/\(!L.validPt p) = !L.validPt p) (by kernel_rfl) (by
 exact ⟨trivial,rfl⟩)
theorem c_Turned1_ok:SpecOk Tryz.prog 88 c_Turned1_S:=fnX Tryz.func88 (c:=bodyOf Tryz.f88) (by kernel_rfl) mixed (fun args p r hs hp=>by
 unfold c_Turned1_s at hs
 split at hs
 ·cases hs;exact ⟨_,_,c_Turned1_vc _ hp,(.same _ .nil),⟨show SpecsL Tryz.prog _ from (SpecsL.cons p_validPoint_ok p_validPoint_en SpecsL.nil),rfl,⟨show ItersL Tryz.prog _ from ItersL.nil,(TrsOk.none (fun _=>rfl))⟩⟩⟩
 ·cases hs)
theorem c_Turned1_en:Enters Tryz.prog 88:=fun args w=>by kernel_rfl
theorem c_Turned1_B:∀ args p r,c_Turned1_s args=some (p,r) -> ∃ b,r=.bool b:=by
 intro args p r h
 unfold c_Turned1_s at h
 split at h
 ·cases h;exact ⟨_,rfl⟩
 ·cases h
def c_Turned_p (w:L.Want) (t:Int) (at_:L.Pt):Prop:=w.ol.n <= 1000000
def c_Turned_r (w:L.Want) (t:Int) (at_:L.Pt):SV:=.tup [.sl 2 (L.tdN w t at_) (fun i=>[.int .i64 ((L.trn w.ol t at_ i).x),.int .i64 ((L.trn w.ol t at_ i).y)]),.int .i64 (L.tdE w t at_)]
def c_Turned_s:List EV->Option (Prop × SV)
 | [.p (.agg [.int .i64 w_id,.int .i64 w_colour,.int .i64 w_grain,.sl 2 w_ol_n w_ol_g]),.p (.int .i64 t),.p (.agg [.int .i64 at__x,.int .i64 at__y])]=>some ((∀ i,i<w_ol_n->w_ol_g i = [.int .i64 ((ofPt (w_ol_g i)).x),.int .i64 ((ofPt (w_ol_g i)).y)])/\c_Turned_p (⟨w_id,w_colour,w_grain,(⟨w_ol_n,fun i=>ofPt (w_ol_g i)⟩:(L.Sq L.Pt))⟩:L.Want) t (⟨at__x,at__y⟩:L.Pt),c_Turned_r (⟨w_id,w_colour,w_grain,(⟨w_ol_n,fun i=>ofPt (w_ol_g i)⟩:(L.Sq L.Pt))⟩:L.Want) t (⟨at__x,at__y⟩:L.Pt))
 | _=>none
abbrev c_Turned_S:SE.Spec:=(specO c_Turned_s)
def c_Turned_C:Cfg:={ cC with specs:=lookS [(40,c_ValidWant_S),(61,c_within_S),(85,p_validPoint_S),(86,c_turned_S),(87,s_conFP_S),(88,c_Turned1_S)] }
theorem c_Turned_vc (w:L.Want) (t:Int) (at_:L.Pt) (hp:c_Turned_p w t at_):vc Tryz.prog (c_Turned_C) (bodyOf Tryz.f34) (st0 Tryz.f34 [.p (.agg [.int .i64 w.id,.int .i64 w.colour,.int .i64 w.grain,.sl 2 w.ol.n (fun i=>[.int .i64 ((w.ol.g i).x),.int .i64 ((w.ol.g i).y)])]),.p (.int .i64 t),.p (.agg [.int .i64 at_.x,.int .i64 at_.y])]) (retFn Tryz.prog Tryz.f34 (c_Turned_r w t at_)) :=
 @Eq.mpr _ (let I:=SV.int .i64;let A9:=(L.Sq.mk w.ol.n fun (i:Nat)=>w.ol.g i);let A6:=(bif !L.within t (0:Int) (1:Int) then true else !L.validPt at_);let A5:=(!L.vWant (L.Want.mk w.id w.colour w.grain A9));let A4:=(∀ (i:Nat),let A10:=[I (w.ol.g i).x,I (w.ol.g i).y];i<w.ol.n->A10=A10);let A1:=(FSpec.mk (fun («as»:List SV)=>preO c_Turned1_s (List.map EV.p «as» ++ List.map EV.p [])) fun («as»:List SV)=>resO c_Turned1_s (List.map EV.p «as» ++ List.map EV.p []));let A2:=(L.anyB w.ol.n fun (i:Nat)=>let A7:=(L.trn (L.Sq.mk w.ol.n fun (i:Nat)=>w.ol.g i) t at_ i);L.fbl A1 [SV.agg [I A7.x,I A7.y]]);(A4/\w.ol.n <= (1000000:Nat))/\(A5=true->L.tdN w t at_=(0:Nat)/\(50:Int)=L.tdE w t at_)/\(A5=false->True/\((!!L.within t (0:Int) (1:Int))=true->True)/\(A6=true->L.tdN w t at_=(0:Nat)/\(1:Int)=L.tdE w t at_)/\(A6=false->(A4/\L.validOutline A9=true/\L.validPt at_=true)/\((∀ (i:Nat),let A3:=(L.trn (L.Sq.mk w.ol.n fun (i:Nat)=>w.ol.g i) t at_ i);i<w.ol.n -> [I A3.x,I A3.y] = [I A3.x,I A3.y])/\isB A1/\w.ol.n <= (1000000:Nat) /\ ∀ (i:Nat),i<w.ol.n->True)/\(A2=true->L.tdN w t at_=(0:Nat)/\(2:Int)=L.tdE w t at_)/\(A2=false->(w.ol.n=L.tdN w t at_ /\ ∀ (i:Nat),let A8:=(L.trn (L.Sq.mk w.ol.n fun (i:Nat)=>w.ol.g i) t at_ i);i<w.ol.n -> [I A8.x,I A8.y] = [I (L.trn w.ol t at_ i).x,I (L.trn w.ol t at_ i).y])/\(0:Int)=L.tdE w t at_)))) (by kernel_rfl) (by
 conv=>zeta
 have hn:w.ol.n <= 1000000:=hp
 have fin:∀ e,L.tdE w t at_=e->e ≠ 0->L.tdN w t at_=0/\e=L.tdE w t at_:=fun e h h0=>⟨by unfold L.tdN;rw [h,decide_eq_false h0];rfl,h.symm⟩
 refine ⟨⟨fun _ _=>rfl,hn⟩,fun h=>?_,fun h=>⟨trivial,fun _=>trivial,fun h2=>?_,fun h2=>?_⟩⟩
 ·have h:(!L.vWant w)=true:=h
  exact fin 50 (by unfold L.tdE;rw [h];rfl) (by decide)
 ·have h:(!L.vWant w)=false:=h
  exact fin 1 (by unfold L.tdE;rw [h,h2];rfl) (by decide)
 ·have h:(!L.vWant w)=false:=h
  have va:L.validPt at_=true:=by
   cases hv:L.validPt at_ with
   | true=>rfl
   | false =>
     rw [hv] at h2
     cases hw:L.within t 0 1 with
     | true=>rw [hw] at h2;cases h2
     | false=>rw [hw] at h2;cases h2
  refine ⟨⟨fun _ _=>rfl,vWant_ol (notF h),va⟩,⟨fun _ _=>rfl,isB_of c_Turned1_B _,hn,fun _ _=>trivial⟩,fun h3=>?_,fun h3=>?_⟩
  ·have h3:(L.anyB w.ol.n fun i=>!L.validPt (L.trn w.ol t at_ i))=true:=h3
   exact fin 2 (by unfold L.tdE;rw [h,h2,h3];rfl) (by decide)
  ·have h3:(L.anyB w.ol.n fun i=>!L.validPt (L.trn w.ol t at_ i))=false:=h3
   have e:L.tdE w t at_=0:=by unfold L.tdE;rw [h,h2,h3];rfl
   have e2:L.tdN w t at_=w.ol.n:=by unfold L.tdN;rw [e];rfl
   rw [e,e2]
   exact ⟨⟨rfl,fun _ _=>rfl⟩,rfl⟩)
theorem c_Turned_ok:SpecOk Tryz.prog 34 c_Turned_S:=fnX Tryz.func34 (c:=bodyOf Tryz.f34) (by kernel_rfl) mixed (fun args p r hs hp=>by
 unfold c_Turned_s at hs
 split at hs
 ·cases hs; exact ⟨_, _, c_Turned_vc _ _ _ hp.2, (.p (.agg rfl (fun i hi => by
  rcases i with _ | i
  ·exact (Ext.refl _:Ext _ _)
  rcases i with _ | i
  ·exact (Ext.refl _:Ext _ _)
  rcases i with _ | i
  ·exact (Ext.refl _:Ext _ _)
  rcases i with _ | i
  ·exact (Ext.sl hp.1:Ext _ _)
  exact absurd hi (by simp;try omega))) (.same _ (.same _ .nil))),⟨show SpecsL Tryz.prog _ from (SpecsL.cons c_ValidWant_ok c_ValidWant_en (SpecsL.cons c_within_ok c_within_en (SpecsL.cons p_validPoint_ok p_validPoint_en (SpecsL.cons c_turned_ok c_turned_en (SpecsL.cons s_conFP_ok s_conFP_en (SpecsL.cons c_Turned1_ok c_Turned1_en SpecsL.nil)))))),rfl,⟨show ItersL Tryz.prog _ from ItersL.nil,(TrsOk.none (fun _=>rfl))⟩⟩⟩
 ·cases hs)
theorem c_Turned_en:Enters Tryz.prog 34:=fun args w=>by kernel_rfl
end Go.Proofs.YtpgaejicfbpcmaaGreat
namespace Go.Proofs.YtpgaejicfbpcmaaGreat
open Go.SE Go.RowKit
set_option maxRecDepth 100000
set_option maxHeartbeats 4000000
set_option linter.unusedVariables false
attribute [local irreducible] vc
end Go.Proofs.YtpgaejicfbpcmaaGreat
namespace Go.Proofs.YtpgaejicfbpcmaaGreat
open Go.SE Go.RowKit
set_option maxRecDepth 100000
set_option maxHeartbeats 4000000
set_option linter.unusedVariables false
attribute [local irreducible] vc
def r5_lies_p (w:L.Want) (t:Int) (at_:L.Pt):Prop:=L.validOutline w.ol=true/\L.validPt at_=true
def r5_lies_r (w:L.Want) (t:Int) (at_:L.Pt):SV:=.sl 2 w.ol.n (fun j=>[.int .i64 (L.trn w.ol t at_ j).x,.int .i64 (L.trn w.ol t at_ j).y])
def r5_lies_s:List EV->Option (Prop × SV)
 | [.p (.agg [.int .i64 w_id,.int .i64 w_colour,.int .i64 w_grain,.sl 2 w_ol_n w_ol_g]),.p (.int .i64 t),.p (.agg [.int .i64 at__x,.int .i64 at__y])]=>some ((∀ i,i<w_ol_n->w_ol_g i = [.int .i64 ((ofPt (w_ol_g i)).x),.int .i64 ((ofPt (w_ol_g i)).y)])/\r5_lies_p (⟨w_id,w_colour,w_grain,(⟨w_ol_n,fun i=>ofPt (w_ol_g i)⟩:(L.Sq L.Pt))⟩:L.Want) t (⟨at__x,at__y⟩:L.Pt),r5_lies_r (⟨w_id,w_colour,w_grain,(⟨w_ol_n,fun i=>ofPt (w_ol_g i)⟩:(L.Sq L.Pt))⟩:L.Want) t (⟨at__x,at__y⟩:L.Pt))
 | _=>none
abbrev r5_lies_S:SE.Spec:=(specO r5_lies_s)
def r5_lies_C:Cfg:={ cC with muts:=[7,8,12,73],frz:=lookN [(10,[73])],specs:=lookS [(134,r1_Box_S)],nils:=lookM [(3,[(10,73,48,2)])] }
theorem r5_lies_vc (w:L.Want) (t:Int) (at_:L.Pt) (hp:r5_lies_p w t at_):vc Tryz.prog ({ r5_lies_C with loops:=lookL [(4,{ T:=Nat,keep:=[1,3,5,7,8,10],keepO:=[7,8],chg:=fun i=>[(11,.p (.int .i64 (i:Int)))],own:=fun i=>[(73,.row 48 2 i (fun j=>[.int .i64 (L.trn w.ol t at_ j).x,.int .i64 (L.trn w.ol t at_ j).y]))],inv:=fun i=>i <= w.ol.n,mu:=fun i=>w.ol.n - i })],rfs:=lookR [] }) (bodyOf Tryz.f93) (st0 Tryz.f93 [.p (.agg [.int .i64 w.id,.int .i64 w.colour,.int .i64 w.grain,.sl 2 w.ol.n (fun i=>[.int .i64 ((w.ol.g i).x),.int .i64 ((w.ol.g i).y)])]),.p (.int .i64 t),.p (.agg [.int .i64 at_.x,.int .i64 at_.y])]) (retFn Tryz.prog Tryz.f93 (r5_lies_r w t at_)) :=
 @Eq.mpr _ (let I:=SV.int .i64;let T:=Int.toNat;let A16:=(140737488355328:Nat);let A15:=(↑w.ol.n:Int);let A13:=(1:Int);let A11:=[I at_.x,I at_.y];let A8:=(nat_lit 0);let A2:=[I w.id,I w.colour,I w.grain,SV.sl (nat_lit 2) w.ol.n fun (i:Nat)=>[I (w.ol.g i).x,I (w.ol.g i).y]];let A1:=(L.Sq.mk w.ol.n fun (i:Nat)=>w.ol.g i);let A6:=(L.boxH A1);let A5:=(L.boxL A1);((∀ (i:Nat),let A14:=[I (w.ol.g i).x,I (w.ol.g i).y];i<w.ol.n->A14=A14)/\w.ol.n <= (1000000:Nat))/\(∃ (g:Nat),(0:Int)=(↑g:Int)/\(nat_lit 0=g /\ ∀ (i:Nat),i<nat_lit 0 -> [] = [I (L.trn w.ol t at_ i).x,I (L.trn w.ol t at_ i).y])/\g <= w.ol.n) /\ ∀ (g:Nat),let A7:=(↑g:Int);let A4:=((0:Int) <= A7/\A7<A15);let A3:=(w.ol.g (T A7));g <= w.ol.n->(decide (A7<A15)=true->A4/\InK .i64 (A3.x - A5.x)/\A4/\InK .i64 (A3.y - A5.y)/\(decide (t=A13)=true->A4/\InK .i64 (A6.y - A3.y)/\InK .i64 (A6.y - A3.y+at_.x)/\InK .i64 (A3.x - A5.x+at_.y)/\(g+nat_lit 1) * nat_lit 16 <= A16/\InK .i64 (A7+A13) /\ ∃ (g':Nat),A7+A13=(↑g':Int)/\nat_lit 0=nat_lit 0/\nat_lit 0=nat_lit 0/\SV.ref A11 A8=SV.ref A11 A8/\SV.ref A2 A8=SV.ref A2 A8/\t=t/\(g+nat_lit 1=g' /\ ∀ (i:Nat),let A12:=(L.Sq.mk w.ol.n fun (i:Nat)=>w.ol.g i);i<g+nat_lit 1->appGet g (fun (j:Nat)=>[I (L.trn w.ol t at_ j).x,I (L.trn w.ol t at_ j).y]) (fun (x:Nat)=>[I ((L.boxH A12).y - A3.y+at_.x),I (A3.x - (L.boxL A12).x+at_.y)]) i = [I (L.trn w.ol t at_ i).x,I (L.trn w.ol t at_ i).y])/\A6.x=A6.x/\A6.y=A6.y/\A5.x=A5.x/\A5.y=A5.y/\g' <= w.ol.n/\w.ol.n - g'<w.ol.n - g)/\(decide (t=A13)=false->InK .i64 (A3.x - A5.x+at_.x)/\InK .i64 (A3.y - A5.y+at_.y)/\(g+nat_lit 1) * nat_lit 16 <= A16/\InK .i64 (A7+A13) /\ ∃ (g':Nat),A7+A13=(↑g':Int)/\nat_lit 0=nat_lit 0/\nat_lit 0=nat_lit 0/\SV.ref A11 A8=SV.ref A11 A8/\SV.ref A2 A8=SV.ref A2 A8/\t=t/\(g+nat_lit 1=g' /\ ∀ (i:Nat),let A10:=(L.boxL (L.Sq.mk w.ol.n fun (i:Nat)=>w.ol.g i));i<g+nat_lit 1->appGet g (fun (j:Nat)=>[I (L.trn w.ol t at_ j).x,I (L.trn w.ol t at_ j).y]) (fun (x:Nat)=>[I (A3.x - A10.x+at_.x),I (A3.y - A10.y+at_.y)]) i = [I (L.trn w.ol t at_ i).x,I (L.trn w.ol t at_ i).y])/\A6.x=A6.x/\A6.y=A6.y/\A5.x=A5.x/\A5.y=A5.y/\g' <= w.ol.n/\w.ol.n - g'<w.ol.n - g))/\(decide (A7<A15)=false->g=w.ol.n /\ ∀ (i:Nat),let A9:=(L.trn w.ol t at_ i);i<g -> [I A9.x,I A9.y] = [I A9.x,I A9.y])) (by kernel_rfl) (by
 conv=>zeta
 obtain ⟨hv,ha⟩:=(show L.validOutline w.ol=true/\L.validPt at_=true from hp)
 obtain ⟨n3,n24,_,_⟩:=validOutline_of hv
 have hb:=box_bd w.ol
 have hap:=vPt_iff.1 ha
 have hn:w.ol.n <= 1000000:=by omega
 refine ⟨⟨fun _ _=>rfl,hn⟩,⟨(0:Nat),rfl,⟨rfl,fun i hi=>absurd hi (Nat.not_lt_zero _)⟩,Nat.zero_le _⟩,fun g hg=>⟨fun hc=>?_,fun hc=>?_⟩⟩
 ·have hc:(g:Int)<(w.ol.n:Int):=of_decide_eq_true hc
  have hlt:g<w.ol.n:=by omega
  have e0:((g:Int)).toNat=g:=Int.toNat_natCast g
  have hgp:=vPt_iff.1 (vPts_of hv g hlt)
  rw [e0]
  have k0:0 <= (g:Int):=Int.natCast_nonneg _
  have row1:∀ (x y:Int),L.trn w.ol t at_ g=⟨x,y⟩ -> ∀ i,i<g+1->appGet g (fun (j:Nat)=>[SV.int .i64 (L.trn w.ol t at_ j).x,SV.int .i64 (L.trn w.ol t at_ j).y]) (fun _=>[SV.int .i64 x,SV.int .i64 y]) i = [SV.int .i64 (L.trn w.ol t at_ i).x,SV.int .i64 (L.trn w.ol t at_ i).y]:=fun x y h i hi=>by
   unfold appGet
   by_cases e:i<g
   ·rw [if_pos e]
   ·obtain rfl:i=g:=by omega
    rw [if_neg e,h]
  have t1:decide (t=1)=true->L.trn w.ol t at_ g=⟨(L.boxH w.ol).y - (w.ol.g g).y+at_.x,(w.ol.g g).x - (L.boxL w.ol).x+at_.y⟩:=fun h=>by
   unfold L.trn;rw [h]
   exact congr (congrArg L.Pt.mk (show at_.x+((L.boxH w.ol).y - (L.boxL w.ol).y - ((w.ol.g g).y - (L.boxL w.ol).y))=(L.boxH w.ol).y - (w.ol.g g).y+at_.x by omega)) (show at_.y+((w.ol.g g).x - (L.boxL w.ol).x)=(w.ol.g g).x - (L.boxL w.ol).x+at_.y by omega)
  have t0:decide (t=1)=false->L.trn w.ol t at_ g=⟨(w.ol.g g).x - (L.boxL w.ol).x+at_.x,(w.ol.g g).y - (L.boxL w.ol).y+at_.y⟩:=fun h=>by
   unfold L.trn;rw [h]
   exact congr (congrArg L.Pt.mk (show at_.x+((w.ol.g g).x - (L.boxL w.ol).x)=(w.ol.g g).x - (L.boxL w.ol).x+at_.x by omega)) (show at_.y+((w.ol.g g).y - (L.boxL w.ol).y)=(w.ol.g g).y - (L.boxL w.ol).y+at_.y by omega)
  have w1:InK .i64 ((w.ol.g g).x - (L.boxL w.ol).x):=jK
  have w2:InK .i64 ((w.ol.g g).y - (L.boxL w.ol).y):=jK
  have w3:InK .i64 ((L.boxH w.ol).y - (w.ol.g g).y):=jK
  have w4:InK .i64 ((L.boxH w.ol).y - (w.ol.g g).y+at_.x):=jK
  have w6:InK .i64 ((w.ol.g g).x - (L.boxL w.ol).x+at_.y):=jK
  have w7:InK .i64 ((w.ol.g g).x - (L.boxL w.ol).x+at_.x):=jK
  have w8:InK .i64 ((w.ol.g g).y - (L.boxL w.ol).y+at_.y):=jK
  have w9:InK .i64 ((g:Int)+1):=jK
  have h1:g+1 <= w.ol.n:=hlt
  have h2:w.ol.n - (g+1)<w.ol.n - g:=by omega
  have h3:(g+1) * 16 <= 140737488355328:=by omega
  repeat' with_reducible apply And.intro
  all_goals first | exact k0 | exact hc | exact w1 | exact w2 | exact fun hT=>⟨⟨k0,hc⟩,w3,w4,w6,h3,w9,g+1,by refine ⟨rfl,?_⟩;(repeat' with_reducible apply And.intro);all_goals first | exact rfl | exact h1 | exact h2 | exact h3 | exact row1 _ _ (t1 hT)⟩ | exact fun hT=>⟨w7,w8,h3,w9,g+1,by refine ⟨rfl,?_⟩;(repeat' with_reducible apply And.intro);all_goals first | exact rfl | exact h1 | exact h2 | exact h3 | exact row1 _ _ (t0 hT)⟩ | skip
 ·have hc:¬ (g:Int)<(w.ol.n:Int):=of_decide_eq_false hc
  obtain rfl:g=w.ol.n:=by omega
  exact ⟨rfl,fun i _=>rfl⟩)
theorem r5_lies_ok:SpecOk Tryz.prog 93 r5_lies_S:=fnX Tryz.func93 (c:=bodyOf Tryz.f93) (by kernel_rfl) mixed (fun args p r hs hp=>by
 unfold r5_lies_s at hs
 split at hs
 ·cases hs; exact ⟨_, _, r5_lies_vc _ _ _ hp.2, (.p (.agg rfl (fun i hi => by
  rcases i with _ | i
  ·exact (Ext.refl _:Ext _ _)
  rcases i with _ | i
  ·exact (Ext.refl _:Ext _ _)
  rcases i with _ | i
  ·exact (Ext.refl _:Ext _ _)
  rcases i with _ | i
  ·exact (Ext.sl hp.1:Ext _ _)
  exact absurd hi (by simp;try omega))) (.same _ (.same _ .nil))),⟨show SpecsL Tryz.prog _ from (SpecsL.cons r1_Box_ok r1_Box_en SpecsL.nil),rfl,⟨show ItersL Tryz.prog _ from ItersL.nil,(TrsOk.none (fun _=>rfl))⟩⟩⟩
 ·cases hs)
theorem r5_lies_en:Enters Tryz.prog 93:=fun args w=>by kernel_rfl
end Go.Proofs.YtpgaejicfbpcmaaGreat
namespace Go.Proofs.YtpgaejicfbpcmaaGreat
open Go.SE Go.RowKit
set_option maxRecDepth 100000
set_option maxHeartbeats 4000000
set_option linter.unusedVariables false
attribute [local irreducible] vc
def L.sameP (a b:L.Sq L.Pt):Bool:=bif decide ((a.n:Int)=b.n) then L.allB a.n (fun i=>L.same (a.g i) (b.g i)) else false
def r1_SamePoints_p (a:(L.Sq L.Pt)) (b:(L.Sq L.Pt)):Prop:=a.n <= 1000000
def r1_SamePoints_r (a:(L.Sq L.Pt)) (b:(L.Sq L.Pt)):SV:=.bool (L.sameP a b)
def r1_SamePoints_s:List EV->Option (Prop × SV)
 | [.p (.sl 2 a_n a_g),.p (.sl 2 b_n b_g)]=>some ((∀ i,i<a_n->a_g i = [.int .i64 ((ofPt (a_g i)).x),.int .i64 ((ofPt (a_g i)).y)])/\(∀ i,i<b_n->b_g i = [.int .i64 ((ofPt (b_g i)).x),.int .i64 ((ofPt (b_g i)).y)])/\r1_SamePoints_p (⟨a_n,fun i=>ofPt (a_g i)⟩:(L.Sq L.Pt)) (⟨b_n,fun i=>ofPt (b_g i)⟩:(L.Sq L.Pt)),r1_SamePoints_r (⟨a_n,fun i=>ofPt (a_g i)⟩:(L.Sq L.Pt)) (⟨b_n,fun i=>ofPt (b_g i)⟩:(L.Sq L.Pt)))
 | _=>none
abbrev r1_SamePoints_S:SE.Spec:=(specO r1_SamePoints_s)
def r1_SamePoints_C:Cfg:={ muts:=[],frz:=lookN [],specs:=lookS [],loops:=fun _=>none,iters:=lookI [],rfs:=lookR [],nils:=lookM [] }
theorem r1_SamePoints_vc (a:(L.Sq L.Pt)) (b:(L.Sq L.Pt)) (hp:r1_SamePoints_p a b):vc Tryz.prog ({ r1_SamePoints_C with loops:=lookL [(4,{ T:=Nat,keep:=[0,1],keepO:=[],chg:=fun i=>[(5,.p (.int .i64 (i:Int)))],own:=fun _=>[],inv:=fun i=>i <= a.n /\ ∀ j,j<i->L.same (a.g j) (b.g j)=true,mu:=fun i=>a.n - i })],rfs:=lookR [] }) (bodyOf Tryz.f43) (st0 Tryz.f43 [.p (.sl 2 a.n (fun i=>[.int .i64 ((a.g i).x),.int .i64 ((a.g i).y)])),.p (.sl 2 b.n (fun i=>[.int .i64 ((b.g i).x),.int .i64 ((b.g i).y)]))]) (retFn Tryz.prog Tryz.f43 (r1_SamePoints_r a b)) :=
 @Eq.mpr _ (let I:=SV.int .i64;let T:=Int.toNat;let A4:=(↑a.n:Int);let A3:=(!decide (A4=(↑b.n:Int)));(A3=true->false=L.sameP a b)/\(A3=false->(∃ (g:Nat),(0:Int)=(↑g:Int)/\g <= a.n /\ ∀ (j:Nat),j<g->L.same (a.g j) (b.g j)=true) /\ ∀ (g:Nat),let A2:=(↑g:Int);let A1:=(!(decide ((a.g (T A2)).x=(b.g (T A2)).x) && decide ((a.g (T A2)).y=(b.g (T A2)).y)));(g <= a.n /\ ∀ (j:Nat),j<g->L.same (a.g j) (b.g j)=true)->(decide (A2<A4)=true->((0:Int) <= A2/\A2<A4)/\((0:Int) <= A2/\A2<(↑b.n:Int))/\(A1=true->false=L.sameP a b)/\(A1=false->InK .i64 (A2+(1:Int)) /\ ∃ (g':Nat),A2+(1:Int)=(↑g':Int)/\(a.n=a.n /\ ∀ (i:Nat),let A5:=[I (a.g i).x,I (a.g i).y];i<a.n->A5=A5)/\(b.n=b.n /\ ∀ (i:Nat),let A6:=[I (b.g i).x,I (b.g i).y];i<b.n->A6=A6)/\(g' <= a.n /\ ∀ (j:Nat),j<g'->L.same (a.g j) (b.g j)=true)/\a.n - g'<a.n - g))/\(decide (A2<A4)=false->true=L.sameP a b))) (by kernel_rfl) (by
 conv=>zeta
 have ha:a.n <= 1000000:=hp
 refine ⟨fun h=>?_,fun h=>?_⟩
 ·unfold L.sameP;rw [notT h];rfl
 have hd:=notF h
 have hn:=of_decide_eq_true hd
 refine ⟨⟨(0:Nat),rfl,Nat.zero_le _,fun j hj=>absurd hj (Nat.not_lt_zero _)⟩,fun g hg=>⟨fun hlt=>?_,fun hge=>?_⟩⟩
 ·have hb:(g:Int)<(a.n:Int):=of_decide_eq_true hlt
  have e0:((g:Int)).toNat=g:=by omega
  rw [e0]
  refine ⟨by omega,by omega,fun h1=>?_,fun h1=>?_⟩
  ·have h1:L.same (a.g g) (b.g g)=false:=notT h1
   unfold L.sameP;rw [hd,allB_false (i:=g) (by omega) h1];rfl
  ·have h1:L.same (a.g g) (b.g g)=true:=notF h1
   exact ⟨jK,g+1,by omega,⟨rfl,fun _ _=>rfl⟩,⟨rfl,fun _ _=>rfl⟩,⟨by omega,fun j hj=>by
    rcases Nat.lt_succ_iff_lt_or_eq.1 hj with h' | rfl
    ·exact hg.2 j h'
    ·exact h1⟩,by omega⟩
 ·have hb:¬ (g:Int)<(a.n:Int):=of_decide_eq_false hge
  unfold L.sameP;rw [hd,allB_iff.2 (fun i hi=>hg.2 i (by omega))];rfl)
theorem r1_SamePoints_ok:SpecOk Tryz.prog 43 r1_SamePoints_S:=fnX Tryz.func43 (c:=bodyOf Tryz.f43) (by kernel_rfl) mixed (fun args p r hs hp=>by
 unfold r1_SamePoints_s at hs
 split at hs
 ·cases hs;exact ⟨_,_,r1_SamePoints_vc _ _ hp.2.2,(.p (.sl hp.1) (.p (.sl hp.2.1) .nil)),⟨show SpecsL Tryz.prog _ from SpecsL.nil,rfl,⟨show ItersL Tryz.prog _ from ItersL.nil,(TrsOk.none (fun _=>rfl))⟩⟩⟩
 ·cases hs)
theorem r1_SamePoints_en:Enters Tryz.prog 43:=fun args w=>by kernel_rfl
def r5_Turned_p (w:L.Want) (t:Int) (at_:L.Pt):Prop:=w.ol.n <= 1000000
def r5_Turned_r (w:L.Want) (t:Int) (at_:L.Pt):SV:=.tup [.sl 2 (L.tdN w t at_) (fun i=>[.int .i64 ((L.trn w.ol t at_ i).x),.int .i64 ((L.trn w.ol t at_ i).y)]),.int .i64 (L.tdE w t at_)]
def r5_Turned_s:List EV->Option (Prop × SV)
 | [.p (.agg [.int .i64 w_id,.int .i64 w_colour,.int .i64 w_grain,.sl 2 w_ol_n w_ol_g]),.p (.int .i64 t),.p (.agg [.int .i64 at__x,.int .i64 at__y])]=>some ((∀ i,i<w_ol_n->w_ol_g i = [.int .i64 ((ofPt (w_ol_g i)).x),.int .i64 ((ofPt (w_ol_g i)).y)])/\r5_Turned_p (⟨w_id,w_colour,w_grain,(⟨w_ol_n,fun i=>ofPt (w_ol_g i)⟩:(L.Sq L.Pt))⟩:L.Want) t (⟨at__x,at__y⟩:L.Pt),r5_Turned_r (⟨w_id,w_colour,w_grain,(⟨w_ol_n,fun i=>ofPt (w_ol_g i)⟩:(L.Sq L.Pt))⟩:L.Want) t (⟨at__x,at__y⟩:L.Pt))
 | _=>none
abbrev r5_Turned_S:SE.Spec:=(specO r5_Turned_s)
def r5_Turned_C:Cfg:={ cC with specs:=lookS [(35,r5_ValidWant_S),(67,r5_within_S),(92,r1_ValidPoint_S),(93,r5_lies_S)] }
theorem r5_Turned_vc (w:L.Want) (t:Int) (at_:L.Pt) (hp:r5_Turned_p w t at_):vc Tryz.prog ({ r5_Turned_C with loops:=lookL [(7,{ T:=Nat,keep:=[8],keepO:=[],chg:=fun i=>[(9,.p (.int .i64 (i:Int)))],own:=fun _=>[],inv:=fun i=>i <= w.ol.n /\ ∀ j,j<i->L.validPt (L.trn w.ol t at_ j)=true,mu:=fun i=>w.ol.n - i })],rfs:=lookR [] }) (bodyOf Tryz.f42) (st0 Tryz.f42 [.p (.agg [.int .i64 w.id,.int .i64 w.colour,.int .i64 w.grain,.sl 2 w.ol.n (fun i=>[.int .i64 ((w.ol.g i).x),.int .i64 ((w.ol.g i).y)])]),.p (.int .i64 t),.p (.agg [.int .i64 at_.x,.int .i64 at_.y])]) (retFn Tryz.prog Tryz.f42 (r5_Turned_r w t at_)) :=
 @Eq.mpr _ (let I:=SV.int .i64;let A12:=(↑w.ol.n:Int);let A11:=(1:Int);let A10:=(0:Int);let A4:=(bif !L.within t A10 A11 then true else !L.validPt at_);let A3:=(∀ (i:Nat),let A9:=[I (w.ol.g i).x,I (w.ol.g i).y];i<w.ol.n->A9=A9);let A2:=(L.Sq.mk w.ol.n fun (i:Nat)=>w.ol.g i);let A7:=(!L.vWant (L.Want.mk w.id w.colour w.grain A2));(A3/\w.ol.n <= (1000000:Nat))/\(A7=true->L.tdN w t at_=(0:Nat)/\(50:Int)=L.tdE w t at_)/\(A7=false->True/\((!!L.within t A10 A11)=true->True)/\(A4=true->L.tdN w t at_=(0:Nat)/\A11=L.tdE w t at_)/\(A4=false->(A3/\L.validOutline A2=true/\L.validPt at_=true)/\(∃ (g:Nat),A10=(↑g:Int)/\g <= w.ol.n /\ ∀ (j:Nat),j<g->L.validPt (L.trn w.ol t at_ j)=true) /\ ∀ (g:Nat),let A6:=(↑g:Int);let A8:=(!L.validPt (L.trn A2 t at_ (Int.toNat A6)));(g <= w.ol.n /\ ∀ (j:Nat),j<g->L.validPt (L.trn w.ol t at_ j)=true)->(decide (A6<A12)=true->(A10 <= A6/\A6<A12)/\True/\(A8=true->L.tdN w t at_=(0:Nat)/\(2:Int)=L.tdE w t at_)/\(A8=false->InK .i64 (A6+A11) /\ ∃ (g':Nat),A6+A11=(↑g':Int)/\(w.ol.n=w.ol.n /\ ∀ (i:Nat),let A1:=(L.trn (L.Sq.mk w.ol.n fun (i:Nat)=>w.ol.g i) t at_ i);i<w.ol.n -> [I A1.x,I A1.y] = [I A1.x,I A1.y])/\(g' <= w.ol.n /\ ∀ (j:Nat),j<g'->L.validPt (L.trn w.ol t at_ j)=true)/\w.ol.n - g'<w.ol.n - g))/\(decide (A6<A12)=false->(w.ol.n=L.tdN w t at_ /\ ∀ (i:Nat),let A5:=(L.trn (L.Sq.mk w.ol.n fun (i:Nat)=>w.ol.g i) t at_ i);i<w.ol.n -> [I A5.x,I A5.y] = [I (L.trn w.ol t at_ i).x,I (L.trn w.ol t at_ i).y])/\A10=L.tdE w t at_)))) (by kernel_rfl) (by
 conv=>zeta
 have hn:w.ol.n <= 1000000:=hp
 have fin:∀ e,L.tdE w t at_=e->e ≠ 0->L.tdN w t at_=0/\e=L.tdE w t at_:=fun e h h0=>⟨by unfold L.tdN;rw [h,decide_eq_false h0];rfl,h.symm⟩
 refine ⟨⟨fun _ _=>rfl,hn⟩,fun h=>?_,fun h=>⟨trivial,fun _=>trivial,fun h2=>?_,fun h2=>?_⟩⟩
 ·have h:(!L.vWant w)=true:=h
  exact fin 50 (by unfold L.tdE;rw [h];rfl) (by decide)
 ·have h:(!L.vWant w)=false:=h
  exact fin 1 (by unfold L.tdE;rw [h,h2];rfl) (by decide)
 ·have h:(!L.vWant w)=false:=h
  have va:L.validPt at_=true:=by
   cases hv:L.validPt at_ with
   | true=>rfl
   | false =>
     rw [hv] at h2
     cases hw:L.within t 0 1 with
     | true=>rw [hw] at h2;cases h2
     | false=>rw [hw] at h2;cases h2
  refine ⟨⟨fun _ _=>rfl,vWant_ol (notF h),va⟩,⟨(0:Nat),rfl,Nat.zero_le _,fun j hj=>absurd hj (Nat.not_lt_zero _)⟩,fun g hg=>⟨fun hc=>?_,fun hc=>?_⟩⟩
  ·have hc:(g:Int)<(w.ol.n:Int):=of_decide_eq_true hc
   have hlt:g<w.ol.n:=by omega
   rw [Int.toNat_natCast g]
   refine ⟨⟨Int.natCast_nonneg _,hc⟩,trivial,fun h3=>?_,fun h3=>?_⟩
   ·have h3:(!L.validPt (L.trn w.ol t at_ g))=true:=h3
    have h3:(L.anyB w.ol.n fun i=>!L.validPt (L.trn w.ol t at_ i))=true:=anyB_iff.2 ⟨g,hlt,h3⟩
    exact fin 2 (by unfold L.tdE;rw [h,h2,h3];rfl) (by decide)
   ·have h3:L.validPt (L.trn w.ol t at_ g)=true:=notF h3
    refine ⟨jK,g+1,by omega,⟨rfl,fun _ _=>rfl⟩,⟨hlt,fun j hj=>?_⟩,by omega⟩
    rcases Nat.lt_succ_iff_lt_or_eq.1 hj with h' | rfl
    ·exact hg.2 j h'
    ·exact h3
  ·have hc:¬ (g:Int)<(w.ol.n:Int):=of_decide_eq_false hc
   have h3:(L.anyB w.ol.n fun i=>!L.validPt (L.trn w.ol t at_ i))=false:=by
    apply Bool.eq_false_iff.2
    intro h3
    obtain ⟨i,hi,h3⟩:=anyB_iff.1 h3
    rw [hg.2 i (by omega)] at h3
    cases h3
   have e:L.tdE w t at_=0:=by unfold L.tdE;rw [h,h2,h3];rfl
   have e2:L.tdN w t at_=w.ol.n:=by unfold L.tdN;rw [e];rfl
   exact ⟨⟨e2.symm,fun _ _=>rfl⟩,e.symm⟩)
theorem r5_Turned_ok:SpecOk Tryz.prog 42 r5_Turned_S:=fnX Tryz.func42 (c:=bodyOf Tryz.f42) (by kernel_rfl) mixed (fun args p r hs hp=>by
 unfold r5_Turned_s at hs
 split at hs
 ·cases hs; exact ⟨_, _, r5_Turned_vc _ _ _ hp.2, (.p (.agg rfl (fun i hi => by
  rcases i with _ | i
  ·exact (Ext.refl _:Ext _ _)
  rcases i with _ | i
  ·exact (Ext.refl _:Ext _ _)
  rcases i with _ | i
  ·exact (Ext.refl _:Ext _ _)
  rcases i with _ | i
  ·exact (Ext.sl hp.1:Ext _ _)
  exact absurd hi (by simp;try omega))) (.same _ (.same _ .nil))),⟨show SpecsL Tryz.prog _ from (SpecsL.cons r5_ValidWant_ok r5_ValidWant_en (SpecsL.cons r5_within_ok r5_within_en (SpecsL.cons r1_ValidPoint_ok r1_ValidPoint_en (SpecsL.cons r5_lies_ok r5_lies_en SpecsL.nil)))),rfl,⟨show ItersL Tryz.prog _ from ItersL.nil,(TrsOk.none (fun _=>rfl))⟩⟩⟩
 ·cases hs)
theorem r5_Turned_en:Enters Tryz.prog 42:=fun args w=>by kernel_rfl
end Go.Proofs.YtpgaejicfbpcmaaGreat
namespace Go.Proofs.YtpgaejicfbpcmaaGreat
open Go.SE Go.RowKit
set_option maxRecDepth 100000
set_option maxHeartbeats 4000000
set_option linter.unusedVariables false
attribute [local irreducible] vc
def L.memo (f:Int->L.Sq L.Size) (k:Int):SV:=.sl 2 (f k).n (fun i=>[.int .i64 ((f k).g i).w,.int .i64 ((f k).g i).h])
def L.bit0 (g:Int):Int:=L.iand g (0 - g)
def L.rst (g:Int):Int:=L.iandNot g (L.bit0 g)
def L.subK (g:Int):Nat->Int
 | 0=>0
 | k+1=>L.iand (L.subK g k - L.rst g) (L.rst g)
def L.partN (g:Int):Nat:=((List.range 16).find? (fun k=>decide (L.subK g k=L.rst g))).getD 0
def L.part (g:Int) (k:Nat):Int:=L.ior (L.subK g k) (L.bit0 g)
def chkP (n:Nat):Bool:=decide (L.subK n (L.partN n)=L.rst n) && (List.range (L.partN n)).all (fun k=>!decide (L.subK n k=L.rst n) && decide (-16 <= L.subK n k - L.rst n) && decide (L.subK n k - L.rst n <= 16))
theorem chkP_all:((List.range 16).all chkP)=true:=by kernel_rfl
theorem parts_tab {g:Int} (h:0 <= g) (h':g <= 15):L.subK g (L.partN g)=L.rst g /\ ∀ k,k<L.partN g->L.subK g k ≠ L.rst g /\ -16 <= L.subK g k - L.rst g/\L.subK g k - L.rst g <= 16:=by
 obtain ⟨n,rfl⟩:=Int.eq_ofNat_of_zero_le h
 have hn:n<16:=by omega
 have h1:=List.all_eq_true.1 chkP_all n (List.mem_range.2 hn)
 unfold chkP at h1
 rw [Bool.and_eq_true,decide_eq_true_eq] at h1
 refine ⟨h1.1,fun k hk=>?_⟩
 have h2:=List.all_eq_true.1 h1.2 k (List.mem_range.2 hk)
 rw [Bool.and_eq_true,Bool.and_eq_true,decide_eq_true_eq,decide_eq_true_eq,Bool.not_eq_true',decide_eq_false_iff_not] at h2
 exact ⟨h2.1.1,h2.1.2,h2.2⟩
abbrev c_shapesOf_mk:Mk:={ T:=(L.Sq L.Want) × (Int) × (Int->L.Sq L.Size),U:=Nat,args:=fun t=>(fun w gr f=>[.p ((.sl 4 w.n (fun i=>[.int .i64 ((w.g i).id),.int .i64 ((w.g i).colour),.int .i64 ((w.g i).grain),.sl 2 (w.g i).ol.n (fun i1=>[.int .i64 (((w.g i).ol.g i1).x),.int .i64 (((w.g i).ol.g i1).y)])]))),.p (.int .i64 gr)]) t.1 t.2.1 t.2.2,lkeys:=[],keys:=[9,7],lent:=fun t=>(fun w gr f=>[]) t.1 t.2.1 t.2.2,pre:=fun t=>(fun w gr f=>True) t.1 t.2.1 t.2.2,post:=fun t u=>(fun w gr f=>fun uu=>True) t.1 t.2.1 t.2.2 u,lent':=fun t u=>(fun w gr f=>fun uu=>[]) t.1 t.2.1 t.2.2 u,own:=fun t u=>(fun w gr f=>fun uu=>[(9,.blk 162 [.p ((.sl 4 w.n (fun i=>[.int .i64 ((w.g i).id),.int .i64 ((w.g i).colour),.int .i64 ((w.g i).grain),.sl 2 (w.g i).ol.n (fun i1=>[.int .i64 (((w.g i).ol.g i1).x),.int .i64 (((w.g i).ol.g i1).y)])]))),.p (.int .i64 gr),.mapv 7]),(7,.mq 3 27 (fun _=>false) (L.memo f))]) t.1 t.2.1 t.2.2 u,res:=fun t u=>(fun w gr f=>fun uu=>.loc 9 0) t.1 t.2.1 t.2.2 u }
theorem c_shapesOf_vc (w:L.Sq L.Want) (gr:Int) (f:Int->L.Sq L.Size) (hp:c_shapesOf_mk.pre (w,gr,f)):vc Tryz.prog ({ cC with muts:=[9],mqs:=lookQ [(7,L.memo f)] }) (bodyOf Tryz.f62) (stTr Tryz.f62 (c_shapesOf_mk.args (w,gr,f)) (c_shapesOf_mk.lent (w,gr,f))) (retMk Tryz.prog Tryz.f62 c_shapesOf_mk (w,gr,f)) :=
 @Eq.mpr _ (let I:=SV.int .i64;∃ (u:Nat),nat_lit 0=(0:Nat)/\(w.n=w.n /\ ∀ (i:Nat),let A1:=[I (w.g i).id,I (w.g i).colour,I (w.g i).grain,SV.sl (2:Nat) (w.g i).ol.n fun (i1:Nat)=>[I ((w.g i).ol.g i1).x,I ((w.g i).ol.g i1).y]];i<w.n->A1=A1)/\gr=gr/\(∀ (x:Int),false=false)/\(∀ (x:Int),false=true->L.memo f x=L.memo f x)/\True) (by kernel_rfl) (by
 conv=>zeta
 exact ⟨(0:Nat),rfl,⟨rfl,fun _ _=>rfl⟩,rfl,fun _=>rfl,fun _ _=>rfl,trivial⟩)
theorem c_shapesOf_en:Enters Tryz.prog 62:=fun args w=>by kernel_rfl
theorem c_shapesOf_mok:MkOk Tryz.prog 62 c_shapesOf_mk:=mk_ok (n:=2) Tryz.func62 (c:=bodyOf Tryz.f62) (by kernel_rfl) mixed ⟨fun t=>rfl,fun t=>rfl,fun t u=>rfl,fun t u=>rfl,fun t u=>rfl,fun t u=>⟨rfl,rfl⟩,by kernel_rfl,by kernel_rfl⟩ (fun ⟨w,gr,f⟩ hp=>⟨_,c_shapesOf_vc w gr f hp,⟨show SpecsL Tryz.prog _ from SpecsL.nil,rfl,⟨show ItersL Tryz.prog _ from ItersL.nil,(TrsOk.none (fun _=>rfl))⟩⟩⟩)
def c_parts1_p (g:Int):Prop:=0 <= g/\g <= 15
def c_parts1_n (g:Int):Nat:=L.partN g
def c_parts1_i (g:Int):Nat->List SV:=fun k=>[.int .i64 (L.part g k)]
def c_parts1_ic:List SV->Option (Prop × Nat × (Nat->List SV))
 | [.ref [.int .i64 g] 0]=>some (c_parts1_p g,c_parts1_n g,c_parts1_i g)
 | _=>none
abbrev c_parts1_it:ItSpec:=itOf c_parts1_ic
def c_parts1_C:Cfg:={ muts:=[],frz:=lookN [],specs:=lookS [],loops:=fun _=>none,iters:=lookI [],rfs:=lookR [] }
theorem c_parts1_vc (yl:Nat) (g:Int) (hp:c_parts1_p g):vc Tryz.prog { c_parts1_C with loops:=lookL [(3,{ T:=Nat,keep:=[0,1,3,4],keepO:=[],chg:=fun i=>[(5,.p (.int .i64 (L.subK g i)))],own:=fun _=>[],inv:=fun i=>i <= L.partN g,mu:=fun i=>L.partN g - i,yk:=some (fun i=>i) })],yld:=some ⟨yl,c_parts1_n g,c_parts1_i g⟩ } (bodyOf Tryz.f157) (st0 Tryz.f157 (.yield yl :: ([.ref [.int .i64 g] 0]:List SV).map .p)) (retIt Tryz.prog Tryz.f157 (c_parts1_n g)) :=
 @Eq.mpr _ (let A6:=[SV.int .i64 g];let A5:=(1:Nat);let A3:=((0:Int) - g);let A1:=(L.iand g A3);let A7:=(L.iandNot g A1);InK .i64 A3/\(∃ (g_1:Nat),nat_lit 0=g_1/\false=false/\(0:Int)=L.subK g g_1/\g_1 <= L.partN g) /\ ∀ (g_1:Nat),let A4:=(!decide (L.subK g g_1=L.iandNot g A1));let A2:=(L.subK g g_1 - L.iandNot g A1);g_1 <= L.partN g->(A4=true->yl=yl/\g_1<L.partN g /\ [SV.int .i64 (L.ior (L.subK g g_1) A1)] = [SV.int .i64 (L.part g g_1)]/\((false=true->g_1+A5=L.partN g\/g_1+A5=L.partN g+A5)/\(false=false->InK .i64 A2 /\ ∃ (g':Nat),g_1+A5=g'/\false=false/\L.iand A2 A7=L.subK g g'/\L.iandNot g A1=L.iandNot g A1/\L.iand g A3=L.iand g A3/\yl=yl/\SV.ref A6 (nat_lit 0)=SV.ref A6 (nat_lit 0)/\g' <= L.partN g/\L.partN g - g'<L.partN g - g_1))/\(true=true->L.partN g+A5=L.partN g\/L.partN g+A5=L.partN g+A5)/\(true=false->InK .i64 A2 /\ ∃ (g':Nat),L.partN g+A5=g'/\false=false/\L.iand A2 A7=L.subK g g'/\L.iandNot g A1=L.iandNot g A1/\L.iand g A3=L.iand g A3/\yl=yl/\False/\g' <= L.partN g/\L.partN g - g'<L.partN g - g_1))/\(A4=false->g_1=L.partN g\/g_1=L.partN g+A5)) (by kernel_rfl) (by
 conv=>zeta
 obtain ⟨h1,h2⟩:=hp
 obtain ⟨t1,t2⟩:=parts_tab h1 h2
 refine ⟨jK,⟨(0:Nat),rfl,rfl,rfl,Nat.zero_le _⟩,fun k hk=>⟨fun hne=>?_,fun he=>?_⟩⟩
 ·have hne:¬ L.subK g k=L.rst g:=of_decide_eq_false (notT hne)
  have hlt:k<L.partN g:=by
   rcases Nat.lt_or_ge k (L.partN g) with h | h
   ·exact h
   ·obtain rfl:k=L.partN g:=by omega
    exact absurd t1 hne
  obtain ⟨_,b1,b2⟩:=t2 k hlt
  refine ⟨rfl,hlt,rfl,⟨(fun h=>by cases h),fun _=>⟨InK.of (show _ <= L.subK g k - L.rst g by omega) (show L.subK g k - L.rst g <= _ by omega),k+1,rfl,rfl,rfl,rfl,rfl,rfl,rfl,by omega,by omega⟩⟩,fun _=>.inr rfl,(fun h=>by cases h)⟩
 ·have he:L.subK g k=L.rst g:=of_decide_eq_true (notF he)
  rcases Nat.lt_or_ge k (L.partN g) with h | h
  ·exact absurd he (t2 k h).1
  ·exact .inl (by omega))
theorem c_parts1_itok:ItOk Tryz.prog 157 c_parts1_it:=iterX Tryz.func157 (c:=bodyOf Tryz.f157) (by kernel_rfl) mixed (fun caps l p n g hs hp=>by
 unfold c_parts1_ic at hs
 split at hs
 ·cases hs;exact ⟨_,_,c_parts1_vc l _ hp,(.cons (Ext.refl _) .nil),rfl,show SpecsL Tryz.prog _ from SpecsL.nil,⟨show ItersL Tryz.prog _ from ItersL.nil,TrsOk.none (fun _=>rfl)⟩⟩
 ·cases hs)
theorem c_parts1_en:Enters Tryz.prog 157:=fun args w=>by kernel_rfl
end Go.Proofs.YtpgaejicfbpcmaaGreat
namespace Go.Proofs.YtpgaejicfbpcmaaGreat
open Go.SE Go.RowKit
set_option maxRecDepth 100000
set_option maxHeartbeats 4000000
set_option linter.unusedVariables false
attribute [local irreducible] vc
instance:Inhabited L.Size:=⟨⟨0,0⟩⟩
def encSz (p:L.Size):List Int:=[p.w,p.h]
def L.cmpSz (a b:L.Size):Int:=L.or2 (L.cmp a.w b.w) (L.cmp a.h b.h)
theorem cmpSz_lt {a b:L.Size}:L.cmpSz a b<0 ↔ a.w<b.w\/(a.w=b.w/\a.h<b.h):=by
 unfold L.cmpSz L.or2 L.cmp
 rcases Int.lt_trichotomy a.w b.w with h1 | h1 | h1 <;> rcases Int.lt_trichotomy a.h b.h with h2 | h2 | h2 <;> grind
theorem swoSz:Go.Sort.SWO (Go.Proofs.ltOf L.cmpSz):=by
 have k:∀ x y,Go.Proofs.ltOf L.cmpSz x y=true ↔ x.w<y.w\/(x.w=y.w/\x.h<y.h):=fun x y=>by
  unfold Go.Proofs.ltOf;rw [decide_eq_true_iff,cmpSz_lt]
 have kf:∀ x y,Go.Proofs.ltOf L.cmpSz x y=false ↔ ¬ (x.w<y.w\/(x.w=y.w/\x.h<y.h)):=fun x y=>by
  rw [<- k,Bool.not_eq_true]
 refine ⟨fun x=>?_,fun x y z=>?_,fun x y z=>?_⟩
 ·rw [kf];omega
 ·simp only [k];omega
 ·simp only [kf];omega
def sortSz_ren:Go.Shelf.Ren:=⟨fun | 6=>158 | 15=>179 | 14=>188 | 28=>207 | 29=>208 | 20=>213 | 21=>214 | 22=>215 | 23=>216 | 24=>217 | 25=>218 | 26=>219 | 27=>220 | 46=>231 | 47=>226 | 48=>227 | 49=>232 | 50=>233 | 57=>243 | n=>n,fun | 22=>27 | 24=>43 | 25=>210 | 3=>3 | 39=>232 | 0=>0 | 53=>257 | 55=>259 | 4=>4 | 46=>250 | 45=>249 | 50=>254 | 5=>5 | 9=>9 | 66=>270 | 70=>274 | 76=>283 | 77=>284 | n=>n,fun | n=>n⟩
theorem sortSz_lay:Go.Proofs.SlLaysF0.n6 Tryz.prog sortSz_ren:={
 mixed:=by kernel_rfl
 f6:=⟨Tryz.f158.name,by decide,Tryz.func158.trans (congrArg some (by kernel_rfl))⟩
 f14:=⟨Tryz.f188.name,by decide,Tryz.func188.trans (congrArg some (by kernel_rfl))⟩
 f15:=Tryz.func179.trans (congrArg some (by kernel_rfl))
 f20:=⟨Tryz.f213.name,by decide,Tryz.func213.trans (congrArg some (by kernel_rfl))⟩
 f21:=⟨Tryz.f214.name,by decide,Tryz.func214.trans (congrArg some (by kernel_rfl))⟩
 f22:=⟨Tryz.f215.name,by decide,Tryz.func215.trans (congrArg some (by kernel_rfl))⟩
 f23:=⟨Tryz.f216.name,by decide,Tryz.func216.trans (congrArg some (by kernel_rfl))⟩
 f24:=⟨Tryz.f217.name,by decide,Tryz.func217.trans (congrArg some (by kernel_rfl))⟩
 f25:=⟨Tryz.f218.name,by decide,Tryz.func218.trans (congrArg some (by kernel_rfl))⟩
 f26:=⟨Tryz.f219.name,by decide,Tryz.func219.trans (congrArg some (by kernel_rfl))⟩
 f27:=⟨Tryz.f220.name,by decide,Tryz.func220.trans (congrArg some (by kernel_rfl))⟩
 f28:=Tryz.func207.trans (congrArg some (by kernel_rfl))
 f29:=Tryz.func208.trans (congrArg some (by kernel_rfl))
 f46:=⟨Tryz.f231.name,by decide,Tryz.func231.trans (congrArg some (by kernel_rfl))⟩
 f47:=Tryz.func226.trans (congrArg some (by kernel_rfl))
 f48:=Tryz.func227.trans (congrArg some (by kernel_rfl))
 f49:=⟨Tryz.f232.name,by decide,Tryz.func232.trans (congrArg some (by kernel_rfl))⟩
 f50:=⟨Tryz.f233.name,by decide,Tryz.func233.trans (congrArg some (by kernel_rfl))⟩
 f57:=⟨Tryz.f243.name,by decide,Tryz.func243.trans (congrArg some (by kernel_rfl))⟩
 t0:=Tryz.underlying0
 a0:=Tryz.isAgg0
 z0:=Tryz.sizeOf0
 v0:=Tryz.zeroValue0
 t3:=Tryz.underlying3
 a3:=Tryz.isAgg3
 z3:=Tryz.sizeOf3
 v3:=Tryz.zeroValue3
 t4:=Tryz.underlying4
 a4:=Tryz.isAgg4
 z4:=Tryz.sizeOf4
 v4:=Tryz.zeroValue4
 t5:=Tryz.underlying5
 a5:=Tryz.isAgg5
 z5:=Tryz.sizeOf5
 v5:=Tryz.zeroValue5
 t9:=Tryz.underlying9
 a9:=Tryz.isAgg9
 z9:=Tryz.sizeOf9
 v9:=Tryz.zeroValue9
 t22:=Tryz.underlying27
 a22:=Tryz.isAgg27
 z22:=Tryz.sizeOf27
 v22:=Tryz.zeroValue27
 t25:=Tryz.underlying210
 a25:=Tryz.isAgg210
 z25:=Tryz.sizeOf210
 v25:=Tryz.zeroValue210
 t39:=Tryz.underlying232
 a39:=Tryz.isAgg232
 z39:=Tryz.sizeOf232
 v39:=Tryz.zeroValue232
 t45:=Tryz.underlying249
 a45:=Tryz.isAgg249
 z45:=Tryz.sizeOf249
 v45:=Tryz.zeroValue249
 t46:=Tryz.underlying250
 a46:=Tryz.isAgg250
 z46:=Tryz.sizeOf250
 v46:=Tryz.zeroValue250
 t50:=Tryz.underlying254
 a50:=Tryz.isAgg254
 z50:=Tryz.sizeOf254
 v50:=Tryz.zeroValue254
 t53:=Tryz.underlying257
 a53:=Tryz.isAgg257
 z53:=Tryz.sizeOf257
 v53:=Tryz.zeroValue257
 t55:=Tryz.underlying259
 a55:=Tryz.isAgg259
 z55:=Tryz.sizeOf259
 v55:=Tryz.zeroValue259
 t66:=Tryz.underlying270
 a66:=Tryz.isAgg270
 z66:=Tryz.sizeOf270
 v66:=Tryz.zeroValue270
 t70:=Tryz.underlying274
 a70:=Tryz.isAgg274
 z70:=Tryz.sizeOf274
 v70:=Tryz.zeroValue274
 t76:=Tryz.underlying283
 a76:=Tryz.isAgg283
 z76:=Tryz.sizeOf283
 v76:=Tryz.zeroValue283
 t77:=Tryz.underlying284
 a77:=Tryz.isAgg284
 z77:=Tryz.sizeOf284
 v77:=Tryz.zeroValue284 }
def c_parts_p (g:Int):Prop:=True
def c_parts_r (g:Int):SV:=.clo 157 [.ref [.int .i64 g] 0]
def c_parts_s:List EV->Option (Prop × SV)
 | [.p (.int .i64 g)]=>some (c_parts_p g,c_parts_r g)
 | _=>none
abbrev c_parts_S:SE.Spec:=(specO c_parts_s)
def c_parts_C:Cfg:={ muts:=[],frz:=lookN [],specs:=lookS [],loops:=lookL [],iters:=lookI [],rfs:=lookR [],nils:=lookM [] }
theorem c_parts_vc (g:Int) (hp:c_parts_p g):vc Tryz.prog (c_parts_C) (bodyOf Tryz.f114) (st0 Tryz.f114 [.p (.int .i64 g)]) (retFn Tryz.prog Tryz.f114 (c_parts_r g)) :=
 @Eq.mpr _ (SV.clo (nat_lit 157) [SV.ref [SV.int .i64 g] (nat_lit 0)]=SV.clo (nat_lit 157) [SV.ref [SV.int .i64 g] (nat_lit 0)]) (by kernel_rfl) (by
 rfl)
theorem c_parts_ok:SpecOk Tryz.prog 114 c_parts_S:=fnX Tryz.func114 (c:=bodyOf Tryz.f114) (by kernel_rfl) mixed (fun args p r hs hp=>by
 unfold c_parts_s at hs
 split at hs
 ·cases hs;exact ⟨_,_,c_parts_vc _ hp,(.same _ .nil),⟨show SpecsL Tryz.prog _ from SpecsL.nil,rfl,⟨show ItersL Tryz.prog _ from ItersL.nil,(TrsOk.none (fun _=>rfl))⟩⟩⟩
 ·cases hs)
theorem c_parts_en:Enters Tryz.prog 114:=fun args w=>by kernel_rfl
def c_min1_p (a:L.Size) (b:L.Size):Prop:=True
def c_min1_r (a:L.Size) (b:L.Size):SV:=.int .i64 (L.cmpSz a b)
def c_min1_s:List EV->Option (Prop × SV)
 | [.p (.agg [.int .i64 a_w,.int .i64 a_h]),.p (.agg [.int .i64 b_w,.int .i64 b_h])]=>some (c_min1_p (⟨a_w,a_h⟩:L.Size) (⟨b_w,b_h⟩:L.Size),c_min1_r (⟨a_w,a_h⟩:L.Size) (⟨b_w,b_h⟩:L.Size))
 | _=>none
abbrev c_min1_S:SE.Spec:=(specO c_min1_s)
def c_min1_C:Cfg:={ cC with specs:=lookS [(147,c_cmp_S),(160,c_or_S)] }
theorem c_min1_vc (a:L.Size) (b:L.Size) (hp:c_min1_p a b):vc Tryz.prog (c_min1_C) (bodyOf Tryz.f159) (st0 Tryz.f159 [.p (.agg [.int .i64 a.w,.int .i64 a.h]),.p (.agg [.int .i64 b.w,.int .i64 b.h])]) (retFn Tryz.prog Tryz.f159 (c_min1_r a b)) :=
 @Eq.mpr _ (let I:=SV.int .i64;let A1:=[I (L.cmp a.w b.w),I (L.cmp a.h b.h)];True/\True/\((∀ (i:Nat),i<nat_lit 2->rowsOf A1 (nat_lit 1) i = [I (intOf (rowsOf A1 (nat_lit 1) i))])/\nat_lit 2 <= (1000000:Nat))/\L.firstNZ (fun (i:Nat)=>intOf (rowsOf A1 (nat_lit 1) i)) (2:Nat)=L.cmpSz a b) (by kernel_rfl) (by
 conv=>zeta
 exact ⟨trivial,trivial,⟨fun i hi=>by match i,hi with | 0,_=>rfl | 1,_=>rfl,by decide⟩,rfl⟩)
theorem c_min1_ok:SpecOk Tryz.prog 159 c_min1_S:=fnX Tryz.func159 (c:=bodyOf Tryz.f159) (by kernel_rfl) mixed (fun args p r hs hp=>by
 unfold c_min1_s at hs
 split at hs
 ·cases hs;exact ⟨_,_,c_min1_vc _ _ hp,(.same _ (.same _ .nil)),⟨show SpecsL Tryz.prog _ from (SpecsL.cons c_cmp_ok c_cmp_en (SpecsL.cons c_or_ok c_or_en SpecsL.nil)),rfl,⟨show ItersL Tryz.prog _ from ItersL.nil,(TrsOk.none (fun _=>rfl))⟩⟩⟩
 ·cases hs)
theorem c_min1_en:Enters Tryz.prog 159:=fun args w=>by kernel_rfl
abbrev s_sortSz_tr:Tr:=sortTr 43 2 159 1005 encSz L.cmpSz
theorem s_sortSz_tok:TrOk Tryz.prog 158 s_sortSz_tr:=sortTr_ok (enc:=encSz) sortSz_lay (by decide) (fun w=>Tryz.isAgg43 w) (fun w=>Tryz.sizeOf43 w) (fun _=>rfl) swoSz c_min1_ok c_min1_en (fun x y=>show preO c_min1_s [.p (.agg [.int .i64 x.w,.int .i64 x.h]),.p (.agg [.int .i64 y.w,.int .i64 y.h])] from trivial) (fun x y=>rfl) _ _
theorem s_sortSz_en:Enters Tryz.prog 158:=fun args w=>by kernel_rfl
end Go.Proofs.YtpgaejicfbpcmaaGreat
namespace Go.Proofs.YtpgaejicfbpcmaaGreat
open Go.SE Go.RowKit
set_option maxRecDepth 100000
set_option maxHeartbeats 4000000
set_option linter.unusedVariables false
attribute [local irreducible] vc
def L.scan (u:Nat->L.Size):Nat->List L.Size
 | 0=>[]
 | k+1=>match (L.scan u k).getLast? with
   | none=>L.scan u k ++ [u k]
   | some x=>if (u k).h<x.h then L.scan u k ++ [u k] else L.scan u k
def L.scN (u:Nat->L.Size) (k:Nat):Nat:=(L.scan u k).length
def L.scG (u:Nat->L.Size) (k i:Nat):L.Size:=(L.scan u k).getD i ⟨0,0⟩
theorem scN_le (u:Nat->L.Size):∀ k,L.scN u k <= k
 | 0=>Nat.le_refl _
 | k+1=>by
   have:=scN_le u k
   unfold L.scN at this ⊢
   rw [L.scan]
   split
   ·simp;omega
   ·split
    ·simp;omega
    ·omega
theorem sc_last {u:Nat->L.Size} {k:Nat} {x:L.Size} (h:(L.scan u k).getLast? = some x):L.scN u k ≠ 0/\L.scG u k (((L.scN u k:Nat):Int) - 1).toNat=x:=by
 rw [List.getLast?_eq_getElem?] at h
 obtain ⟨h1,h2⟩:=List.getElem?_eq_some_iff.1 h
 have e:(((L.scN u k:Nat):Int) - 1).toNat=(L.scan u k).length - 1:=by unfold L.scN;omega
 refine ⟨by unfold L.scN;omega,?_⟩
 rw [e]
 unfold L.scG
 rw [List.getD_eq_getElem?_getD,h];rfl
theorem sc_take {u:Nat->L.Size} {k:Nat} (h:(bif decide (((L.scN u k:Nat):Int)=0) then true else decide ((u k).h<(L.scG u k (((L.scN u k:Nat):Int) - 1).toNat).h))=true):L.scan u (k+1)=L.scan u k ++ [u k]:=by
 rw [L.scan]
 cases hl:(L.scan u k).getLast? with
 | none=>rfl
 | some x =>
   obtain ⟨h1,h2⟩:=sc_last hl
   rw [h2,decide_eq_false (show ¬ ((L.scN u k:Nat):Int)=0 by omega),cond_false,decide_eq_true_eq] at h
   exact if_pos h
theorem sc_skip {u:Nat->L.Size} {k:Nat} (h:(bif decide (((L.scN u k:Nat):Int)=0) then true else decide ((u k).h<(L.scG u k (((L.scN u k:Nat):Int) - 1).toNat).h))=false):L.scan u (k+1)=L.scan u k:=by
 rw [L.scan]
 cases hl:(L.scan u k).getLast? with
 | none =>
   have e:L.scan u k = []:=List.getLast?_eq_none_iff.1 hl
   have e2:L.scN u k=0:=by unfold L.scN;rw [e];rfl
   rw [e2] at h
   cases h
 | some x =>
   obtain ⟨h1,h2⟩:=sc_last hl
   rw [h2,decide_eq_false (show ¬ ((L.scN u k:Nat):Int)=0 by omega),cond_false,decide_eq_false_iff_not] at h
   exact if_neg h
theorem scG_app {u:Nat->L.Size} {k:Nat} (h:L.scan u (k+1)=L.scan u k ++ [u k]):L.scN u (k+1)=L.scN u k+1 /\ ∀ i,i<L.scN u k+1->L.scG u (k+1) i=if i<L.scN u k then L.scG u k i else u k:=by
 unfold L.scN L.scG
 rw [h]
 refine ⟨by simp,fun i hi=>?_⟩
 simp only [List.getD_eq_getElem?_getD]
 by_cases e:i<(L.scan u k).length
 ·rw [if_pos e,List.getElem?_append_left e]
 ·rw [if_neg e,List.getElem?_append_right (by omega),show i - (L.scan u k).length=0 by omega]
  rfl
abbrev c_minimal_mk:Mk:={ T:=(Nat) × (Nat->L.Size),U:=Nat->L.Size,args:=fun t=>(fun n f=>[.row 1010]) t.1 t.2,lkeys:=[1010],keys:=[32],lent:=fun t=>(fun n f=>[(1010,.row 43 2 n (fun j=>[.int .i64 (f j).w,.int .i64 (f j).h]))]) t.1 t.2,pre:=fun t=>(fun n f=>n <= 1000000) t.1 t.2,post:=fun t u=>(fun n f=>fun u=>SortedBy L.cmpSz n f u) t.1 t.2 u,lent':=fun t u=>(fun n f=>fun u=>[(1010,.row 43 2 n (fun j=>[.int .i64 (u j).w,.int .i64 (u j).h]))]) t.1 t.2 u,own:=fun t u=>(fun n f=>fun u=>[(32,.row 43 2 (L.scN u n) (fun j=>[.int .i64 (L.scG u n j).w,.int .i64 (L.scG u n j).h]))]) t.1 t.2 u,res:=fun t u=>(fun n f=>fun u=>.row 32) t.1 t.2 u }
theorem c_minimal_vc (n:Nat) (f:Nat->L.Size) (hp:c_minimal_mk.pre (n,f)):vc Tryz.prog ({ muts:=[5,32],frz:=lookN [],specs:=lookS [],loops:=lookL [(4,{ T:=(Nat->L.Size) × Nat,keep:=[0,8,9],keepO:=[],chg:=fun t=>[(10,.p (.int .i64 (t.2:Int))),(3,.row 32)],own:=fun t=>[(1010,.row 43 2 n (fun j=>[.int .i64 (t.1 j).w,.int .i64 (t.1 j).h])),(32,.row 43 2 (L.scN t.1 t.2) (fun j=>[.int .i64 (L.scG t.1 t.2 j).w,.int .i64 (L.scG t.1 t.2 j).h]))],inv:=fun t=>t.2 <= n/\SortedBy L.cmpSz n f t.1,mu:=fun t=>n - t.2 })],iters:=lookI [],rfs:=lookR [],nils:=lookM [],trs:=lookT [(158,s_sortSz_tr)],ren:=fun k=>k+5,nilsL:=lookM [(4,[(3,32,43,2)])] }) (bodyOf Tryz.f115) (stTr Tryz.f115 (c_minimal_mk.args (n,f)) (c_minimal_mk.lent (n,f))) (retMk Tryz.prog Tryz.f115 c_minimal_mk (n,f)) :=
 @Eq.mpr _ (let I:=SV.int .i64;let T:=Int.toNat;let A7:=(0:Int);let A5:=(1:Int);∃ (t:Nat × (Nat->L.Size)),let A6:=(↑t.1:Int);SV.clo (nat_lit 159) []=SV.clo (159:Nat) []/\(n=t.1 /\ ∀ (i:Nat),i<n -> [I (f i).w,I (f i).h] = [I (t.2 i).w,I (t.2 i).h])/\t.1 <= (1000000:Nat) /\ ∀ (u:Nat->L.Size),SortedBy L.cmpSz t.1 t.2 u->(∃ (g:(Nat->L.Size) × Nat),A7=(↑g.2:Int)/\(t.1=n /\ ∀ (i:Nat),i<t.1 -> [I (u i).w,I (u i).h] = [I (g.1 i).w,I (g.1 i).h])/\((0:Nat)=L.scN g.1 g.2 /\ ∀ (i:Nat),i<(0:Nat) -> [] = [I (L.scG g.1 g.2 i).w,I (L.scG g.1 g.2 i).h])/\g.2 <= n/\SortedBy L.cmpSz n f g.1) /\ ∀ (g:(Nat->L.Size) × Nat),let A3:=(↑g.2:Int);let A8:=(g.1 (T A3));let A1:=(↑(L.scN g.1 g.2):Int);let A4:=(!decide (A1=A7));let A2:=(bif decide (A1=A7) then true else decide (A8.h<(L.scG g.1 g.2 (T (A1 - A5))).h));g.2 <= n/\SortedBy L.cmpSz n f g.1->(decide (A3<A6)=true->(A7 <= A3/\A3<(↑n:Int))/\T A3<n/\(A4=true->InK .i64 (A1 - A5))/\(A4=true->A7 <= A1 - A5/\A1 - A5<A1)/\(A4=true->T (A1 - A5)<L.scN g.1 g.2)/\(A2=true->(L.scN g.1 g.2+nat_lit 1) * nat_lit 16 <= (140737488355328:Nat)/\InK .i64 (A3+A5) /\ ∃ (g':(Nat->L.Size) × Nat),A3+A5=(↑g'.2:Int)/\A6=A6/\(n=n /\ ∀ (i:Nat),i<n -> [I (g.1 i).w,I (g.1 i).h] = [I (g'.1 i).w,I (g'.1 i).h])/\(L.scN g.1 g.2+nat_lit 1=L.scN g'.1 g'.2 /\ ∀ (i:Nat),i<L.scN g.1 g.2+nat_lit 1->appGet (L.scN g.1 g.2) (fun (j:Nat)=>[I (L.scG g.1 g.2 j).w,I (L.scG g.1 g.2 j).h]) (fun (x:Nat)=>[I A8.w,I A8.h]) i = [I (L.scG g'.1 g'.2 i).w,I (L.scG g'.1 g'.2 i).h])/\(g'.2 <= n/\SortedBy L.cmpSz n f g'.1)/\n - g'.2<n - g.2)/\(A2=false->InK .i64 (A3+A5) /\ ∃ (g':(Nat->L.Size) × Nat),A3+A5=(↑g'.2:Int)/\A6=A6/\(n=n /\ ∀ (i:Nat),i<n -> [I (g.1 i).w,I (g.1 i).h] = [I (g'.1 i).w,I (g'.1 i).h])/\(L.scN g.1 g.2=L.scN g'.1 g'.2 /\ ∀ (i:Nat),i<L.scN g.1 g.2 -> [I (L.scG g.1 g.2 i).w,I (L.scG g.1 g.2 i).h] = [I (L.scG g'.1 g'.2 i).w,I (L.scG g'.1 g'.2 i).h])/\(g'.2 <= n/\SortedBy L.cmpSz n f g'.1)/\n - g'.2<n - g.2))/\(decide (A3<A6)=false -> ∃ (u:Nat->L.Size),(n=n /\ ∀ (i:Nat),i<n -> [I (g.1 i).w,I (g.1 i).h] = [I (u i).w,I (u i).h])/\(L.scN g.1 g.2=L.scN u n /\ ∀ (i:Nat),i<L.scN g.1 g.2 -> [I (L.scG g.1 g.2 i).w,I (L.scG g.1 g.2 i).h] = [I (L.scG u n i).w,I (L.scG u n i).h])/\SortedBy L.cmpSz n f u)) (by kernel_rfl) (by
 conv=>zeta
 have hp:n <= 1000000:=hp
 refine ⟨(n,f),rfl,⟨rfl,fun _ _=>rfl⟩,hp,fun u hu=>⟨⟨(u,0),rfl,⟨rfl,fun _ _=>rfl⟩,⟨rfl,fun i hi=>absurd hi (Nat.not_lt_zero _)⟩,Nat.zero_le _,hu⟩,fun ⟨v,k⟩ ⟨hk,hv⟩=>⟨fun hlt=>?_,fun hge=>?_⟩⟩⟩
 ·have hlt:(k:Int)<(n:Int):=of_decide_eq_true hlt
  have hk:k<n:=by omega
  have c2:((k:Int)).toNat=k:=Int.toNat_natCast k
  have hs:=scN_le v k
  have nz:(!decide (((L.scN v k:Nat):Int)=0))=true->0<L.scN v k:=fun h=>by
   have:¬ ((L.scN v k:Nat):Int)=0:=of_decide_eq_false (notT h)
   omega
  refine ⟨⟨Int.natCast_nonneg _,hlt⟩,by show (k:Int).toNat<n;omega,fun h=>InK.of (by have:=nz h;show _ <= ((L.scN v k:Nat):Int) - 1;omega) (by show ((L.scN v k:Nat):Int) - 1 <= _;omega),fun h=>⟨by have:=nz h;show _ <= ((L.scN v k:Nat):Int) - 1;omega,by show ((L.scN v k:Nat):Int) - 1<((L.scN v k:Nat):Int);omega⟩,fun h=>by have:=nz h;show (((L.scN v k:Nat):Int) - 1).toNat<L.scN v k;omega,fun h=>?_,fun h=>?_⟩
  ·have e:=sc_take (u:=v) (k:=k) (by have h':(bif decide (((L.scN v k:Nat):Int)=0) then true else decide ((v (k:Int).toNat).h<(L.scG v k (((L.scN v k:Nat):Int) - 1).toNat).h))=true:=h;rw [c2] at h';exact h')
   obtain ⟨e1,e2⟩:=scG_app e
   refine ⟨by show (L.scN v k+1) * 16 <= 140737488355328;omega,InK.of (by show _ <= (k:Int)+1;omega) (by show (k:Int)+1 <= _;omega),(v,k+1),by show (k:Int)+1=((k+1:Nat):Int);omega,rfl,⟨rfl,fun _ _=>rfl⟩,⟨e1.symm,fun i hi=>?_⟩,⟨by show k+1 <= n;omega,hv⟩,by show n - (k+1)<n - k;omega⟩
   have hi:i<L.scN v k+1:=hi
   have e3:=e2 i hi
   show appGet (L.scN v k) _ _ i = [SV.int .i64 (L.scG v (k+1) i).w,SV.int .i64 (L.scG v (k+1) i).h]
   rw [e3]
   unfold appGet
   by_cases h4:i<L.scN v k
   ·rw [if_pos h4,if_pos h4]
   ·rw [if_neg h4,if_neg h4]
    show [SV.int .i64 (v (k:Int).toNat).w,SV.int .i64 (v (k:Int).toNat).h]=_
    rw [c2]
  ·have e:=sc_skip (u:=v) (k:=k) (by have h':(bif decide (((L.scN v k:Nat):Int)=0) then true else decide ((v (k:Int).toNat).h<(L.scG v k (((L.scN v k:Nat):Int) - 1).toNat).h))=false:=h;rw [c2] at h';exact h')
   have e1:L.scN v (k+1)=L.scN v k:=by unfold L.scN;rw [e]
   have e2:∀ i,L.scG v (k+1) i=L.scG v k i:=fun i=>by unfold L.scG;rw [e]
   exact ⟨InK.of (by show _ <= (k:Int)+1;omega) (by show (k:Int)+1 <= _;omega),(v,k+1),by show (k:Int)+1=((k+1:Nat):Int);omega,rfl,⟨rfl,fun _ _=>rfl⟩,⟨e1.symm,fun i _=>by rw [e2]⟩,⟨by show k+1 <= n;omega,hv⟩,by show n - (k+1)<n - k;omega⟩
 ·have hge:¬ (k:Int)<(n:Int):=of_decide_eq_false hge
  have hk:k <= n:=hk
  obtain rfl:k=n:=by omega
  exact ⟨v,⟨rfl,fun _ _=>rfl⟩,⟨rfl,fun _ _=>rfl⟩,hv⟩)
theorem c_minimal_en:Enters Tryz.prog 115:=fun args w=>by kernel_rfl
theorem c_minimal_mok:MkOk Tryz.prog 115 c_minimal_mk:=mk_ok (n:=1) Tryz.func115 (c:=bodyOf Tryz.f115) (by kernel_rfl) mixed ⟨fun t=>rfl,fun t=>rfl,fun t u=>rfl,fun t u=>rfl,fun t u=>rfl,fun t u=>⟨rfl,rfl⟩,by kernel_rfl,by kernel_rfl⟩ (fun ⟨n,f⟩ hp=>⟨_,c_minimal_vc n f hp,⟨show SpecsL Tryz.prog _ from SpecsL.nil,rfl,⟨show ItersL Tryz.prog _ from ItersL.nil,⟨show TrsL Tryz.prog _ from (TrsL.cons s_sortSz_tok s_sortSz_en TrsL.nil),⟨MksOk.no1 (fun _=>rfl),FamsOk.none (fun _=>rfl)⟩⟩⟩⟩⟩)
end Go.Proofs.YtpgaejicfbpcmaaGreat
namespace Go.Proofs.YtpgaejicfbpcmaaGreat
open Go.SE Go.RowKit
set_option maxRecDepth 100000
set_option maxHeartbeats 4000000
set_option linter.unusedVariables false
attribute [local irreducible] vc
def L.all (n:Nat):Int:=L.ishl 1 n - 1
theorem all_bd {n:Nat} (h:n <= 4):0 <= L.all n/\L.all n <= 15/\0 <= L.ishl 1 n/\L.ishl 1 n <= 16:=by
 have:n=0\/n=1\/n=2\/n=3\/n=4:=by omega
 rcases this with rfl | rfl | rfl | rfl | rfl <;> decide
abbrev c_full_mk:Mk:={ T:=(L.Sq L.Want) × (Int) × (Int->L.Sq L.Size) × (Int->Bool),U:=Nat,args:=fun t=>(fun w gr f dom=>[.loc 1000 0]) t.1 t.2.1 t.2.2.1 t.2.2.2,lkeys:=[1000,1001],keys:=[],lent:=fun t=>(fun w gr f dom=>[(1000,.blk 162 [.p ((.sl 4 w.n (fun i=>[.int .i64 ((w.g i).id),.int .i64 ((w.g i).colour),.int .i64 ((w.g i).grain),.sl 2 (w.g i).ol.n (fun i1=>[.int .i64 (((w.g i).ol.g i1).x),.int .i64 (((w.g i).ol.g i1).y)])]))),.p (.int .i64 gr),.mapv 1001]),(1001,.mq 3 27 dom (L.memo f))]) t.1 t.2.1 t.2.2.1 t.2.2.2,pre:=fun t=>(fun w gr f dom=>w.n <= 4) t.1 t.2.1 t.2.2.1 t.2.2.2,post:=fun t u=>(fun w gr f dom=>fun uu=>True) t.1 t.2.1 t.2.2.1 t.2.2.2 u,lent':=fun t u=>(fun w gr f dom=>fun uu=>[(1000,.blk 162 [.p ((.sl 4 w.n (fun i=>[.int .i64 ((w.g i).id),.int .i64 ((w.g i).colour),.int .i64 ((w.g i).grain),.sl 2 (w.g i).ol.n (fun i1=>[.int .i64 (((w.g i).ol.g i1).x),.int .i64 (((w.g i).ol.g i1).y)])]))),.p (.int .i64 gr),.mapv 1001]),(1001,.mq 3 27 dom (L.memo f))]) t.1 t.2.1 t.2.2.1 t.2.2.2 u,own:=fun t u=>(fun w gr f dom=>fun uu=>[]) t.1 t.2.1 t.2.2.1 t.2.2.2 u,res:=fun t u=>(fun w gr f dom=>fun uu=>.p (.int .i64 (L.all w.n))) t.1 t.2.1 t.2.2.1 t.2.2.2 u }
theorem c_full_vc (w:L.Sq L.Want) (gr:Int) (f:Int->L.Sq L.Size) (dom:Int->Bool) (hp:c_full_mk.pre (w,gr,f,dom)):vc Tryz.prog (cC) (bodyOf Tryz.f65) (stTr Tryz.f65 (c_full_mk.args (w,gr,f,dom)) (c_full_mk.lent (w,gr,f,dom))) (retMk Tryz.prog Tryz.f65 c_full_mk (w,gr,f,dom)) :=
 @Eq.mpr _ (let I:=SV.int .i64;let A3:=(1:Int);let A2:=(↑w.n:Int);(0:Int) <= A2/\InK .i64 (L.ishl A3 A2)/\InK .i64 (L.ishl A3 A2 - A3) /\ ∃ (u:Nat),L.ishl A3 A2 - A3=L.all w.n/\(w.n=w.n /\ ∀ (i:Nat),let A1:=[I (w.g i).id,I (w.g i).colour,I (w.g i).grain,SV.sl (2:Nat) (w.g i).ol.n fun (i1:Nat)=>[I ((w.g i).ol.g i1).x,I ((w.g i).ol.g i1).y]];i<w.n->A1=A1)/\gr=gr/\(∀ (x:Int),dom x=dom x)/\(∀ (x:Int),dom x=true->L.memo f x=L.memo f x)/\True) (by kernel_rfl) (by
 conv=>zeta
 obtain ⟨a1,a2,a3,a4⟩:=all_bd (n:=w.n) hp
 exact ⟨Int.natCast_nonneg _,jK,InK.of (by show _ <= L.all w.n;omega) (by show L.all w.n <= _;omega),(0:Nat),rfl,⟨rfl,fun _ _=>rfl⟩,rfl,fun _=>rfl,fun _ _=>rfl,trivial⟩)
theorem c_full_en:Enters Tryz.prog 65:=fun args w=>by kernel_rfl
theorem c_full_mok:MkOk Tryz.prog 65 c_full_mk:=mk_ok (n:=1) Tryz.func65 (c:=bodyOf Tryz.f65) (by kernel_rfl) mixed ⟨fun t=>rfl,fun t=>rfl,fun t u=>rfl,fun t u=>rfl,fun t u=>rfl,fun t u=>⟨rfl,rfl⟩,by kernel_rfl,by kernel_rfl⟩ (fun ⟨w,gr,f,dom⟩ hp=>⟨_,c_full_vc w gr f dom hp,⟨show SpecsL Tryz.prog _ from SpecsL.nil,rfl,⟨show ItersL Tryz.prog _ from ItersL.nil,(TrsOk.none (fun _=>rfl))⟩⟩⟩)
end Go.Proofs.YtpgaejicfbpcmaaGreat
namespace Go.Proofs.YtpgaejicfbpcmaaGreat
open Go.SE Go.RowKit
set_option maxRecDepth 100000
set_option maxHeartbeats 4000000
set_option linter.unusedVariables false
attribute [local irreducible] vc
def Cu.le (a b:L.Size):Prop:=a.w <= b.w/\a.h <= b.h
def Cu.leB (a b:L.Size):Bool:=decide (a.w <= b.w) && decide (a.h <= b.h)
theorem Cu.leB_iff {a b:L.Size}:leB a b=true ↔ le a b:=by unfold leB le;rw [Bool.and_eq_true,decide_eq_true_eq,decide_eq_true_eq]
theorem Cu.le_refl (a:L.Size):le a a:=⟨Int.le_refl _,Int.le_refl _⟩
theorem Cu.le_trans {a b c:L.Size} (h:le a b) (k:le b c):le a c:=⟨Int.le_trans h.1 k.1,Int.le_trans h.2 k.2⟩
theorem Cu.sz_ext {a b:L.Size} (h:a.w=b.w) (k:a.h=b.h):a=b:=by
 cases a;cases b;simp only at h k;subst h k;rfl
def Cu.Stair (l:List L.Size):Prop:=l.Pairwise fun a b=>a.w<b.w/\b.h<a.h
def Cu.cov (l:List L.Size) (s:L.Size):Prop:=∃ x,x ∈ l/\le x s
def Cu.Same (l m:List L.Size):Prop:=∀ s,cov l s ↔ cov m s
theorem Cu.Same.refl (l:List L.Size):Same l l:=fun _=>Iff.rfl
theorem Cu.Same.symm {l m:List L.Size} (h:Same l m):Same m l:=fun s=>(h s).symm
theorem Cu.Same.trans {l m n:List L.Size} (h:Same l m) (k:Same m n):Same l n:=fun s=>(h s).trans (k s)
theorem Cu.cov_append {l m:List L.Size} {s:L.Size}:cov (l ++ m) s ↔ cov l s\/cov m s:=by
 unfold cov
 simp only [List.mem_append]
 constructor
 ·rintro ⟨x,h | h,k⟩
  ·exact .inl ⟨x,h,k⟩
  ·exact .inr ⟨x,h,k⟩
 ·rintro (⟨x,h,k⟩ | ⟨x,h,k⟩)
  ·exact ⟨x,.inl h,k⟩
  ·exact ⟨x,.inr h,k⟩
theorem Cu.Same.append {l l' m m':List L.Size} (h:Same l l') (k:Same m m'):Same (l ++ m) (l' ++ m'):=fun s=>by
 rw [cov_append,cov_append,h s,k s]
theorem Cu.Same.of_mem {l m:List L.Size} (h:∀ x,x ∈ l ↔ x ∈ m):Same l m:=fun s=>by
 unfold cov
 simp only [h]
theorem Cu.cov_mem {l:List L.Size} {x:L.Size} (h:x ∈ l):cov l x:=⟨x,h,le_refl x⟩
theorem Cu.Same.of_sub {l m:List L.Size} (h:∀ x,x ∈ l->cov m x) (k:∀ x,x ∈ m->cov l x):Same l m:=fun s=>by
 constructor
 ·rintro ⟨x,hx,hs⟩
  obtain ⟨y,hy,hyx⟩:=h x hx
  exact ⟨y,hy,le_trans hyx hs⟩
 ·rintro ⟨x,hx,hs⟩
  obtain ⟨y,hy,hyx⟩:=k x hx
  exact ⟨y,hy,le_trans hyx hs⟩
theorem Cu.stair_le {l:List L.Size} (h:Stair l):∀ a,a ∈ l -> ∀ b,b ∈ l->le a b->a=b:=by
 intro a ha b hb hab
 obtain ⟨i,hi,rfl⟩:=List.getElem_of_mem ha
 obtain ⟨j,hj,rfl⟩:=List.getElem_of_mem hb
 have hp:=List.pairwise_iff_getElem.1 h
 rcases Nat.lt_trichotomy i j with hlt | heq | hgt
 ·have:=hp i j hi hj hlt
  have:=hab.2
  omega
 ·subst heq;rfl
 ·have:=hp j i hj hi hgt
  have:=hab.1
  omega
theorem Cu.mem_of_same {l m:List L.Size} (hl:Stair l) (hm:Stair m) (h:Same l m):∀ x,x ∈ l->x ∈ m:=fun x hx=>by
 obtain ⟨y,hy,hyx⟩:=(h x).1 (cov_mem hx)
 obtain ⟨z,hz,hzy⟩:=(h y).2 (cov_mem hy)
 have e1:=stair_le hl z hz x hx (le_trans hzy hyx)
 subst e1
 have:y=z:=sz_ext (Int.le_antisymm hyx.1 hzy.1) (Int.le_antisymm hyx.2 hzy.2)
 exact this ▸ hy
theorem Cu.stair_ext:∀ {l m:List L.Size},Stair l->Stair m->(∀ x,x ∈ l ↔ x ∈ m)->l=m
 | [],[],_,_,_=>rfl
 | [],b :: m,_,_,h=>by have:=(h b).2 (List.mem_cons_self ..);cases this
 | a :: l,[],_,_,h=>by have:=(h a).1 (List.mem_cons_self ..);cases this
 | a :: l,b :: m,hl,hm,h=>by
   unfold Stair at hl hm
   rw [List.pairwise_cons] at hl hm
   have e:a=b:=by
    rcases List.mem_cons.1 ((h a).1 (List.mem_cons_self ..)) with e | e
    ·exact e
    ·rcases List.mem_cons.1 ((h b).2 (List.mem_cons_self ..)) with e2 | e2
     ·exact e2.symm
     ·have:=(hm.1 a e).1
      have:=(hl.1 b e2).1
      omega
   subst e
   rw [stair_ext hl.2 hm.2 (fun x=>?_)]
   constructor
   ·intro hx
    rcases List.mem_cons.1 ((h x).1 (List.mem_cons_of_mem _ hx)) with e | e
    ·subst e;have:=(hl.1 x hx).1;omega
    ·exact e
   ·intro hx
    rcases List.mem_cons.1 ((h x).2 (List.mem_cons_of_mem _ hx)) with e | e
    ·subst e;have:=(hm.1 x hx).1;omega
    ·exact e
theorem Cu.stair_uniq {l m:List L.Size} (hl:Stair l) (hm:Stair m) (h:Same l m):l=m :=
 stair_ext hl hm (fun x=>⟨mem_of_same hl hm h x,mem_of_same hm hl h.symm x⟩)
def Cu.ins (l:List L.Size) (s:L.Size):List L.Size:=if l.any (fun x=>leB x s) then l else l.filter (fun x=>decide (x.w<s.w)) ++ s :: l.filter (fun x=>decide (s.w<x.w) && !leB s x)
theorem Cu.ins_ok {l:List L.Size} (h:Stair l) (s:L.Size):Stair (ins l s)/\Same (ins l s) (l ++ [s]):=by
 unfold ins
 split
 ·rename_i hc
  obtain ⟨x,hx,hxs⟩:=List.any_eq_true.1 hc
  refine ⟨h,Same.of_sub (fun y hy=>cov_mem (List.mem_append_left _ hy)) (fun y hy=>?_)⟩
  rcases List.mem_append.1 hy with hy | hy
  ·exact cov_mem hy
  ·rw [List.mem_singleton.1 hy]
   exact ⟨x,hx,leB_iff.1 hxs⟩
 ·rename_i hc
  have hc:∀ x,x ∈ l->¬ le x s:=fun x hx e=>hc (List.any_eq_true.2 ⟨x,hx,leB_iff.2 e⟩)
  refine ⟨?_,Same.of_sub (fun y hy=>?_) (fun y hy=>?_)⟩
  ·unfold Stair
   rw [List.pairwise_append,List.pairwise_cons]
   refine ⟨List.Pairwise.filter _ h,⟨fun y hy=>?_,List.Pairwise.filter _ h⟩,fun x hx y hy=>?_⟩
   ·obtain ⟨_,q⟩:=List.mem_filter.1 hy
    simp only [Bool.and_eq_true,decide_eq_true_eq,Bool.not_eq_true'] at q
    refine ⟨q.1,?_⟩
    have:¬ le s y:=fun e=>by rw [leB_iff.2 e] at q;cases q.2
    unfold le at this
    omega
   ·obtain ⟨m1,q⟩:=List.mem_filter.1 hx
    have q:x.w<s.w:=by simpa using q
    have hs:s.h<x.h:=by
     have:=hc x m1
     unfold le at this
     omega
    rcases List.mem_cons.1 hy with rfl | hy
    ·exact ⟨q,hs⟩
    ·obtain ⟨_,q2⟩:=List.mem_filter.1 hy
     simp only [Bool.and_eq_true,decide_eq_true_eq,Bool.not_eq_true'] at q2
     have:¬ le s y:=fun e=>by rw [leB_iff.2 e] at q2;cases q2.2
     unfold le at this
     omega
  ·rcases List.mem_append.1 hy with hy | hy
   ·exact cov_mem (List.mem_append_left _ (List.mem_filter.1 hy).1)
   ·rcases List.mem_cons.1 hy with rfl | hy
    ·exact cov_mem (List.mem_append_right _ (List.mem_singleton.2 rfl))
    ·exact cov_mem (List.mem_append_left _ (List.mem_filter.1 hy).1)
  ·rcases List.mem_append.1 hy with hy | hy
   ·by_cases e1:y.w<s.w
    ·exact cov_mem (List.mem_append_left _ (List.mem_filter.2 ⟨hy,by simpa using e1⟩))
    ·by_cases e2:le s y
     ·exact ⟨s,List.mem_append_right _ (List.mem_cons_self ..),e2⟩
     ·have e3 : s.w < y.w := by
       have:=hc y hy
       unfold le at this e2
       omega
      refine cov_mem (List.mem_append_right _ (List.mem_cons_of_mem _ (List.mem_filter.2 ⟨hy,?_⟩)))
      rw [Bool.and_eq_true]
      refine ⟨decide_eq_true e3,?_⟩
      cases h2:leB s y with
      | false=>rfl
      | true=>exact absurd (leB_iff.1 h2) e2
   ·rw [List.mem_singleton.1 hy]
    exact cov_mem (List.mem_append_right _ (List.mem_cons_self ..))
def Cu.stair (l:List L.Size):List L.Size:=l.foldl ins []
theorem Cu.foldl_ok:∀ (l a:List L.Size),Stair a->Stair (l.foldl ins a)/\Same (l.foldl ins a) (a ++ l)
 | [],a,h=>⟨h,by rw [List.append_nil];exact Same.refl _⟩
 | s :: l,a,h=>by
   obtain ⟨h1,h2⟩:=ins_ok h s
   obtain ⟨h3,h4⟩:=foldl_ok l (ins a s) h1
   refine ⟨h3,h4.trans ?_⟩
   have:=h2.append (Same.refl l)
   rwa [List.append_assoc] at this
theorem Cu.stair_ok (l:List L.Size):Stair (stair l)/\Same (stair l) l:=foldl_ok l [] List.Pairwise.nil
theorem Cu.stair_eq {l m:List L.Size} (h:Stair m) (k:Same m l):m=stair l:=stair_uniq h (stair_ok l).1 (k.trans (stair_ok l).2.symm)
theorem Cu.stair_congr {l m:List L.Size} (h:Same l m):stair l=stair m:=stair_eq (stair_ok l).1 ((stair_ok l).2.trans h)
def Cu.scan:List L.Size->List L.Size->List L.Size
 | out,[]=>out
 | out,s :: l=>scan (match out.getLast? with
   | none=>out ++ [s]
   | some x=>if s.h<x.h then out ++ [s] else out) l
def Cu.Asc (l:List L.Size):Prop:=l.Pairwise fun a b=>a.w<b.w\/(a.w=b.w/\a.h <= b.h)
theorem Cu.scan_ok:∀ (l out:List L.Size),Stair out->Asc l->(∀ x,x ∈ out -> ∀ s,s ∈ l->x.w<s.w\/(x.w=s.w/\x.h <= s.h))->Stair (scan out l)/\Same (scan out l) (out ++ l)
 | [],out,h,_,_=>⟨h,by rw [List.append_nil];exact Same.refl _⟩
 | s :: l,out,h,ha,hx=>by
   unfold Asc at ha
   rw [List.pairwise_cons] at ha
   have key:∀ out',Stair out'->Same out' (out ++ [s])->(∀ x,x ∈ out'->x ∈ out\/x=s)->Stair (scan out' l)/\Same (scan out' l) (out ++ s :: l):=fun out' h1 h2 h3=>by
    obtain ⟨k1,k2⟩:=scan_ok l out' h1 ha.2 (fun x hx' y hy=>by
     rcases h3 x hx' with e | rfl
     ·exact hx x e y (List.mem_cons_of_mem _ hy)
     ·exact ha.1 y hy)
    refine ⟨k1,k2.trans ?_⟩
    have:=h2.append (Same.refl l)
    rwa [List.append_assoc] at this
   unfold scan
   cases hl:out.getLast? with
   | none =>
     have e:out = []:=List.getLast?_eq_none_iff.1 hl
     subst e
     exact key [s] (List.pairwise_singleton ..) (Same.refl _) (fun x hx'=>.inr (List.mem_singleton.1 hx'))
   | some x =>
     obtain ⟨pre,hpre⟩:=List.getLast?_eq_some_iff.1 hl
     have hxm:x ∈ out:=by rw [hpre];exact List.mem_append_right _ (List.mem_singleton.2 rfl)
     have hxs:=hx x hxm s (List.mem_cons_self ..)
     show Stair (scan (if s.h<x.h then out ++ [s] else out) l)/\Same (scan (if s.h<x.h then out ++ [s] else out) l) (out ++ s :: l)
     by_cases hh:s.h<x.h
     ·rw [if_pos hh]
      have hlow:∀ y,y ∈ out->x.h <= y.h/\y.w <= x.w:=fun y hy=>by
       rw [hpre] at hy
       rcases List.mem_append.1 hy with hy | hy
       ·have h':=h
        unfold Stair at h'
        rw [hpre,List.pairwise_append] at h'
        have:=h'.2.2 y hy x (List.mem_singleton.2 rfl)
        omega
       ·rw [List.mem_singleton.1 hy];omega
      refine key (out ++ [s]) ?_ (Same.refl _) (fun y hy=>?_)
      ·unfold Stair
       rw [List.pairwise_append]
       refine ⟨h,List.pairwise_singleton ..,fun y hy z hz=>?_⟩
       rw [List.mem_singleton.1 hz]
       have:=hlow y hy
       omega
      ·rcases List.mem_append.1 hy with hy | hy
       ·exact .inl hy
       ·exact .inr (List.mem_singleton.1 hy)
     ·rw [if_neg hh]
      refine key out h (Same.of_sub (fun y hy=>cov_mem (List.mem_append_left _ hy)) (fun y hy=>?_)) (fun y hy=>.inl hy)
      rcases List.mem_append.1 hy with hy | hy
      ·exact cov_mem hy
      ·rw [List.mem_singleton.1 hy]
       exact ⟨x,hxm,by omega,by omega⟩
theorem Cu.scan_stair {l m:List L.Size} (ha:Asc l) (hp:l.Perm m):scan [] l=stair m:=by
 obtain ⟨h1,h2⟩:=scan_ok l [] List.Pairwise.nil ha (fun x hx=>by cases hx)
 exact stair_eq h1 (h2.trans (Same.of_mem (fun x=>hp.mem_iff)))
def L.mrg (a b:L.Size):List L.Size:=[⟨a.w+b.w,max a.h b.h⟩,⟨max a.w b.w,a.h+b.h⟩]
def L.prs (A B:List L.Size):List L.Size:=A.flatMap fun a=>B.flatMap fun b=>L.mrg a b
def L.ix1 (g:Int):Nat:=((List.range 4).find? (fun i=>decide (g=2 ^ i))).getD 0
def L.oneC (w:L.Sq L.Want) (gr:Int) (i:Nat):List L.Size:=([0,1].filter fun t=>L.alw (w.g i).grain gr t).map fun t=>L.box (w.g i).ol t
def L.cmp_ (g:Int) (k:Nat):Int:=L.iandNot g (L.part g k)
def L.psK (T:Int->List L.Size) (g:Int):Nat->List L.Size
 | 0=>[]
 | k+1=>L.psK T g k ++ L.prs (T (L.part g k)) (T (L.cmp_ g k))
def L.isOne (g:Int):Bool:=decide (L.iand g (g - 1)=0)
def L.entry (w:L.Sq L.Want) (gr:Int) (T:Int->List L.Size) (g:Int):List L.Size :=
 if g=0 then [⟨0,0⟩] else if L.isOne g=true then Cu.stair (L.oneC w gr (L.ix1 g)) else Cu.stair (L.psK T g (L.partN g))
def L.tabL (w:L.Sq L.Want) (gr:Int):Nat->List (List L.Size)
 | 0=>[]
 | k+1=>L.tabL w gr k ++ [L.entry w gr (fun g=>(L.tabL w gr k).getD g.toNat []) k]
def L.tab (w:L.Sq L.Want) (gr:Int) (g:Int):List L.Size:=(L.tabL w gr 16).getD g.toNat []
def L.sqS (l:List L.Size):L.Sq L.Size:=⟨l.length,fun i=>l.getD i ⟨0,0⟩⟩
def L.tabF (w:L.Sq L.Want) (gr:Int) (g:Int):L.Sq L.Size:=L.sqS (L.tab w gr g)
def chkG (n:Nat):Bool:=decide (n=0) || (if L.isOne n=true then decide ((n:Int)=2 ^ L.ix1 n) && decide (L.ix1 n<4) else decide (0<L.partN n) && (List.range (L.partN n)).all (fun k=>decide (0<L.part n k) && decide (L.part n k<n) && decide (0<L.cmp_ n k) && decide (L.cmp_ n k<n) && decide (L.part n k+L.cmp_ n k=n)))
theorem chkG_all:((List.range 16).all chkG)=true:=by kernel_rfl
theorem grp_one {g:Int} (h:1 <= g) (h':g <= 15) (h1:L.isOne g=true):g=2 ^ L.ix1 g/\L.ix1 g<4:=by
 obtain ⟨n,rfl⟩:=Int.eq_ofNat_of_zero_le (show 0 <= g by omega)
 have:=List.all_eq_true.1 chkG_all n (List.mem_range.2 (by omega))
 unfold chkG at this
 rw [if_pos h1,Bool.or_eq_true,decide_eq_true_eq,Bool.and_eq_true,decide_eq_true_eq,decide_eq_true_eq] at this
 rcases this with h | h
 ·omega
 ·exact h
theorem grp_prt {g:Int} (h:1 <= g) (h':g <= 15) (h1:L.isOne g=false):0<L.partN g /\ ∀ k,k<L.partN g->0<L.part g k/\L.part g k<g/\0<L.cmp_ g k/\L.cmp_ g k<g/\L.part g k+L.cmp_ g k=g:=by
 obtain ⟨n,rfl⟩:=Int.eq_ofNat_of_zero_le (show 0 <= g by omega)
 have:=List.all_eq_true.1 chkG_all n (List.mem_range.2 (by omega))
 unfold chkG at this
 rw [if_neg (by rw [h1];decide),Bool.or_eq_true,decide_eq_true_eq,Bool.and_eq_true,decide_eq_true_eq,List.all_eq_true] at this
 rcases this with h | ⟨h,hk⟩
 ·omega
 ·refine ⟨h,fun k hkk=>?_⟩
  have:=hk k (List.mem_range.2 hkk)
  simp only [Bool.and_eq_true,decide_eq_true_eq] at this
  exact ⟨this.1.1.1.1,this.1.1.1.2,this.1.1.2,this.1.2,this.2⟩
theorem psK_congr {T T':Int->List L.Size} {g:Int} (h:∀ p,0 <= p->p<g->T p=T' p) (hp:∀ k,k<L.partN g->0<L.part g k/\L.part g k<g/\0<L.cmp_ g k/\L.cmp_ g k<g/\L.part g k+L.cmp_ g k=g):∀ k,k <= L.partN g->L.psK T g k=L.psK T' g k
 | 0,_=>rfl
 | k+1,hk=>by
   obtain ⟨h1,h2,h3,h4,_⟩:=hp k (by omega)
   rw [L.psK,L.psK,psK_congr h hp k (by omega),h _ (by omega) h2,h _ (by omega) h4]
theorem entry_congr {w:L.Sq L.Want} {gr:Int} {T T':Int->List L.Size} {g:Int} (h0:0 <= g) (h15:g <= 15) (h:∀ p,0 <= p->p<g->T p=T' p):L.entry w gr T g=L.entry w gr T' g:=by
 unfold L.entry
 by_cases e:g=0
 ·rw [if_pos e,if_pos e]
 ·rw [if_neg e,if_neg e]
  cases h1:L.isOne g with
  | true=>rfl
  | false =>
    rw [if_neg (by decide),if_neg (by decide),psK_congr h (grp_prt (by omega) h15 h1).2 _ (Nat.le_refl _)]
theorem tabL_len (w:L.Sq L.Want) (gr:Int):∀ k,(L.tabL w gr k).length=k
 | 0=>rfl
 | k+1=>by rw [L.tabL,List.length_append,tabL_len w gr k];rfl
theorem tabL_pre (w:L.Sq L.Want) (gr:Int):∀ k m,m <= k -> ∀ j,j<m->(L.tabL w gr k).getD j []=(L.tabL w gr m).getD j []
 | 0,m,h,j,hj=>by omega
 | k+1,m,h,j,hj=>by
   by_cases e:m=k+1
   ·rw [e]
   ·rw [<- tabL_pre w gr k m (by omega) j hj,L.tabL]
    simp only [List.getD_eq_getElem?_getD]
    rw [List.getElem?_append_left (by rw [tabL_len];omega)]
theorem tab_eq (w:L.Sq L.Want) (gr:Int) {g:Int} (h0:0 <= g) (h15:g <= 15):L.tab w gr g=L.entry w gr (L.tab w gr) g:=by
 obtain ⟨n,rfl⟩:=Int.eq_ofNat_of_zero_le h0
 have e1:L.tab w gr n=L.entry w gr (fun g=>(L.tabL w gr n).getD g.toNat []) n:=by
  unfold L.tab
  rw [Int.toNat_natCast,tabL_pre w gr 16 (n+1) (by omega) n (by omega),L.tabL]
  simp only [List.getD_eq_getElem?_getD]
  rw [List.getElem?_append_right (by rw [tabL_len];omega),tabL_len,Nat.sub_self];rfl
 rw [e1]
 refine entry_congr (by omega) h15 (fun p hp hpg=>?_)
 unfold L.tab
 rw [tabL_pre w gr 16 n (by omega) p.toNat (by omega)]
theorem tab_0 (w:L.Sq L.Want) (gr:Int):L.tab w gr 0 = [⟨0,0⟩]:=by
 rw [tab_eq w gr (by decide) (by decide)];rfl
theorem tab_1 (w:L.Sq L.Want) (gr:Int) {g:Int} (h:1 <= g) (h15:g <= 15) (h1:L.isOne g=true):L.tab w gr g=Cu.stair (L.oneC w gr (L.ix1 g)):=by
 rw [tab_eq w gr (by omega) h15]
 unfold L.entry
 rw [if_neg (by omega),if_pos h1]
theorem tab_2 (w:L.Sq L.Want) (gr:Int) {g:Int} (h:1 <= g) (h15:g <= 15) (h1:L.isOne g=false):L.tab w gr g=Cu.stair (L.psK (L.tab w gr) g (L.partN g)):=by
 rw [tab_eq w gr (by omega) h15]
 unfold L.entry
 rw [if_neg (by omega),if_neg (by rw [h1];decide)]
theorem ins_len (l:List L.Size) (s:L.Size):(Cu.ins l s).length <= l.length+1:=by
 unfold Cu.ins
 split
 ·omega
 ·rw [List.length_append,List.length_cons]
  have h:∀ l:List L.Size,(l.filter (fun x=>decide (x.w<s.w))).length+(l.filter (fun x=>decide (s.w<x.w) && !Cu.leB s x)).length <= l.length:=fun l=>by
   induction l with
   | nil=>simp
   | cons a l ih =>
     by_cases h1:a.w<s.w
     ·rw [List.filter_cons_of_pos (by simpa using h1),List.filter_cons_of_neg (by simp;omega),List.length_cons,List.length_cons];omega
     ·rw [List.filter_cons_of_neg (by simpa using h1),List.length_cons]
      have:=List.length_filter_le (fun x=>decide (s.w<x.w) && !Cu.leB s x) [a]
      rw [show a :: l = [a] ++ l from rfl,List.filter_append,List.length_append]
      simp at this;omega
  have:=h l
  omega
theorem stair_len (l:List L.Size):(Cu.stair l).length <= l.length:=by
 have h:∀ (l a:List L.Size),(l.foldl Cu.ins a).length <= a.length+l.length:=fun l=>by
  induction l with
  | nil=>intro a;simp
  | cons s l ih=>intro a;rw [List.foldl_cons,List.length_cons];have:=ih (Cu.ins a s);have:=ins_len a s;omega
 have:=h l []
 simpa [Cu.stair] using this
theorem ins_mem {l:List L.Size} {s x:L.Size} (h:x ∈ Cu.ins l s):x ∈ l\/x=s:=by
 unfold Cu.ins at h
 split at h
 ·exact .inl h
 ·rcases List.mem_append.1 h with h | h
  ·exact .inl (List.mem_filter.1 h).1
  ·rcases List.mem_cons.1 h with h | h
   ·exact .inr h
   ·exact .inl (List.mem_filter.1 h).1
theorem stair_mem {l:List L.Size} {x:L.Size} (h:x ∈ Cu.stair l):x ∈ l:=by
 have k:∀ (l a:List L.Size),x ∈ l.foldl Cu.ins a->x ∈ a\/x ∈ l:=fun l=>by
  induction l with
  | nil=>intro a h;exact .inl h
  | cons s l ih =>
    intro a h
    rcases ih _ h with h | h
    ·rcases ins_mem h with h | h
     ·exact .inl h
     ·exact .inr (h ▸ List.mem_cons_self ..)
    ·exact .inr (List.mem_cons_of_mem _ h)
 rcases k l [] h with h | h
 ·cases h
 ·exact h
theorem prs_len (A B:List L.Size):(L.prs A B).length=2 * (A.length * B.length):=by
 have h:∀ a:L.Size,(B.flatMap fun b=>L.mrg a b).length=2 * B.length:=fun a=>by
  induction B with
  | nil=>rfl
  | cons b B ih=>rw [List.flatMap_cons,List.length_append,ih,List.length_cons];show 2+_=_;omega
 unfold L.prs
 induction A with
 | nil=>simp
 | cons a A ih=>rw [List.flatMap_cons,List.length_append,h,ih,List.length_cons,Nat.add_mul];omega
def cbL:Nat->List Nat
 | 0=>[]
 | n+1=>let T:=cbL n;T ++ [if n=0 then 1 else if L.isOne n=true then 2 else ((List.range (L.partN n)).map fun k=>2 * (T.getD (L.part n k).toNat 0 * T.getD (L.cmp_ n k).toNat 0)).sum]
def cb (g:Int):Nat:=(cbL 16).getD g.toNat 0
def cbK (g:Int) (k:Nat):Nat:=((List.range k).map fun k=>2 * (cb (L.part g k) * cb (L.cmp_ g k))).sum
def chkC (n:Nat):Bool:=decide (cb n <= 2000) && (decide (n=0) || (if L.isOne n=true then decide (cb n=2) else decide (cb n=cbK n (L.partN n))))
theorem chkC_all:((List.range 16).all chkC)=true:=by kernel_rfl
theorem cb_le {g:Int} (h:0 <= g) (h':g <= 15):cb g <= 2000/\(1 <= g->L.isOne g=true->cb g=2)/\(1 <= g->L.isOne g=false->cb g=cbK g (L.partN g)):=by
 obtain ⟨n,rfl⟩:=Int.eq_ofNat_of_zero_le h
 have:=List.all_eq_true.1 chkC_all n (List.mem_range.2 (by omega))
 unfold chkC at this
 rw [Bool.and_eq_true,decide_eq_true_eq,Bool.or_eq_true,decide_eq_true_eq] at this
 obtain ⟨h1,h2⟩:=this
 refine ⟨h1,fun h3 h4=>?_,fun h3 h4=>?_⟩
 ·rcases h2 with h2 | h2
  ·omega
  ·rw [if_pos h4,decide_eq_true_eq] at h2;exact h2
 ·rcases h2 with h2 | h2
  ·omega
  ·rw [if_neg (by rw [h4];decide),decide_eq_true_eq] at h2;exact h2
theorem sum_succ (f:Nat->Nat) (k:Nat):((List.range (k+1)).map f).sum=((List.range k).map f).sum+f k:=by
 rw [List.range_succ,List.map_append,List.sum_append];simp
theorem cbK_succ (g:Int) (k:Nat):cbK g (k+1)=cbK g k+2 * (cb (L.part g k) * cb (L.cmp_ g k)):=sum_succ _ _
theorem cbK_mono (g:Int):∀ {k m},k <= m->cbK g k <= cbK g m:=fun {k m} h=>by
 induction m with
 | zero=>rw [show k=0 by omega];exact Nat.le_refl _
 | succ m ih =>
   by_cases e:k=m+1
   ·rw [e];exact Nat.le_refl _
   ·rw [cbK_succ];have:=ih (by omega);omega
structure TabOk (T:Int->List L.Size) (g:Int):Prop where
 len:(T g).length <= cb g
 bd:∀ s,s ∈ T g->0 <= s.w/\s.w <= 4096 * g/\0 <= s.h/\s.h <= 4096 * g
theorem prs_bd {A B:List L.Size} {p q g:Int} (hA:∀ s,s ∈ A->0 <= s.w/\s.w <= 4096 * p/\0 <= s.h/\s.h <= 4096 * p) (hB:∀ s,s ∈ B->0 <= s.w/\s.w <= 4096 * q/\0 <= s.h/\s.h <= 4096 * q) (e:p+q=g):∀ s,s ∈ L.prs A B->0 <= s.w/\s.w <= 4096 * g/\0 <= s.h/\s.h <= 4096 * g:=fun s hs=>by
 unfold L.prs at hs
 obtain ⟨a,ha,hs⟩:=List.mem_flatMap.1 hs
 obtain ⟨b,hb,hs⟩:=List.mem_flatMap.1 hs
 have h1:=hA a ha
 have h2:=hB b hb
 unfold L.mrg at hs
 rcases List.mem_cons.1 hs with rfl | hs
 ·simp only;omega
 ·rcases List.mem_cons.1 hs with rfl | hs
  ·simp only;omega
  ·cases hs
theorem box_bd2 (l:L.Sq L.Pt) (t:Int):0 <= (L.box l t).w/\(L.box l t).w <= 4096/\0 <= (L.box l t).h/\(L.box l t).h <= 4096:=by
 have hb:=box_bd l
 have hle:(L.boxL l).x <= (L.boxH l).x/\(L.boxL l).y <= (L.boxH l).y:=by
  unfold L.boxL L.boxH
  cases hv:L.validOutline l with
  | false=>exact ⟨Int.le_refl _,Int.le_refl _⟩
  | true =>
    obtain ⟨n3,_,_,_⟩:=validOutline_of hv
    simp only [cond_true]
    have h1:=lowTo_le (l:=l) l.n 0 (by omega)
    have h2:=highTo_ge (l:=l) l.n 0 (by omega)
    omega
 unfold L.box
 cases decide (t=1) <;> simp only [cond_true,cond_false] <;> omega
theorem psK_ok {T:Int->List L.Size} {g:Int} (hT:∀ p,0 <= p->p<g->TabOk T p) (hp:∀ k,k<L.partN g->0<L.part g k/\L.part g k<g/\0<L.cmp_ g k/\L.cmp_ g k<g/\L.part g k+L.cmp_ g k=g):∀ k,k <= L.partN g->(L.psK T g k).length <= cbK g k /\ ∀ s,s ∈ L.psK T g k->0 <= s.w/\s.w <= 4096 * g/\0 <= s.h/\s.h <= 4096 * g
 | 0,_=>⟨Nat.zero_le _,fun s hs=>by cases hs⟩
 | k+1,hk=>by
   obtain ⟨h1,h2⟩:=psK_ok hT hp k (by omega)
   obtain ⟨p1,p2,p3,p4,p5⟩:=hp k (by omega)
   have hA:=hT _ (Int.le_of_lt p1) p2
   have hB:=hT _ (Int.le_of_lt p3) p4
   rw [L.psK]
   refine ⟨?_,fun s hs=>?_⟩
   ·rw [List.length_append,prs_len,cbK_succ]
    have:=Nat.mul_le_mul hA.len hB.len
    omega
   ·rcases List.mem_append.1 hs with hs | hs
    ·exact h2 s hs
    ·exact prs_bd hA.bd hB.bd p5 s hs
theorem oneC_len (w:L.Sq L.Want) (gr:Int) (i:Nat):(L.oneC w gr i).length <= 2:=by
 unfold L.oneC
 rw [List.length_map]
 exact List.length_filter_le _ _
theorem tab_ok (w:L.Sq L.Want) (gr:Int):∀ (n:Nat),n <= 15->TabOk (L.tab w gr) n:=by
 intro n
 induction n using Nat.strongRecOn with
 | _ n ih =>
   intro hn
   by_cases h0:n=0
   ·subst h0
    refine ⟨by rw [show ((0:Nat):Int)=0 from rfl,tab_0];decide,fun s hs=>?_⟩
    rw [show ((0:Nat):Int)=0 from rfl,tab_0] at hs
    rw [List.mem_singleton.1 hs];decide
   have hc:=cb_le (g:=n) (by omega) (by omega)
   cases h1:L.isOne n with
   | true =>
     have e:=tab_1 w gr (g:=n) (by omega) (by omega) h1
     refine ⟨?_,fun s hs=>?_⟩
     ·rw [e,hc.2.1 (by omega) h1]
      exact Nat.le_trans (stair_len _) (oneC_len _ _ _)
     ·rw [e] at hs
      have hs:=stair_mem hs
      unfold L.oneC at hs
      obtain ⟨t,_,rfl⟩:=List.mem_map.1 hs
      have:=box_bd2 (w.g (L.ix1 n)).ol t
      omega
   | false =>
     have e:=tab_2 w gr (g:=n) (by omega) (by omega) h1
     obtain ⟨h2,h3⟩:=psK_ok (T:=L.tab w gr) (g:=n) (fun p hp hpn=>by
      obtain ⟨m,rfl⟩:=Int.eq_ofNat_of_zero_le hp
      exact ih m (by omega) (by omega)) (grp_prt (by omega) (by omega) h1).2 _ (Nat.le_refl _)
     refine ⟨?_,fun s hs=>?_⟩
     ·rw [e,hc.2.2 (by omega) h1]
      exact Nat.le_trans (stair_len _) h2
     ·rw [e] at hs
      exact h3 s (stair_mem hs)
theorem tab_okI (w:L.Sq L.Want) (gr:Int) {g:Int} (h:0 <= g) (h':g <= 15):TabOk (L.tab w gr) g:=by
 obtain ⟨n,rfl⟩:=Int.eq_ofNat_of_zero_le h
 exact tab_ok w gr n (by omega)
theorem scan_eq {n:Nat} {f u:Nat->L.Size} (h:SortedBy L.cmpSz n f u):L.scan u n=Cu.stair ((List.range n).map f):=by
 have e:∀ k,L.scan u k=Cu.scan [] ((List.range k).map u):=fun k=>by
  have step:∀ (l:List L.Size) (x:L.Size) (out:List L.Size),Cu.scan out (l ++ [x])=(match (Cu.scan out l).getLast? with | none=>Cu.scan out l ++ [x] | some y=>if x.h<y.h then Cu.scan out l ++ [x] else Cu.scan out l):=fun l x=>by
   induction l with
   | nil=>intro out;simp only [List.nil_append,Cu.scan]
   | cons a l ih=>intro out;simp only [List.cons_append,Cu.scan];exact ih _
  induction k with
  | zero=>rfl
  | succ k ih=>rw [L.scan,List.range_succ,List.map_append,List.map_singleton,step,<- ih];all_goals (cases (L.scan u k).getLast? <;> rfl)
 rw [e]
 refine Cu.scan_stair ?_ h.perm
 unfold Cu.Asc
 rw [List.pairwise_iff_getElem]
 intro i j hi hj hij
 simp only [List.length_map,List.length_range] at hi hj
 have:=h.asc i j hij hj
 simp only [List.getElem_map,List.getElem_range]
 rw [cmpSz_lt] at this
 omega
theorem stair_stair (l:List L.Size):Cu.stair (Cu.stair l)=Cu.stair l:=Cu.stair_congr (Cu.stair_ok l).2
theorem stair_app (l m:List L.Size):Cu.stair (Cu.stair l ++ m)=Cu.stair (l ++ m):=Cu.stair_congr ((Cu.stair_ok l).2.append (Cu.Same.refl m))
theorem sqS_range (l:List L.Size):(List.range l.length).map (L.sqS l).g=l:=by
 apply List.ext_getElem
 ·simp
 ·intro i h1 h2
  simp [L.sqS,List.getD_eq_getElem?_getD,h2]
end Go.Proofs.YtpgaejicfbpcmaaGreat
