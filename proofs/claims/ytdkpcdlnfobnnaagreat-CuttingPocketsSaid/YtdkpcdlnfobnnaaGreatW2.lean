/- Parts of the proof that the text of the row joins: a symbolic walk over the model. -/
import Derived.Test.YtdkpcdlnfobnnaaGreatW1
import Derived.Test.YtdkpcdlnfobnnaaGreatE5
import Derived.KernelRfl
open List renaming getD_eq_getElem?_getD->AS,getElem?_eq_getElem->Ahz,map->AhK,pairwise_iff_getElem->Aij,nodup_iff_pairwise_ne->Aja
open Nat renaming not_lt_zero->oE,zero_le->rH,le_refl->Ah0,lt_succ_iff_lt_or_eq->Ah6,zero_add->AhO,lt_succ_self->Aiu,eq_zero_or_pos->AiA,lt_trichotomy->AiE
open Bool renaming and_eq_true->pR,or_eq_false_iff->AhJ,or_eq_true->Aie
open Int renaming toNat_natCast->Ah7,toNat->AhD,tmod_eq_emod_of_nonneg->AhM,natCast_nonneg->AhN,tmod->AhQ,le_refl->AhV,emod_eq_of_lt->Aic,add_emod_right->Ail,tmod_lt_of_pos->Aiq,tmod_eq_of_lt->AiU
namespace Go.Proofs.YtdkpcdlnfobnnaaGreat
open Go.SE Go.RowKit Tryz
set_option maxRecDepth 100000
set_option maxHeartbeats 4000000
set_option linter.unusedVariables false
attribute [local irreducible] vc
def BY (n:Nat) (i:Int):Nat:=(AhQ (AhQ i (n:Int)+(n:Int)) (n:Int)).toNat
theorem XM {m n:Int} (h0:0<=m) (h1:m<n):AhQ (m+n) n=m:=by
 rw[AhM (by omega),Ail,Aic h0 h1]
theorem Oa {n k:Nat} (h:k<n):BY n (k:Int)=k:=by
 unfold BY;rw[AiU (show 0<=(k:Int)by omega) (show(k:Int)<n by omega),XM (by omega) (by omega)];omega
theorem My {n k:Nat} (h:k<n):BY n ((k:Int)+1)=BO n k:=by
 unfold BY BO
 by_cases e:k+1<n
 ·rw[AiU (show 0<=(k:Int)+1 by omega) (show(k:Int)+1<n by omega),XM (by omega) (by omega)]
 ·rw[show(k:Int)+1=(n:Int)by omega,Int.tmod_self,Int.zero_add,Int.tmod_self]
theorem XN {n k:Nat} (h:k<n):BY n ((k:Int)-1)=Ew n k:=by
 unfold BY Ew
 by_cases e:1<=k
 ·rw[AiU (show 0<=(k:Int)-1 by omega) (show(k:Int)-1<n by omega),show(k:Int)+(n:Int)-1=(k:Int)-1+n by omega]
 ·obtain rfl:k=0:=by omega
  by_cases e1:n=1
  ·subst e1;rfl
  ·rw[show((0:Nat):Int)-1 = -(1:Int)by omega,Int.neg_tmod,AiU (show 0<=(1:Int)by omega) (show(1:Int)<n by omega),show -(1:Int)+(n:Int)=((0:Nat):Int)+(n:Int)-1 by omega]
theorem QQ {n:Nat} {i:Int} (h:0<n):0<=AhQ i (n:Int)+(n:Int)/\AhQ i (n:Int)+(n:Int)<=2*(n:Int)/\0<=AhQ (AhQ i (n:Int)+(n:Int)) (n:Int)/\AhQ (AhQ i (n:Int)+(n:Int)) (n:Int)<(n:Int):=by
 have h1:=Int.lt_tmod_of_pos i (show 0<(n:Int)by omega);have h2:=Aiq i (show 0<(n:Int)by omega);exact⟨by omega,by omega,Int.tmod_nonneg _ (by omega),Aiq _ (by omega)⟩
theorem zL {n:Nat} {i:Int} (h:0<n):BY n i<n:=by
 have:=QQ (i:=i) h;unfold BY;omega
theorem zM {a b:L.Pt}:decide (BZ a b<0)=(bif decide (a.x<b.x)then true else bif decide (a.x=b.x)then decide (a.y<b.y)else false):=by
 unfold BZ HQ B0;rcases Int.lt_trichotomy a.x b.x with h1|h1|h1<;>rcases Int.lt_trichotomy a.y b.y with h2|h2|h2<;>grind
theorem XO {n:Nat} {a:Int} (h:0<n):((BY n a:Nat):Int)=a % (n:Int):=by
 obtain⟨q1,q2,q3,q4⟩:=QQ (i:=a) h;unfold BY;rw[Int.toNat_of_nonneg q3,AhM q1,Ail];have:=Int.tmod_add_mul_tdiv a (n:Int)
 conv=>rhs;rw[<- this]
 rw[Int.add_mul_emod_self_left]
theorem Mz {l:L.Sq L.Pt} (hv:Am l=true):(∀i,i<l.n->B4 (l.g i)=true)/\∀i,i<l.n->Ay (l.g (Ew l.n i)) (l.g i) (l.g (BO l.n i))≠0:=by
 unfold Am at hv;rw[pR,pR]at hv;constructor
 ·have h:=hv.1;unfold G8 at h;cases h2:DI l with
  |true=>exact C8.1 h2
  |false =>
    rw[h2]at h;revert h;cases AI (l.n:Int) 3 24<;>intro h<;>cases h
 ·intro i hi e;have h:=C8.1 hv.2.1 i hi;unfold EP at h;rw[decide_eq_true e]at h;cases h
def XP (p:L.Pt):Prop:=True
def XQ (p:L.Pt):SV:=.bool (B4 p)
def XR:List EV->Option (Prop×SV)
 |[.p (.agg [.int .i64 p_x,.int .i64 p_y])]=>some (XP (⟨p_x,p_y⟩:L.Pt),XQ (⟨p_x,p_y⟩:L.Pt))
 |_=>none
abbrev QR:SE.Spec:=(AM XR)
def zN:Aj:={ muts:=[],frz:=B9 [],specs:=AE [],loops:=AT [],iters:=BG [],rfs:=AQ [],nils:=B3 [] }
theorem zO (p:L.Pt) (hp:XP p):vc prog (zN) (Ae f45) (Ao f45 [.p (.agg [.int .i64 p.x,.int .i64 p.y])]) (AL prog f45 (XQ p)):=
 @Eq.mpr _ ((bif bif bif decide ((0:Int)<=p.x)then decide (p.x<=(4096:Int))else false then decide ((0:Int)<=p.y)else false then decide (p.y<=(4096:Int))else false)=B4 p) (by kernel_rfl) (by
 unfold B4 AI;rw[GX,GX,GX];cases decide (0<=p.x)<;>cases decide (p.x<=4096)<;>cases decide (0<=p.y)<;>cases decide (p.y<=4096)<;>rfl)
theorem XS:Az prog 45 QR:=AN func45 (c:=Ae f45) (by kernel_rfl) mixed (fun _ _ _ hs hp=>by
 unfold XR at hs;split at hs
 ·cases hs;exact⟨_,_,zO _ hp,(.same _ .nil),⟨show Aa prog _ from Aa.nil,rfl,nz⟩⟩
 ·cases hs)
theorem XT:An prog 45:=fun _ _=>by kernel_rfl
def XU (l:L.Sq L.Pt):Prop:=l.n<=1000000
def XV (l:L.Sq L.Pt):SV:=.bool (DI l)
def XW:List EV->Option (Prop×SV)
 |[.p (.sl 2 l_n l_g)]=>some ((∀i,i<l_n->l_g i = [.int .i64 (Ad (l_g i)).x,.int .i64 (Ad (l_g i)).y])/\XU ⟨l_n,fun i=>Ad (l_g i)⟩,XV ⟨l_n,fun i=>Ad (l_g i)⟩)
 |_=>none
abbrev QS:SE.Spec:=(AM XW)
def zP:Aj:={ cC with specs:=AE [(45,QR)] }
theorem zQ (l:L.Sq L.Pt) (hp:XU l):vc prog ({ zP with loops:=AT [(2,{ T:=Nat,keep:=[0],keepO:=[],chg:=fun i=>[(3,.p (.int .i64 (i:Int)))],own:=fun _=>[],inv:=fun i=>i<=l.n/\∀j,j<i->B4 (l.g j)=true,mu:=fun i=>l.n-i })]}) (Ae f29) (Ao f29 [.p (.sl 2 l.n (fun i=>[.int .i64 (l.g i).x,.int .i64 (l.g i).y]))]) (AL prog f29 (XV l)):=
 @Eq.mpr _ (let A4:=(↑l.n:Int);(∃(g:Nat),0=(↑g:Int)/\g<=l.n/\∀(j:Nat),j<g->B4 (l.g j)=true)/\∀(g:Nat),let A2:=(↑g:Int);let A3:=(!B4 (l.g (AhD A2)));(g<=l.n/\∀(j:Nat),j<g->B4 (l.g j)=true)->(decide (A2<A4)=true->(0<=A2/\A2<A4)/\True/\(A3=true->false=DI l)/\(A3=false->Ab .i64 (A2+(1:Int))/\∃(g':Nat),A2+1=(↑g':Int)/\(l.n=l.n/\∀(i:Nat),let A1:=[SV.int .i64 (l.g i).x,SV.int .i64 (l.g i).y];i<l.n->A1=A1)/\(g'<=l.n/\∀(j:Nat),j<g'->B4 (l.g j)=true)/\l.n-g'<l.n-g))/\(decide (A2<A4)=false->true=DI l)) (by kernel_rfl) (by
 conv=>zeta
 have hn:l.n<=1000000:=hp;refine⟨⟨(0:Nat),rfl,rH _,fun j hj=>absurd hj (oE _)⟩,fun g hg=>⟨fun hlt=>?_,fun hge=>?_⟩⟩
 ·have hb:(g:Int)<(l.n:Int):=of_decide_eq_true hlt;have e0:((g:Int)).toNat=g:=by omega
  rw[e0];refine⟨by omega,trivial,fun h1=>?_,fun h1=>?_⟩
  ·unfold DI;rw[G6 (i:=g) (by omega) (CC h1)]
  ·exact⟨jK, g+1, by omega, ⟨rfl, fun _ _ =>rfl⟩, ⟨by omega, fun j hj =>by
   rcases Ah6.1 hj with h'|rfl
   ·exact hg.2 j h'
   ·exact B5 h1⟩,by omega⟩
 ·have hb:¬ (g:Int)<(l.n:Int):=of_decide_eq_false hge;exact(C8.2 (fun i hi=>hg.2 i (by omega))).symm)
theorem XX:Az prog 29 QS:=AN func29 (c:=Ae f29) (by kernel_rfl) mixed (fun _ _ _ hs hp=>by
 unfold XW at hs;split at hs
 ·cases hs;exact⟨_,_,zQ _ hp.2,(.p (.sl hp.1) .nil),⟨show Aa prog _ from(Aa.cons XS XT Aa.nil),rfl,nz⟩⟩
 ·cases hs)
theorem XY:An prog 29:=fun _ _=>by kernel_rfl
def XZ (a:L.Pt) (b:L.Pt) (c:L.Pt):Prop:=As a/\As b/\As c
def Ya (a:L.Pt) (b:L.Pt) (c:L.Pt):SV:=.int .i64 (Ay a b c)
def Yb:List EV->Option (Prop×SV)
 |[.p (.agg [.int .i64 a_x,.int .i64 a_y]),.p (.agg [.int .i64 b_x,.int .i64 b_y]),.p (.agg [.int .i64 c_x,.int .i64 c_y])]=>some (XZ (⟨a_x,a_y⟩:L.Pt) (⟨b_x,b_y⟩:L.Pt) (⟨c_x,c_y⟩:L.Pt),Ya (⟨a_x,a_y⟩:L.Pt) (⟨b_x,b_y⟩:L.Pt) (⟨c_x,c_y⟩:L.Pt))
 |_=>none
abbrev IG:SE.Spec:=(AM Yb)
def zR:Aj:={ muts:=[],frz:=B9 [],specs:=AE [],loops:=AT [],iters:=BG [],rfs:=AQ [],nils:=B3 [] }
theorem zS (a:L.Pt) (b:L.Pt) (c:L.Pt) (hp:XZ a b c):vc prog (zR) (Ae f12) (Ao f12 [.p (.agg [.int .i64 a.x,.int .i64 a.y]),.p (.agg [.int .i64 b.x,.int .i64 b.y]),.p (.agg [.int .i64 c.x,.int .i64 c.y])]) (AL prog f12 (Ya a b c)):=
 @Eq.mpr _ (let A4:=(c.x-a.x);let A3:=(b.y-a.y);let A2:=(c.y-a.y);let A1:=(b.x-a.x);Ab .i64 A1/\Ab .i64 A2/\Ab .i64 (A1*A2)/\Ab .i64 A3/\Ab .i64 A4/\Ab .i64 (A3*A4)/\Ab .i64 (A1*A2-A3*A4)/\A1*A2-A3*A4=Ay a b c) (by kernel_rfl) (by
 conv=>zeta
 obtain⟨h1,h2,h3⟩:=hp;unfold As at h1 h2 h3;have m1:=Dd (a:=b.x-a.x) (b:=c.y-a.y) (m:=8000000) (n:=8000000) (by omega) (by omega) (by omega) (by omega);have m2:=Dd (a:=b.y-a.y) (b:=c.x-a.x) (m:=8000000) (n:=8000000) (by omega) (by omega) (by omega) (by omega);exact⟨jK,jK,jK,jK,jK,jK,jK,rfl⟩)
theorem J7:Az prog 12 IG:=AN func12 (c:=Ae f12) (by kernel_rfl) mixed (fun _ _ _ hs hp=>by
 unfold Yb at hs;split at hs
 ·cases hs;exact⟨_,_,zS _ _ _ hp,(.same _ (.same _ (.same _ .nil))),⟨show Aa prog _ from Aa.nil,rfl,nz⟩⟩
 ·cases hs)
theorem J8:An prog 12:=fun _ _=>by kernel_rfl
def Yc (a:L.Pt) (b:L.Pt):Prop:=As a/\As b
def Yd (a:L.Pt) (b:L.Pt):SV:=.int .i64 (DB a b)
def Ye:List EV->Option (Prop×SV)
 |[.p (.agg [.int .i64 a_x,.int .i64 a_y]),.p (.agg [.int .i64 b_x,.int .i64 b_y])]=>some (Yc (⟨a_x,a_y⟩:L.Pt) (⟨b_x,b_y⟩:L.Pt),Yd (⟨a_x,a_y⟩:L.Pt) (⟨b_x,b_y⟩:L.Pt))
 |_=>none
abbrev QT:SE.Spec:=(AM Ye)
def zT:Aj:={ muts:=[],frz:=B9 [],specs:=AE [],loops:=AT [],iters:=BG [],rfs:=AQ [],nils:=B3 [] }
theorem zU (a:L.Pt) (b:L.Pt) (hp:Yc a b):vc prog (zT) (Ae f72) (Ao f72 [.p (.agg [.int .i64 a.x,.int .i64 a.y]),.p (.agg [.int .i64 b.x,.int .i64 b.y])]) (AL prog f72 (Yd a b)):=
 @Eq.mpr _ (let A2:=(a.y-b.y);let A1:=(a.x-b.x);Ab .i64 A1/\Ab .i64 A1/\Ab .i64 (A1*A1)/\Ab .i64 A2/\Ab .i64 A2/\Ab .i64 (A2*A2)/\Ab .i64 (A1*A1+A2*A2)/\A1*A1+A2*A2=DB a b) (by kernel_rfl) (by
 conv=>zeta
 obtain⟨h1,h2⟩:=hp;unfold As at h1 h2;have m1:=Dd (a:=a.x-b.x) (b:=a.x-b.x) (m:=8000000) (n:=8000000) (by omega) (by omega) (by omega) (by omega);have m2:=Dd (a:=a.y-b.y) (b:=a.y-b.y) (m:=8000000) (n:=8000000) (by omega) (by omega) (by omega) (by omega);refine⟨jK,jK,jK,jK,jK,jK,jK,?_⟩;unfold DB;rw[show a.x-b.x = -(b.x-a.x)by omega,show a.y-b.y = -(b.y-a.y)by omega,Int.neg_mul_neg,Int.neg_mul_neg])
theorem Yf:Az prog 72 QT:=AN func72 (c:=Ae f72) (by kernel_rfl) mixed (fun _ _ _ hs hp=>by
 unfold Ye at hs;split at hs
 ·cases hs;exact⟨_,_,zU _ _ hp,(.same _ (.same _ .nil)),⟨show Aa prog _ from Aa.nil,rfl,nz⟩⟩
 ·cases hs)
theorem Yg:An prog 72:=fun _ _=>by kernel_rfl
def Yh (a:L.Pt) (b:L.Pt):Prop:=True
def Yi (a:L.Pt) (b:L.Pt):SV:=.bool (decide (BZ a b<0))
def Yj:List EV->Option (Prop×SV)
 |[.p (.agg [.int .i64 a_x,.int .i64 a_y]),.p (.agg [.int .i64 b_x,.int .i64 b_y])]=>some (Yh (⟨a_x,a_y⟩:L.Pt) (⟨b_x,b_y⟩:L.Pt),Yi (⟨a_x,a_y⟩:L.Pt) (⟨b_x,b_y⟩:L.Pt))
 |_=>none
abbrev QU:SE.Spec:=(AM Yj)
def zV:Aj:={ muts:=[],frz:=B9 [],specs:=AE [],loops:=AT [],iters:=BG [],rfs:=AQ [],nils:=B3 [] }
theorem zW (a:L.Pt) (b:L.Pt) (hp:Yh a b):vc prog (zV) (Ae f32) (Ao f32 [.p (.agg [.int .i64 a.x,.int .i64 a.y]),.p (.agg [.int .i64 b.x,.int .i64 b.y])]) (AL prog f32 (Yi a b)):=
 @Eq.mpr _ ((bif decide (a.x<b.x)then true else bif decide (a.x=b.x)then decide (a.y<b.y)else false)=decide (BZ a b<(0:Int))) (by kernel_rfl) (by
 exact zM.symm)
theorem Yk:Az prog 32 QU:=AN func32 (c:=Ae f32) (by kernel_rfl) mixed (fun _ _ _ hs hp=>by
 unfold Yj at hs;split at hs
 ·cases hs;exact⟨_,_,zW _ _ hp,(.same _ (.same _ .nil)),⟨show Aa prog _ from Aa.nil,rfl,nz⟩⟩
 ·cases hs)
theorem Yl:An prog 32:=fun _ _=>by kernel_rfl
def Ym (a:L.Pt) (b:L.Pt) (p:L.Pt):Prop:=As a/\As b/\As p
def Yn (a:L.Pt) (b:L.Pt) (p:L.Pt):SV:=.bool (CR a b p)
def Yo:List EV->Option (Prop×SV)
 |[.p (.agg [.int .i64 a_x,.int .i64 a_y]),.p (.agg [.int .i64 b_x,.int .i64 b_y]),.p (.agg [.int .i64 p_x,.int .i64 p_y])]=>some (Ym (⟨a_x,a_y⟩:L.Pt) (⟨b_x,b_y⟩:L.Pt) (⟨p_x,p_y⟩:L.Pt),Yn (⟨a_x,a_y⟩:L.Pt) (⟨b_x,b_y⟩:L.Pt) (⟨p_x,p_y⟩:L.Pt))
 |_=>none
abbrev Yp:SE.Spec:=(AM Yo)
def zX:Aj:={ cC with specs:=AE [(12,IG)] }
theorem zY (a:L.Pt) (b:L.Pt) (p:L.Pt) (hp:Ym a b p):vc prog (zX) (Ae f118) (Ao f118 [.p (.agg [.int .i64 a.x,.int .i64 a.y]),.p (.agg [.int .i64 b.x,.int .i64 b.y]),.p (.agg [.int .i64 p.x,.int .i64 p.y])]) (AL prog f118 (Yn a b p)):=
 @Eq.mpr _ ((As a/\As b/\As p)/\(bif bif bif bif decide (Ay a b p=(0:Int))then decide (Min.min a.x b.x<=p.x)else false then decide (p.x<=Max.max a.x b.x)else false then decide (Min.min a.y b.y<=p.y)else false then decide (p.y<=Max.max a.y b.y)else false)=CR a b p) (by kernel_rfl) (by
 obtain⟨h1,h2,h3⟩:=hp;refine⟨⟨h1,h2,h3⟩,?_⟩;unfold CR AI;rw[GX,GX,GX,GX];cases decide (Ay a b p=0)<;>cases decide (min a.x b.x<=p.x)<;>cases decide (p.x<=max a.x b.x)<;>cases decide (min a.y b.y<=p.y)<;>cases decide (p.y<=max a.y b.y)<;>rfl)
theorem zZ:Az prog 118 Yp:=AN func118 (c:=Ae f118) (by kernel_rfl) mixed (fun _ _ _ hs hp=>by
 unfold Yo at hs;split at hs
 ·cases hs;exact⟨_,_,zY _ _ _ hp,(.same _ (.same _ (.same _ .nil))),⟨show Aa prog _ from(Aa.cons J7 J8 Aa.nil),rfl,nz⟩⟩
 ·cases hs)
theorem Aaa:An prog 118:=fun _ _=>by kernel_rfl
def Yq (n:Int):Prop:=True
def Yr (n:Int):SV:=.int .i64 (B0 n 0)
def Ys:List EV->Option (Prop×SV)
 |[.p (.int .i64 n)]=>some (Yq n,Yr n)
 |_=>none
abbrev QV:SE.Spec:=(AM Ys)
def Aab:Aj:={ muts:=[],frz:=B9 [],specs:=AE [],loops:=AT [],iters:=BG [],rfs:=AQ [],nils:=B3 [] }
theorem Aac (n:Int) (hp:Yq n):vc prog (Aab) (Ae f119) (Ao f119 [.p (.int .i64 n)]) (AL prog f119 (Yr n)):=
 @Eq.mpr _ ((decide ((0:Int)<n)=true->(1:Int)=B0 n (0:Int))/\(decide ((0:Int)<n)=false->(decide (n<(0:Int))=true->(-1:Int)=B0 n (0:Int))/\(decide (n<(0:Int))=false->(0:Int)=B0 n (0:Int)))) (by kernel_rfl) (by
 refine⟨fun h=>?_,fun h=>⟨fun h1=>?_,fun h1=>?_⟩⟩
 ·have h:=of_decide_eq_true h;unfold B0;rw[decide_eq_false (by omega),decide_eq_true h];rfl
 ·have h1:=of_decide_eq_true h1;unfold B0;rw[decide_eq_true h1];rfl
 ·unfold B0;rw[h1,h];rfl)
theorem Yt:Az prog 119 QV:=AN func119 (c:=Ae f119) (by kernel_rfl) mixed (fun _ _ _ hs hp=>by
 unfold Ys at hs;split at hs
 ·cases hs;exact⟨_,_,Aac _ hp,(.same _ .nil),⟨show Aa prog _ from Aa.nil,rfl,nz⟩⟩
 ·cases hs)
theorem Yu:An prog 119:=fun _ _=>by kernel_rfl
def Yv (l:L.Sq L.Pt) (i:Int):Prop:=1<=l.n/\l.n<=1000000 /\ -1000000<=i/\i<=1000000
def Yw (l:L.Sq L.Pt) (i:Int):SV:=(.agg [.int .i64 (l.g (BY l.n i)).x,.int .i64 (l.g (BY l.n i)).y])
def Yx:List EV->Option (Prop×SV)
 |[.p (.sl 2 l_n l_g),.p (.int .i64 i)]=>some ((∀i,i<l_n->l_g i = [.int .i64 (Ad (l_g i)).x,.int .i64 (Ad (l_g i)).y])/\Yv ⟨l_n,fun i=>Ad (l_g i)⟩ i,Yw ⟨l_n,fun i=>Ad (l_g i)⟩ i)
 |_=>none
abbrev J9:SE.Spec:=(AM Yx)
def Aad:Aj:={ muts:=[],frz:=B9 [],specs:=AE [],loops:=AT [],iters:=BG [],rfs:=AQ [],nils:=B3 [] }
theorem Aae (l:L.Sq L.Pt) (i:Int) (hp:Yv l i):vc prog (Aad) (Ae f33) (Ao f33 [.p (.sl 2 l.n (fun i=>[.int .i64 (l.g i).x,.int .i64 (l.g i).y])),.p (.int .i64 i)]) (AL prog f33 (Yw l i)):=
 @Eq.mpr _ (let M:=AhQ;let A1:=(↑l.n:Int);let A2:=(M i A1+A1);let A3:=(l.g (AhD (M A2 A1)));A1≠(0:Int)/\Ab .i64 A2/\A1≠(0:Int)/\((0:Int)<=M A2 A1/\M A2 A1<A1)/\SV.agg [SV.int .i64 A3.x,SV.int .i64 A3.y]=SV.agg [SV.int .i64 (l.g (BY l.n i)).x,SV.int .i64 (l.g (BY l.n i)).y]) (by kernel_rfl) (by
 conv=>zeta
 obtain⟨h1,h2,h3,h4⟩:=hp;obtain⟨q1,q2,q3,q4⟩:=QQ (n:=l.n) (i:=i) (by omega);exact⟨by omega,jK,by omega,⟨q3,q4⟩,rfl⟩)
theorem KI:Az prog 33 J9:=AN func33 (c:=Ae f33) (by kernel_rfl) mixed (fun _ _ _ hs hp=>by
 unfold Yx at hs;split at hs
 ·cases hs;exact⟨_,_,Aae _ _ hp.2,(.p (.sl hp.1) (.same _ .nil)),⟨show Aa prog _ from Aa.nil,rfl,nz⟩⟩
 ·cases hs)
theorem KJ:An prog 33:=fun _ _=>by kernel_rfl
def Yy (l:L.Sq L.Pt):Prop:=EN l
def Yz (l:L.Sq L.Pt):SV:=.int .i64 (BT l l.n)
def Y0:List EV->Option (Prop×SV)
 |[.p (.sl 2 l_n l_g)]=>some ((∀i,i<l_n->l_g i = [.int .i64 (Ad (l_g i)).x,.int .i64 (Ad (l_g i)).y])/\Yy ⟨l_n,fun i=>Ad (l_g i)⟩,Yz ⟨l_n,fun i=>Ad (l_g i)⟩)
 |_=>none
abbrev QW:SE.Spec:=(AM Y0)
def Aaf:Aj:={ cC with specs:=AE [(33,J9)] }
theorem Aag (l:L.Sq L.Pt) (hp:Yy l):vc prog ({ Aaf with loops:=AT [(3,{ T:=Nat,keep:=[0],keepO:=[],chg:=fun i=>[(3,.p (.int .i64 (BT l i))),(4,.p (.int .i64 (i:Int)))],own:=fun _=>[],inv:=fun i=>i<=l.n,mu:=fun i=>l.n-i })]}) (Ae f31) (Ao f31 [.p (.sl 2 l.n (fun i=>[.int .i64 (l.g i).x,.int .i64 (l.g i).y]))]) (AL prog f31 (Yz l)):=
 @Eq.mpr _ (let I:=SV.int .i64;let A6:=(1:Int);let A4:=(∀(i:Nat),let A7:=[I (l.g i).x,I (l.g i).y];i<l.n->A7=A7);(∃(g:Nat),(0:Int)=BT l g/\0=(↑g:Int)/\g<=l.n)/\∀(g:Nat),let A3:=(↑g:Int);let A5:=(l.g (BY l.n A3));let A2:=(l.g (BY l.n (A3+A6)));let A1:=(A5.x*A2.y-A2.x*A5.y);g<=l.n->(decide (A3<(↑l.n
:Int))=true->(A4/\(1:Nat)<=l.n/\l.n<=1000000/\(-1000000:Int)<=A3/\A3<=1000000)/\Ab .i64 (A3+A6)/\(A4/\(1:Nat)<=l.n/\l.n<=1000000/\(-1000000:Int)<=A3+A6/\A3+A6<=1000000)/\Ab .i64 (A5.x*A2.y)/\Ab .i64 (A2.x*A5.y)/\Ab .i64 A1/\Ab .i64
 (BT l g+A1)/\Ab .i64 (A3+A6)/\∃(g':Nat),BT l g+A1=BT l g'/\A3+A6=(↑g':Int)/\(l.n=l.n/\∀(i:Nat),let A8:=[I (l.g i).x,I (l.g i).y];i<l.n->A8=A8)/\g'<=l.n/\l.n-g'<l.n-g)/\(decide (A3<(↑l.n:Int))=false->BT l g=BT l l.n)) (by kernel_rfl) (by
  conv=>zeta
  have hs:EN l:=hp;have hn:=hs.1;refine⟨⟨(0:Nat),rfl,rfl,rH _⟩,fun g hg=>⟨fun hlt=>?_,fun hge=>?_⟩⟩
  ·have hb:(g:Int)<(l.n:Int):=of_decide_eq_true hlt;have hk:g<l.n:=by omega
   rw[Oa hk,My hk];have b1:=Qt hs hk;have b2:=NL hs g hg;exact⟨⟨zr,by omega,by omega,by omega,by omega⟩,jK,⟨zr,by omega,by omega,by omega,by omega⟩,jK,jK,jK,jK,jK,g+1,rfl,by omega,rz,by omega,by omega⟩
  ·have hb:¬ (g:Int)<(l.n:Int):=of_decide_eq_false hge;obtain rfl:g=l.n:=by omega
   rfl)
theorem Y1:Az prog 31 QW:=AN func31 (c:=Ae f31) (by kernel_rfl) mixed (fun _ _ _ hs hp=>by
 unfold Y0 at hs;split at hs
 ·cases hs;exact⟨_,_,Aag _ hp.2,(.p (.sl hp.1) .nil),⟨show Aa prog _ from(Aa.cons KI KJ Aa.nil),rfl,nz⟩⟩
 ·cases hs)
theorem Y2:An prog 31:=fun _ _=>by kernel_rfl
def DE (a b c d:L.Pt) (i:Nat):L.Pt:=bif decide (i=0)then a else bif decide (i=1)then b else bif decide (i=2)then c else d
def ES (a b c d p:L.Pt):Bool:=CR a b p&&CR c d p
def Ca (a b c d:L.Pt):Nat->L.Sq L.Pt
 |0=>Q6
 |n+1=>G7 (ES a b c d (DE a b c d n)) (Ca a b c d n) (DE a b c d n)
theorem QX {a b:L.Pt}:CR a b a=true:=by
 unfold CR;rw[pR,pR,HS,HS];refine⟨⟨decide_eq_true ?_,by omega⟩,by omega⟩;unfold Ay;simp
theorem Y3 {a b:L.Pt}:CR a b b=true:=by
 unfold CR;rw[pR,pR,HS,HS];refine⟨⟨decide_eq_true ?_,by omega⟩,by omega⟩;unfold Ay;rw[Int.mul_comm];omega
theorem Aah {a b c d:L.Pt}:Ca a b c d 4=Dt a b c d 2:=by
 have h1:ES a b c d a=CR c d a:=by unfold ES;rw[QX];rfl
 have h2:ES a b c d b=CR c d b:=by unfold ES;rw[Y3];rfl
 have h3:ES a b c d c=CR a b c:=by unfold ES;rw[QX (a:=c),Bool.and_true]
 have h4:ES a b c d d=CR a b d:=by unfold ES;rw[Y3 (a:=c),Bool.and_true]
 show G7 (ES a b c d d) (G7 (ES a b c d c) (G7 (ES a b c d b) (G7 (ES a b c d a) Q6 a) b) c) d=_;rw[h1,h2,h3,h4];rfl
theorem Aai (p q:L.Pt):Bh p q=Bh q p:=by
 unfold Bh;rw[show decide (p.x=q.x)=decide (q.x=p.x)from by by_cases h:p.x=q.x<;>simp[h,eq_comm],show decide (p.y=q.y)=decide (q.y=p.y)from by by_cases h:p.y=q.y<;>simp[h,eq_comm]]
theorem Aaj {ks:L.Sq L.Pt} {p:L.Pt}:(FP ks p).n<=ks.n+1:=by
 unfold FP;cases J2 ks p
 ·exact Ah0 _
 ·exact Nat.le_succ _
theorem Y4 {a b c d:L.Pt}:∀{i:Nat},(Ca a b c d i).n<=i
 |0=>Ah0 _
 |i+1=>by
   have ih:=Y4 (a:=a) (b:=b) (c:=c) (d:=d) (i:=i);rw[Ca];cases ES a b c d (DE a b c d i)
   ·exact Nat.le_trans ih (Nat.le_succ _)
   ·exact Nat.le_trans Aaj (Nat.succ_le_succ ih)
theorem Aak {l:L.Sq L.Pt} {k:Nat}:(bif bif decide (0<(k:Int))then !decide (BZ (l.g 0) (l.g k)<0)else false then true else decide (Ay (l.g (Ew l.n k)) (l.g k) (l.g (BO l.n k))=0))= !EP l k:=by
 unfold EP;have:decide (0<=BZ (l.g 0) (l.g k))= !decide (BZ (l.g 0) (l.g k)<0):=by
  by_cases h:BZ (l.g 0) (l.g k)<0
  ·rw[decide_eq_true h,decide_eq_false (by omega)];rfl
  ·rw[decide_eq_false h,decide_eq_true (by omega)];rfl
 rw[this,Bool.not_not];cases decide (0<(k:Int))<;>cases decide (BZ (l.g 0) (l.g k)<0)<;>cases decide (Ay (l.g (Ew l.n k)) (l.g k) (l.g (BO l.n k))=0)<;>rfl
def Y5 (a:L.Pt) (b:L.Pt) (c:L.Pt) (d:L.Pt):Prop:=As a/\As b/\As c/\As d
def Y6 (a:L.Pt) (b:L.Pt) (c:L.Pt) (d:L.Pt):SV:=.int .i64 (CY a b c d)
def Y7:List EV->Option (Prop×SV)
 |[.p (.agg [.int .i64 a_x,.int .i64 a_y]),.p (.agg [.int .i64 b_x,.int .i64 b_y]),.p (.agg [.int .i64 c_x,.int .i64 c_y]),.p (.agg [.int .i64 d_x,.int .i64 d_y])]=>some (Y5 (⟨a_x,a_y⟩:L.Pt) (⟨b_x,b_y⟩:L.Pt) (⟨c_x,c_y⟩:L.Pt) (⟨d_x,d_y⟩:L.Pt),Y6 (⟨a_x,a_y⟩:L.Pt) (⟨b_x,b_y⟩:L.Pt) (⟨c_x,c_y⟩:L.Pt) (⟨d_x,d_y⟩:L.Pt))
 |_=>none
abbrev Y8:SE.Spec:=(AM Y7)
def Aal:Aj:={ cC with specs:=AE [(118,Yp),(12,IG),(119,QV)],nils:=B3 [(2,[(9,20,39,2)])] }
theorem Aam (a:L.Pt) (b:L.Pt) (c:L.Pt) (d:L.Pt) (hp:Y5 a b c d):vc prog ({ Aal with loops:=AT [(4,{ T:=Nat,keep:=[4,5,6,7,9],keepO:=[],chg:=fun i=>[(10,.p (.sl 2 4 (fun j=>[.int .i64 (DE a b c d j).x,.int .i64 (DE a b c d j).y]))),(11,.p (.int .i64 (i:Int)))],own:=fun i=>[(20,.row 39 2 (Ca a b c d i).n (fun j=>[.int .i64 ((Ca a b c d i).g j).x,.int .i64 ((Ca a b c d i).g j).y]))],inv:=fun i=>i<=4,mu:=fun i=>4-i }),(9,{ T:=Nat×Nat,keep:=[4,5,6,7,9,10,11],keepO:=[],tie:=fun g=>[(11,.int .i64 (g.1:Int))],chg:=fun g=>[(12,.p (.bool (BH g.2 (fun j=>Bh ((Ca a b c d g.1).g j) (DE a b c d g.1))))),(13,.p (.int .i64 (g.2:Int)))],own:=fun g=>[(20,.row 39 2 (Ca a b c d g.1).n (fun j=>[.int .i64 ((Ca a b c d g.1).g j).x,.int .i64 ((Ca a b c d g.1).g j).y]))],inv:=fun g=>g.1<4/\g.2<=(Ca a b c d g.1).n,mu:=fun g=>(Ca a b c d g.1).n-g.2 })]}) (Ae f70) (Ao f70 [.p (.agg [.int .i64 a.x,.int .i64 a.y]),.p (.agg [.int .i64 b.x,.int .i64 b.y]),.p (.agg [.int .i64 c.x,.int .i64 c.y]),.p (.agg [.int .i64 d.x,.int .i64 d.y])]) (AL prog f70 (Y6 a b c d)):=
 @Eq.mpr _ (let I:=SV.int .i64;let T:=AhD;let A22:=(↑(nat_lit 4):Int);let A21:=(Ay a b d);let A20:=(Ay a b c);let A18:=(1:Int);let A17:=[I a.x,I a.y];let A16:=[I b.x,I b.y];let A15:=[I c.x,I c.y];let A14:=[I d.x,I d.y];let A11:=(4:Nat);let A6:=(0:Int);let A10:=(decide (B0 A20 A6*B0 A21 A6<A6)=true->True);let A7:=(bif decide (B0 A20 A6*B0 A21 A6<A6)then decide (B0 (Ay c d a) A6*B0 (Ay c d b) A6<A6)else false);let A5:=nat_lit 0;let A3:=(4=A11/\∀(i:Nat),let A23:=(DE a b c d i);i<4 -> [I A23.x,I A23.y]= [I A23.x,I A23.y]);(∃(g:Nat),let A30:=(Ca a b c d g);(4=A11/\∀(i:Nat),i<4->AD [I a.x,I a.y,I b.x,I b.y,I c.x,I c.y,I d.x,I d.y] 2 i = [I (DE a b c d i).x,I (DE a b c d i).y])/\A6=(↑g:Int)/\(0=A30.n/\∀(i:Nat),i<0 -> []= [I (A30.g i).x,I (A30.g i).y])/\g<=A11)/\∀(g:Nat),let A9:=(Ca a b c d g);let A26:=(↑A9.n:Int);let A8:=(↑g:Int);let A2:=(DE a b c d (T A8));let A24:=(bif !CR a b A2 then true else !CR c d A2);g<=A11->(decide (A8<4)=true->(A6<=A8/\A8<A22)/\(As a/\As b/\As A2)/\((!!CR a b A2)=true->A6<=A8/\A8<A22)/\((!!CR a b A2)=true->As c/\As d/\As A2)/\(A24=true->Ab .i64 (A8+A18)/\∃(g':Nat),let A27:=(Ca a b c d g');A3/\A8+A18=(↑g':Int)/\SV.ref A14 A5=SV.ref A14 A5/\SV.ref A15 A5=SV.ref A15 A5/\SV.ref A16 A5=SV.ref A16 A5/\SV.ref A17 A5=SV.ref A17 A5/\(A9.n=A27.n/\∀(i:Nat),i<A9.n -> [I (A9.g i).x,I (A9.g i).y]= [I (A27.g i).x,I (A27.g i).y])/\g'<=A11/\A11-g'<A11-g)/\(A24=false->(∃(g_1:Nat×Nat),let A19:=(Ca a b c d g_1.1);(false=BH g_1.2 fun(j:Nat)=>Bh (A19.g j) (DE a b c d g_1.1))/\A6=(↑g_1.2:Int)/\(A9.n=A19.n/\∀(i:Nat),i<A9.n -> [I (A9.g i).x,I (A9.g i).y]= [I (A19.g i).x,I (A19.g i).y])/\A8=(↑g_1.1:Int)/\g_1.1<A11/\g_1.2<=A19.n)/\∀(g_1:Nat×Nat),let A31:=(DE a b c d g_1.1);let A12:=(↑g_1.2:Int);let A1:=(Ca a b c d g_1.1);let A32:=(↑A1.n:Int);let A4:=(!BH g_1.2 fun(j:Nat)=>Bh (A1.g j) A31);A8=(↑g_1.1:Int)/\g_1.1<A11/\g_1.2<=A1.n->(decide (A12<A32)=true->(A4=true->A6<=A12/\A12<A32)/\(A4=true->T A12<A1.n)/\(A4=true->A6<=A8/\A8<A22)/\Ab .i64 (A12+A18)/\∃(g':Nat×Nat),let A13:=(Ca a b c d g'.1);((bif BH g_1.2 fun(j:Nat)=>Bh (A1.g j) A31 then true else decide ((A1.g (T A12)).x=A2.x)&&decide ((A1.g (T A12)).y=A2.y))=BH g'.2 fun(j:Nat)=>Bh (A13.g j) (DE a b c d g'.1))/\A12+A18=(↑g'.2:Int)/\(4=4/\∀(i:Nat),let A25:=(DE a b c d i);i<4 -> [I A25.x,I A25.y]= [I A25.x,I A25.y])/\A8=A8/\SV.ref A14 A5=SV.ref A14 A5/\SV.ref A15 A5=SV.ref A15 A5/\SV.ref A16 A5=SV.ref A16 A5/\SV.ref A17 A5=SV.ref A17 A5/\(A1.n=A13.n/\∀(i:Nat),i<A1.n -> [I (A1.g i).x,I (A1.g i).y]= [I (A13.g i).x,I (A13.g i).y])/\(A8=(↑g'.1:Int)/\g'.1<A11/\g'.2<=A13.n)/\A13.n-g'.2<A1.n-g_1.2)/\(decide (A12<A32)=false->(A4=true->(A6<=A8/\A8<A22)/\(A1.n+1)*16<=140737488355328/\Ab .i64 (A8+A18)/\∃(g':Nat),let A28:=(Ca a b c d g');A3/\A8+A18=(↑g':Int)/\SV.ref A14 A5=SV.ref A14 A5/\SV.ref A15 A5=SV.ref A15 A5/\SV.ref A16 A5=SV.ref A16 A5/\SV.ref A17 A5=SV.ref A17 A5/\(A1.n+1=A28.n/\∀(i:Nat),i<A1.n+1->AH A1.n (fun(j:Nat)=>[I (A1.g j).x,I (A1.g j).y]) (fun(x:Nat)=>[I A2.x,I A2.y]) i = [I (A28.g i).x,I (A28.g i).y])/\g'<=A11/\A11-g'<A11-g)/\(A4=false->Ab .i64 (A8+A18)/\∃(g':Nat),let A29:=(Ca a b c d g');A3/\A8+A18=(↑g':Int)/\SV.ref A14 A5=SV.ref A14 A5/\SV.ref A15 A5=SV.ref A15 A5/\SV.ref A16 A5=SV.ref A16 A5/\SV.ref A17 A5=SV.ref A17 A5/\(A1.n=A29.n/\∀(i:Nat),i<A1.n -> [I (A1.g i).x,I (A1.g i).y]= [I (A29.g i).x,I (A29.g i).y])/\g'<=A11/\A11-g'<A11-g))))/\(decide (A8<4)=false->(decide (A18<A26)=true->(3:Int)=CY a b c d)/\(decide (A18<A26)=false->(decide (A26=A18)=true->A18=CY a b c d)/\(decide (A26=A18)=false->(As a/\As b/\As c)/\True/\(As a/\As b/\As d)/\True/\Ab .i64 (B0 A20 A6*B0 A21 A6)/\(decide (B0 A20 A6*B0 A21 A6<A6)=true->As c/\As d/\As a)/\A10/\(decide (B0 A20 A6*B0 A21 A6<A6)=true->As c/\As d/\As b)/\A10/\(decide (B0 A20 A6*B0 A21 A6<A6)=true->Ab .i64 (B0 (Ay c d a) A6*B0 (Ay c d b) A6))/\(A7=true->(2:Int)=CY a b c d)/\(A7=false->A6=CY a b c d))))) (by kernel_rfl) (by
 conv=>zeta
 obtain⟨ha,hb,hc,hd⟩:=hp;have hp4:∀i,As (DE a b c d i):=fun i=>by
  unfold DE;cases decide (i=0)<;>cases decide (i=1)<;>cases decide (i=2)<;>assumption
 refine⟨⟨(0:Nat),⟨rfl,fun i hi=>by match i,hi with|0,_=>rfl|1,_=>rfl|2,_=>rfl|3,_=>rfl⟩,rfl,⟨rfl,fun i hi=>absurd hi (oE _)⟩,by decide⟩,fun g hg=>⟨fun hlt=>?_,fun hge=>?_⟩⟩
 ·have hb1:(g:Int)<4:=of_decide_eq_true hlt;have e0:((g:Int)).toNat=g:=by omega
  rw[e0];refine⟨⟨by omega,hb1⟩,⟨ha,hb,hp4 g⟩,fun _=>⟨by omega,hb1⟩,fun _=>⟨hc,hd,hp4 g⟩,fun h1=>?_,fun h1=>?_⟩
  ·have hoff : ES a b c d (DE a b c d g)= false :=by
    unfold ES;revert h1;cases CR a b (DE a b c d g)<;>cases CR c d (DE a b c d g)<;>intro h1<;>first|rfl|cases h1
   have e:Ca a b c d (g+1)=Ca a b c d g:=by rw[Ca,hoff];rfl
   refine⟨jK,g+1,rz,by omega,rfl,rfl,rfl,rfl,?_,by omega,by omega⟩;rw[e];exact rz
  ·have hon : ES a b c d (DE a b c d g)= true :=by
    unfold ES;revert h1;cases CR a b (DE a b c d g)<;>cases CR c d (DE a b c d g)<;>intro h1<;>first|rfl|cases h1
   refine⟨⟨(g,0),rfl,rfl,rz,rfl,by show g<4;omega,rH _⟩,?_⟩;rintro⟨g',k⟩ ⟨e1,e2,e3⟩;have e1:(g:Int)=(g':Int):=e1;obtain rfl:g=g':=by omega
   have e3:k<=(Ca a b c d g).n:=e3;have ek:((k:Int)).toNat=k:=by omega
   have hcn:=Y4 (a:=a) (b:=b) (c:=c) (d:=d) (i:=g);dsimp only;rw[ek];refine⟨fun hlt2=>?_,fun hge2=>?_⟩
   ·have hk:(k:Int)<((Ca a b c d g).n:Int):=of_decide_eq_true hlt2;refine⟨fun _=>⟨by omega,hk⟩,fun _=>(show k<(Ca a b c d g).n by omega),fun _=>⟨by omega,hb1⟩,jK,(g,k+1),?_,by show(k:Int)+1=((k+1:Nat):Int);omega,rz,rfl,rfl,rfl,rfl,rfl,rz,⟨rfl,by show g<4;omega,by show k+1<=(Ca a b c d g).n;omega⟩,by show(Ca a b c d g).n-(k+1)<(Ca a b c d g).n-k;omega⟩;rw[De];rfl
   ·have hk:¬ (k:Int)<((Ca a b c d g).n:Int):=of_decide_eq_false hge2;obtain rfl:k=(Ca a b c d g).n:=by omega
    have hhas:BH (Ca a b c d g).n (fun j=>Bh ((Ca a b c d g).g j) (DE a b c d g))=J2 (Ca a b c d g) (DE a b c d g):=
     wG (fun i _=>Aai _ _)
    rw[hhas];refine⟨fun h2=>?_,fun h2=>?_⟩
    ·have e : Ca a b c d (g+1)= ⟨(Ca a b c d g).n+1, fun i =>if i<(Ca a b c d g).n then(Ca a b c d g).g i else DE a b c d g⟩:=by
      rw[Ca,hon];show FP _ _=_;unfold FP;rw[CC h2];rfl
     refine⟨⟨by omega,hb1⟩,show((Ca a b c d g).n+1)*16<=140737488355328 by omega,jK,g+1,rz,by omega,rfl,rfl,rfl,rfl,?_,by omega,by omega⟩;rw[e];refine⟨rfl,fun i hi=>?_⟩;unfold AH;dsimp only
     by_cases h':i<(Ca a b c d g).n
     ·rw[if_pos h',if_pos h']
     ·rw[if_neg h',if_neg h']
    ·have e : Ca a b c d (g+1)= Ca a b c d g :=by
      rw[Ca,hon];show FP _ _=_;unfold FP;rw[B5 h2];rfl
     refine⟨jK,g+1,rz,by omega,rfl,rfl,rfl,rfl,?_,by omega,by omega⟩;rw[e];exact rz
 ·have hb1:¬ (g:Int)<4:=of_decide_eq_false hge;obtain rfl:g=4:=by omega
  rw[Aah];have q1:=K4 (Ay a b c) 0;have q2:=K4 (Ay a b d) 0;have q3:=K4 (Ay c d a) 0;have q4:=K4 (Ay c d b) 0;have m1:=Dd (m:=1) (n:=1) q1.1 q1.2 q2.1 q2.2;have m2:=Dd (m:=1) (n:=1) q3.1 q3.2 q4.1 q4.2;refine⟨fun h1=>?_,fun h1=>⟨fun h2=>?_,fun h2=>⟨⟨ha,hb,hc⟩,trivial,⟨ha,hb,hd⟩,trivial,jK,fun _=>⟨hc,hd,ha⟩,fun _=>trivial,fun _=>⟨hc,hd,hb⟩,fun _=>trivial,fun _=>jK,fun h3=>?_,fun h3=>?_⟩⟩⟩
  ·unfold CY;rw[h1];rfl
  ·unfold CY;rw[h1,h2];rfl
  ·have h3:(bif GY a b c d then GY c d a b else false)=true:=h3;unfold CY;rw[h1,h2,h3];rfl
  ·have h3:(bif GY a b c d then GY c d a b else false)=false:=h3;unfold CY;rw[h1,h2,h3];rfl)
theorem Aan:Az prog 70 Y8:=AN func70 (c:=Ae f70) (by kernel_rfl) mixed (fun _ _ _ hs hp=>by
 unfold Y7 at hs;split at hs
 ·cases hs;exact⟨_,_,Aam _ _ _ _ hp,(.same _ (.same _ (.same _ (.same _ .nil)))),⟨show Aa prog _ from(Aa.cons zZ Aaa (Aa.cons J7 J8 (Aa.cons Yt Yu Aa.nil))),rfl,nz⟩⟩
 ·cases hs)
theorem Aao:An prog 70:=fun _ _=>by kernel_rfl
def Y9 (l:L.Sq L.Pt):Prop:=ID l
def YA (l:L.Sq L.Pt):SV:=.bool (Ey l)
def YB:List EV->Option (Prop×SV)
 |[.p (.sl 2 l_n l_g)]=>some ((∀i,i<l_n->l_g i = [.int .i64 (Ad (l_g i)).x,.int .i64 (Ad (l_g i)).y])/\Y9 ⟨l_n,fun i=>Ad (l_g i)⟩,YA ⟨l_n,fun i=>Ad (l_g i)⟩)
 |_=>none
abbrev YC:SE.Spec:=(AM YB)
def Aap:Aj:={ cC with specs:=AE [(33,J9),(70,Y8)] }
theorem Aaq (l:L.Sq L.Pt) (hp:Y9 l):vc prog ({ Aap with loops:=AT [(3,{ T:=Nat,keep:=[0,3],keepO:=[],chg:=fun i=>[(4,.p (.int .i64 (i:Int)))],own:=fun _=>[],inv:=fun i=>i<=l.n/\∀j,j<i->∀k,j<k->k<l.n->Ct l j k=true,mu:=fun i=>l.n-i }),(6,{ T:=Nat×Nat,keep:=[0,3,4],keepO:=[],tie:=fun i=>[(4,.int .i64 (i.1:Int))],chg:=fun i=>[(5,.p (.int .i64 (i.2:Int)))],own:=fun _=>[],inv:=fun i=>i.1<i.2/\i.2<=l.n/\(∀j,j<i.1->∀k,j<k->k<l.n->Ct l j k=true)/\∀k,i.1<k->k<i.2->Ct l i.1 k=true,mu:=fun i=>l.n-i.2 })]}) (Ae f30) (Ao f30 [.p (.sl 2 l.n (fun i=>[.int .i64 (l.g i).x,.int .i64 (l.g i).y]))]) (AL prog f30 (YA l)):=
 @Eq.mpr _ (let I:=SV.int .i64;let A19:=(1:Nat);let A15:=(0:Int);let A12:=(1000000:Int);let A11:=(1000000:Nat);let A10:=(-1000000:Int);let A7:=(l.n=l.n/\∀(i:Nat),let A17:=[I (l.g i).x,I (l.g i).y];i<l.n->A17=A17);let A6:=(↑l.n:Int);let A5:=(1:Int);let A2:=(∀(i:Nat),let A18:=[I (l.g i).x,I (l.g i).y];i<l.n->A18=A18);(∃(g
:Nat),A15=(↑g:Int)/\g<=l.n/\∀(j:Nat),j<g->∀(k:Nat),j<k->k<l.n->Ct l j k=true)/\∀(g:Nat),let A4:=(↑g:Int);let A16:=(A4+A5);let A13:=(l.g (BY l.n A4));let A8:=(l.g (BY l.n A16));(g<=l.n/\∀(j:Nat),j<g->∀(k:Nat),j<k->k<l.n->Ct l j k=true)->(decide (A4<A6)=true->Ab .i64
 A16/\(∃(g_1:Nat×Nat),A4+A5=(↑g_1.2:Int)/\A4=(↑g_1.1:Int)/\g_1.1<g_1.2/\g_1.2<=l.n/\(∀(j:Nat),j<g_1.1->∀(k:Nat),j<k->k<l.n->Ct l j k=true)/\∀(k:Nat),g_1.1<k->k<g_1.2->Ct l g_1.1 k=true)/\∀(g_1:Nat×Nat),let A3:=(↑g_1.2:Int);let A14:=(l.g (BY l.n A3));let A9:=(l.g (BY l.n (A3+A5)));let A1:=(bif bif
 bif decide (A3=A4+A5)then true else bif decide (A4=A15)then decide (A3=A6-A5)else false then !decide (CY A13 A8 A14 A9=A5)else false then true else bif !bif decide (A3=A4+A5)then true else bif decide (A4=A15)then decide (A3=A6-A5)else false then !decide
 (CY A13 A8 A14 A9=A15)else false);(A4=(↑g_1.1:Int)/\g_1.1<g_1.2/\g_1.2<=l.n/\(∀(j:Nat),j<g_1.1->∀(k:Nat),j<k->k<l.n->Ct l j k=true)/\∀(k:Nat),g_1.1<k->k<g_1.2->Ct l g_1.1 k=true)->(decide (A3<A6)=true->(A2/\A19<=l.n/\l.n<=A11/\A10<=A4/\A4<=A12)/\Ab .i64 A16/\(A2/\A19<=l.n
 /\ l.n<=A11/\A10<=A4+A5/\A4+A5<=A12)/\(A2/\A19<=l.n/\l.n<=A11/\A10<=A3/\A3<=A12)/\Ab .i64 (A3+A5)/\(A2/\A19<=l.n/\l.n<=A11/\A10<=A3+A5/\A3+A5<=A12)/\(As A13/\As A8/\As A14/\As A9)/\Ab .i64 A16/\((!decide (A3=A4+A5)&&decide (A4=A15))=true->Ab .i64 (A6-A5))/\(A1 =
 true->false=Ey l)/\(A1=false->Ab .i64 (A3+A5)/\∃(g':Nat×Nat),A3+A5=(↑g'.2:Int)/\A4=A4/\A6=A6/\A7/\(A4=(↑g'.1:Int)/\g'.1<g'.2/\g'.2<=l.n/\(∀(j:Nat),j<g'.1->∀(k:Nat),j<k->k<l.n->Ct l j k=true)/\∀(k:Nat),g'.1<k->k<g'.2->Ct l g'.1 k=true)/\l.n-g'.2<l.n-g_1.2)) /\
 (decide (A3<A6)=false->Ab .i64 A16/\∃(g':Nat),A4+A5=(↑g':Int)/\A6=A6/\A7/\(g'<=l.n/\∀(j:Nat),j<g'->∀(k:Nat),j<k->k<l.n->Ct l j k=true)/\l.n-g'<l.n-g))/\(decide (A4<A6)=false->true=Ey l)) (by kernel_rfl) (by
  conv=>zeta
  obtain⟨hn,hb⟩:=hp;have fin0:∀{i k:Nat},i<k->k<l.n->Ct l i k=false->false=Ey l:=fun {i k} hik hk h=>by
   unfold Ey;rw[G6 (i:=i) (by omega) (G6 (i:=k) hk (by simp[hik,h]))]
  refine⟨⟨(0:Nat),rfl,rH _,fun j hj=>absurd hj (oE _)⟩,fun g hg=>⟨fun hlt=>?_,fun hge=>?_⟩⟩
  ·have hb1:(g:Int)<(l.n:Int):=of_decide_eq_true hlt;refine⟨jK,⟨(g,g+1),by show(g:Int)+1=((g+1:Nat):Int);omega,rfl,Aiu g,by show g+1<=l.n;omega,hg.2,fun k h1 h2=>?_⟩,?_⟩
   ·have h1:g<k:=h1;have h2:k<g+1:=h2;omega
   rintro⟨i,k⟩ ⟨e1,hik,hkn,h0,h1⟩;have e1:(g:Int)=(i:Int):=e1;obtain rfl:g=i:=by omega
   have hik:g<k:=hik;have hkn:k<=l.n:=hkn;have h0:∀j,j<g->∀k,j<k->k<l.n->Ct l j k=true:=h0;have h1:∀m,g<m->m<k->Ct l g m=true:=h1;dsimp only;refine⟨fun hlt2=>?_,fun hge2=>?_⟩
   ·have hk:(k:Int)<(l.n:Int):=of_decide_eq_true hlt2;have c5:BO l.n k<l.n:=Gm (by omega);have c2:BY l.n ((g:Int)+1)=g+1:=by
     rw[show(g:Int)+1=((g+1:Nat):Int)by omega,Oa (by omega)]
    rw[Oa (n:=l.n) (k:=g) (by omega),c2,Oa (n:=l.n) (k:=k) (by omega),My (n:=l.n) (k:=k) (by omega)];have key:(bif (bif (bif decide ((k:Int)=(g:Int)+1)then true else bif decide ((g:Int)=0)then decide ((k:Int)=(l.n:Int)-1)else false)then !decide (CY (l.g g) (l.g (g+1)) (l.g k) (l.g (BO l.n k))=1)else false)then true else bif !(bif decide ((k:Int)=(g:Int)+1)then true else bif decide ((g:Int)=0)then decide ((k:Int)=(l.n:Int)-1)else false)then !decide (CY (l.g g) (l.g (g+1)) (l.g k) (l.g (BO l.n k))=0)else false)= !Ct l g k:=by
     unfold Ct Mt K9;generalize (bif decide ((k:Int)=(g:Int)+1)then true else bif decide ((g:Int)=0)then decide ((k:Int)=(l.n:Int)-1)else false)=q;generalize decide (CY (l.g g) (l.g (g+1)) (l.g k) (l.g (BO l.n k))=1)=q1;generalize decide (CY (l.g g) (l.g (g+1)) (l.g k) (l.g (BO l.n k))=0)=q2;cases q<;>cases q1<;>cases q2<;>rfl
    rw[key];refine⟨⟨zr,by omega,by omega,by omega,by omega⟩,jK,⟨zr,by omega,by omega,by omega,by omega⟩,⟨zr,by omega,by omega,by omega,by omega⟩,jK,⟨zr,by omega,by omega,by omega,by omega⟩,⟨hb g (by omega),hb (g+1) (by omega),hb k (by omega),hb _ c5⟩,jK,fun _=>jK,fun h=>fin0 hik (by omega) (CC h),fun h=>?_⟩;have hok:Ct l g k=true:=B5 h;refine⟨jK,(g,k+1),by show(k:Int)+1=((k+1:Nat):Int);omega,rfl,rfl,rz,⟨rfl,by show g<k+1;omega,by show k+1<=l.n;omega,h0,fun m hm1 hm2=>?_⟩,by show l.n-(k+1)<l.n-k;omega⟩;have hm1:g<m:=hm1;have hm2:m<k+1:=hm2;show Ct l g m=true;rcases Ah6.1 hm2 with h'|rfl
    ·exact h1 m hm1 h'
    ·exact hok
   ·have hk:¬ (k:Int)<(l.n:Int):=of_decide_eq_false hge2;refine⟨jK,g+1,by omega,rfl,rz,⟨by omega,fun j hj m hm1 hm2=>?_⟩,by omega⟩;rcases Ah6.1 hj with h'|rfl
    ·exact h0 j h' m hm1 hm2
    ·exact h1 m hm1 (by omega)
  ·have hb1:¬ (g:Int)<(l.n:Int):=of_decide_eq_false hge;unfold Ey;rw[C8.2 (fun i hi=>C8.2 (fun k hk=>?_))]
   by_cases hik:i<k
   ·simp[hik,hg.2 i (by omega) k hik hk]
   ·simp[hik])
theorem Aar:Az prog 30 YC:=AN func30 (c:=Ae f30) (by kernel_rfl) mixed (fun _ _ _ hs hp=>by
 unfold YB at hs;split at hs
 ·cases hs;exact⟨_,_,Aaq _ hp.2,(.p (.sl hp.1) .nil),⟨show Aa prog _ from(Aa.cons KI KJ (Aa.cons Aan Aao Aa.nil)),rfl,nz⟩⟩
 ·cases hs)
theorem Aas:An prog 30:=fun _ _=>by kernel_rfl
def YD (l:L.Sq L.Pt):Prop:=True
def YE (l:L.Sq L.Pt):SV:=.bool (Am l)
def YF:List EV->Option (Prop×SV)
 |[.p (.sl 2 l_n l_g)]=>some ((∀i,i<l_n->l_g i = [.int .i64 (Ad (l_g i)).x,.int .i64 (Ad (l_g i)).y])/\YD ⟨l_n,fun i=>Ad (l_g i)⟩,YE ⟨l_n,fun i=>Ad (l_g i)⟩)
 |_=>none
abbrev M4:SE.Spec:=(AM YF)
def Aat:Aj:={ cC with specs:=AE [(29,QS),(30,YC),(31,QW),(32,QU),(33,J9),(12,IG)] }
theorem Aau (l:L.Sq L.Pt) (hp:YD l):vc prog ({ Aat with loops:=AT [(4,{ T:=Nat,keep:=[0],keepO:=[],chg:=fun i=>[(3,.p (.int .i64 (i:Int)))],own:=fun _=>[],inv:=fun i=>i<=l.n/\∀j,j<i->EP l j=true,mu:=fun i=>l.n-i })]}) (Ae f7) (Ao f7 [.p (.sl 2 l.n (fun i=>[.int .i64 (l.g i).x,.int .i64 (l.g i).y]))]) (AL prog f7 (YE l)):=
 @Eq.mpr _ (let I:=SV.int .i64;let T:=AhD;let A17:=(3:Int);let A16:=(24:Int);let A11:=(1000000:Nat);let A9:=(1:Int);let A8:=(0:Int);let A7:=(↑l.n:Int);let A5:=(L.Sq.mk l.n fun(i:Nat)=>l.g i);let A4:=(∀(i:Nat),let A12:=[I (l.g i).x,I (l.g i).y];i<l.n->A12=A12);let A2:=(bif bif bif bif decide (A7<A17)then true else decide (A16<A7)then true else !DI A5 then true else !Ey A5 then true else decide (BT A5 l.n<=A8));((!bif decide (A7<A17)then true else decide (A16<A7))=true->A4/\l.n<=A11)/\((!bif bif decide (A7<A17)then true else decide (A16<A7)then true else !DI A5)=true->A4/\ID A5)/\((!bif bif bif decide (A7<A17)then true else decide (A16<A7)then true else !DI A5 then true else !Ey A5)=true->A4/\EN A5)/\(A2=true->false=Am l)/\(A2=false->(∃(g:Nat),A8=(↑g:Int)/\g<=l.n/\∀(j:Nat),j<g->EP l j=true)/\∀(g:Nat),let A6:=(↑g:Int);let A14:=(l.g (BY l.n (A6+A9)));let A13:=(l.g (BY l.n (A6-A9)));let A10:=(l.g (T A6));let A3:=(bif bif decide (A8<A6)then !decide (BZ (l.g (T A8)) A10<A8)else false then true else decide (Ay A13 A10 A14=A8));let A1:=(!bif decide (A8<A6)then !decide (BZ (l.g (T A8)) A10<A8)else false);(g<=l.n/\∀(j:Nat),j<g->EP l j=true)->(decide (A6<A7)=true->(decide (A8<A6)=true->A8<=A8/\A8<A7)/\(decide (A8<A6)=true->A8<=A6/\A6<A7)/\(decide (A8<A6)=true->True)/\(A1=true->Ab .i64 (A6-A9))/\(A1=true->A4/\(1:Nat)<=l.n/\l.n<=A11/\(-1000000:Int)<=A6-A9/\A6-A9<=1000000)/\(A1=true->A8<=A6/\A6<A7)/\(A1=true->Ab .i64 (A6+A9))/\(A1=true->A4/\(1:Nat)<=l.n/\l.n<=A11/\(-1000000:Int)<=A6+A9/\A6+A9<=1000000)/\(A1=true->As A13/\As A10/\As A14)/\(A3=true->false=Am l)/\(A3=false->Ab .i64 (A6+A9)/\∃(g':Nat),A6+A9=(↑g':Int)/\(l.n=l.n/\∀(i:Nat),let A15:=[I (l.g i).x,I (l.g i).y];i<l.n->A15=A15)/\(g'<=l.n/\∀(j:Nat),j<g'->EP l j=true)/\l.n-g'<l.n-g))/\(decide (A6<A7)=false->true=Am l))) (by kernel_rfl) (by
 conv=>zeta
 have c1:(bif decide ((l.n:Int)<3)then true else decide (24<(l.n:Int)))= !AI (l.n:Int) 3 24:=by
  rw[De,Bool.eq_iff_iff,Aie,decide_eq_true_eq,decide_eq_true_eq,Bool.not_eq_true',Bool.eq_false_iff,Ne,HS];omega
 rw[c1];have sp:AI (l.n:Int) 3 24=true->DI l=true->3<=l.n/\l.n<=24/\EN l/\ID l:=Q7;refine⟨fun h=>⟨zr,?_⟩,fun h=>⟨zr,?_⟩,fun h=>⟨zr,?_⟩,fun h=>?_,fun h=>?_⟩
 ·have:=HS.1 (B5 (CC h));omega
 ·have h:=CC h;rw[De,AhJ]at h;exact(sp (B5 h.1) (B5 h.2)).2.2.2
 ·have h:=CC h;rw[De,De,AhJ,AhJ]at h;exact(sp (B5 h.1.1) (B5 h.1.2)).2.2.1
 ·have h:(bif bif bif !AI (l.n:Int) 3 24 then true else !DI l then true else !Ey l then true else decide (BT l l.n<=0))=true:=h;have e3:G8 l=false\/Ey l=false:=by
   rw[De,De,De,Aie,Aie,Aie]at h;unfold G8;rcases h with ((h|h)|h)|h
   ·rw[CC h];exact .inl rfl
   ·rw[CC h];left;cases AI (l.n:Int) 3 24<;>rfl
   ·exact .inr (CC h)
   ·left;have:=of_decide_eq_true h;rw[decide_eq_false (show ¬ 0<BT l l.n by omega)];cases AI (l.n:Int) 3 24<;>cases DI l<;>rfl
  unfold Am;rcases e3 with e3|e3<;>rw[e3]<;>simp
 have h:(bif bif bif !AI (l.n:Int) 3 24 then true else !DI l then true else !Ey l then true else decide (BT l l.n<=0))=false:=h;rw[De,De,De,AhJ,AhJ,AhJ]at h;obtain⟨⟨⟨h1,h2⟩,h3⟩,h4⟩:=h;have h1:=B5 h1;have h2:=B5 h2;have h3:=B5 h3;have h4:=of_decide_eq_false h4;obtain⟨n3,n24,hsm,hbd⟩:=sp h1 h2;have hv:G8 l=true:=by
  unfold G8;rw[h1,h2,decide_eq_true (show 0<BT l l.n by omega)];rfl
 refine⟨⟨(0:Nat),rfl,rH _,fun j hj=>absurd hj (oE _)⟩,fun g hg=>⟨fun hlt=>?_,fun hge=>?_⟩⟩
 ·have hb:(g:Int)<(l.n:Int):=of_decide_eq_true hlt;have hk:g<l.n:=by omega
  have e0:((g:Int)).toNat=g:=by omega
  have key:=Aak (l:=l) (k:=g);rw[e0,XN hk,My hk];refine⟨fun _=>by omega,fun _=>by omega,fun _=>trivial,fun _=>jK,fun _=>⟨zr,by omega,by omega,by omega,by omega⟩,fun _=>by omega,fun _=>jK,fun _=>⟨zr,by omega,by omega,by omega,by omega⟩,fun _=>⟨hbd.2 _ (NR (by omega)),hbd.2 _ hk,hbd.2 _ (Gm (by omega))⟩,fun h=>?_,fun h=>?_⟩
  ·have h:EP l g=false:=CC (key.symm.trans h);unfold Am;rw[G6 hk h];simp
  ·have h:EP l g=true:=B5 (key.symm.trans h);exact⟨jK,g+1,by omega,rz,⟨by omega,fun j hj=>by
    rcases Ah6.1 hj with h'|rfl
    ·exact hg.2 j h'
    ·exact h⟩,by omega⟩
 ·have hb:¬ (g:Int)<(l.n:Int):=of_decide_eq_false hge;unfold Am;rw[hv,C8.2 (fun i hi=>hg.2 i (by omega)),h3];rfl)
theorem Ob:Az prog 7 M4:=AN func7 (c:=Ae f7) (by kernel_rfl) mixed (fun _ _ _ hs hp=>by
 unfold YF at hs;split at hs
 ·cases hs;exact⟨_,_,Aau _ hp.2,(.p (.sl hp.1) .nil),⟨show Aa prog _ from(Aa.cons XX XY (Aa.cons Aar Aas (Aa.cons Y1 Y2 (Aa.cons Yk Yl (Aa.cons KI KJ (Aa.cons J7 J8 Aa.nil)))))),rfl,nz⟩⟩
 ·cases hs)
theorem Oc:An prog 7:=fun _ _=>by kernel_rfl
theorem YG {p:L.Pt} (h:B4 p=true):As p:=by
 unfold B4 at h;rw[pR,HS,HS]at h;unfold As;omega
theorem Od {l:L.Sq L.Pt}:∀{i j:Nat},j<=i->¬ BZ (l.g j) (Gn l i)<0
 |0,j,h=>by
   obtain rfl:j=0:=by omega
   rw[KC,Gn];omega
 |i+1,j,h=>by
   rw[Gn];cases hd:decide (BZ (l.g (i+1)) (Gn l i)<0)with
   |false =>
     rw[cond_false]
     by_cases e:j=i+1
     ·rw[e];exact of_decide_eq_false hd
     ·exact Od (by omega)
   |true =>
     rw[cond_true];have h1:=of_decide_eq_true hd
     by_cases e:j=i+1
     ·rw[e,KC];omega
     ·have h2:=Od (l:=l) (i:=i) (j:=j) (by omega);rw[KC]at h1 h2 ⊢;omega
def Cv (l:L.Sq L.Pt):Nat->Nat
 |0=>0
 |i+1=>bif decide (BZ (l.g i) (l.g (Cv l i))<0)then i else Cv l i
def M5 (l:L.Sq L.Pt):Nat:=Cv l l.n
def Ep (l:L.Sq L.Pt) (k:Nat):L.Pt:=(Q9 l (M5 l)).g k
def Hd (a b:L.Sq L.Pt):Bool:=bif decide ((a.n:Int)=b.n)then Ch a.n (fun i=>Bh (a.g i) (b.g i))else false
theorem Oe (l:L.Sq L.Pt):∀i,l.g (Cv l (i+1))=Gn l i/\Cv l (i+1)<=i/\∀j,j<Cv l (i+1)->l.g j≠Gn l i
 |0=>by
   have h:Cv l 1=0:=by
    show(bif decide (BZ (l.g 0) (l.g 0)<0)then 0 else 0)=0;cases decide (BZ (l.g 0) (l.g 0)<0)<;>rfl
   rw[h];exact⟨rfl,Ah0 _,fun j hj=>absurd hj (oE _)⟩
 |i+1=>by
   obtain⟨h1,h2,h3⟩:=Oe l i;have ha:Cv l (i+1+1)=bif decide (BZ (l.g (i+1)) (l.g (Cv l (i+1)))<0)then i+1 else Cv l (i+1):=rfl;have hm:Gn l (i+1)=bif decide (BZ (l.g (i+1)) (Gn l i)<0)then l.g (i+1)else Gn l i:=rfl;rw[ha,hm,h1];cases hc:decide (BZ (l.g (i+1)) (Gn l i)<0)with
   |false=>exact⟨h1,by show Cv l (i+1)<=i+1;omega,h3⟩
   |true =>
     refine⟨rfl,Ah0 _,fun j hj e=>?_⟩;have hj:j<i+1:=hj;have e:l.g j=l.g (i+1):=e;have:=Od (l:=l) (i:=i) (j:=j) (by omega);rw[e]at this;exact this (of_decide_eq_true hc)
theorem YH {l:L.Sq L.Pt} (h:1<=l.n):∀i,i<=l.n->Cv l i<l.n
 |0,_=>h
 |i+1,hi=>by have:=(Oe l i).2.1;omega
def FD (l:L.Sq L.Pt):Int:=BQ l.n (fun i=>!Bh (l.g i) (l.g 0))
def DL (l:L.Sq L.Pt):Bool:=bif decide (FD l<0)then true else !BH l.n (fun i=>!decide (Ay (l.g 0) (l.g (FD l).toNat) (l.g i)=0))
def YI (l:L.Sq L.Pt):Prop:=∃i j,i<l.n/\j<l.n/\l.g i≠l.g j
theorem QY {l:L.Sq L.Pt} {k:Nat} (hk:k<l.n) (h0:∀j,j<k->l.g j=l.g 0) (h1:l.g k≠l.g 0):FD l=(k:Int):=by
 refine J0 (f:=fun i=>!Bh (l.g i) (l.g 0)) (fun j hj=>?_) ?_ hk
 ·show(!Bh (l.g j) (l.g 0))=false;rw[h0 j hj,GZ];rfl
 ·show(!Bh (l.g k) (l.g 0))=true;cases e:Bh (l.g k) (l.g 0)with
  |true=>exact absurd (IE e) h1
  |false=>rfl
theorem YJ {l:L.Sq L.Pt} (h:∀j,j<l.n->l.g j=l.g 0):DL l=true:=by
 unfold DL;have e:FD l = -1:=IB (f:=fun i=>!Bh (l.g i) (l.g 0)) fun j hj=>by
  show(!Bh (l.g j) (l.g 0))=false;rw[h j hj,GZ];rfl
 rw[e];rfl
theorem YK {l:L.Sq L.Pt} (h:DL l=false) (h1:1<=l.n):YI l:=by
 unfold DL FD at h;rcases NQ (f:=fun i=>!Bh (l.g i) (l.g 0)) (n:=l.n)with ⟨q1,_⟩|⟨i,q1,q2,q3,_⟩
 ·rw[q1]at h;cases h
 ·refine⟨i,0,q1,h1,fun e=>?_⟩;have q3:(!Bh (l.g i) (l.g 0))=true:=q3;rw[e,GZ]at q3;cases q3
theorem Aav {l:L.Sq L.Pt} (h:¬ FD l<0):0<=FD l/\FD l<(l.n:Int):=by
 unfold FD at h ⊢;rcases NQ (f:=fun i=>!Bh (l.g i) (l.g 0)) (n:=l.n)with ⟨q1,_⟩|⟨i,q1,q2,q3,_⟩
 ·rw[q1]at h;exact absurd (by decide) h
 ·rw[q2];omega
def YL (p:L.Pt) (l:L.Sq L.Pt):Prop:=1<=l.n
def YM (p:L.Pt) (l:L.Sq L.Pt):SV:=.bool (!Bh p (l.g 0))
def E1:List EV->Option (Prop×SV)
 |[.p (.agg [.int .i64 p_x,.int .i64 p_y]),.p (.ref [.sl 2 l_n l_g] 0)]=>some ((∀i,i<l_n->l_g i = [.int .i64 (Ad (l_g i)).x,.int .i64 (Ad (l_g i)).y])/\YL (⟨p_x,p_y⟩:L.Pt) ⟨l_n,fun i=>Ad (l_g i)⟩,YM (⟨p_x,p_y⟩:L.Pt) ⟨l_n,fun i=>Ad (l_g i)⟩)
 |_=>none
abbrev YN:SE.Spec:=(AM E1)
def Aaw:Aj:={ muts:=[],frz:=B9 [],specs:=AE [],loops:=AT [],iters:=BG [],rfs:=AQ [],nils:=B3 [] }
theorem Aax (p:L.Pt) (l:L.Sq L.Pt) (hp:YL p l):vc prog (Aaw) (Ae f186) (Ao f186 [.p (.agg [.int .i64 p.x,.int .i64 p.y]),.p (.ref [.sl 2 l.n (fun i=>[.int .i64 (l.g i).x,.int .i64 (l.g i).y])] 0)]) (AL prog f186 (YM p l)):=
 @Eq.mpr _ (((0:Int)<=0/\0<(↑l.n:Int))/\(!(decide (p.x=(l.g (AhD (0:Int))).x)&&decide (p.y=(l.g (AhD (0:Int))).y)))= !Bh p (l.g 0)) (by kernel_rfl) (by
 exact⟨⟨AhV _,by have:1<=l.n:=hp;omega⟩,rfl⟩)
theorem Aay:Az prog 186 YN:=AN func186 (c:=Ae f186) (by kernel_rfl) mixed (fun _ _ _ hs hp=>by
 unfold E1 at hs;split at hs
 ·cases hs; exact⟨_, _, Aax _ _ hp.2, (.same _ (.p (Ba.ref rfl (fun i hi =>by
  rcases i with _|i
  ·show Ba (SV.sl _ _ _) (SV.sl _ _ _);exact(Ba.sl hp.1)
  exact absurd hi (by simp;try omega))) .nil)),⟨show Aa prog _ from Aa.nil,rfl,nz⟩⟩
 ·cases hs)
theorem Aaz:An prog 186:=fun _ _=>by kernel_rfl
theorem Aa0:∀args p r,E1 args=some (p,r)->∃b,r=.bool b:=by
 intro args p r h;unfold E1 at h;split at h
 ·cases h;exact⟨_,rfl⟩
 ·cases h
def YO (p:L.Pt) (l:L.Sq L.Pt) (far:Int):Prop:=(0<=far/\far<l.n)/\As p/\∀k,k<l.n->As (l.g k)
def YP (p:L.Pt) (l:L.Sq L.Pt) (far:Int):SV:=.bool (!decide (Ay (l.g 0) (l.g far.toNat) p=0))
def IH:List EV->Option (Prop×SV)
 |[.p (.agg [.int .i64 p_x,.int .i64 p_y]),.p (.ref [.sl 2 l_n l_g] 0),.p (.ref [.int .i64 far] 0)]=>some ((∀i,i<l_n->l_g i = [.int .i64 (Ad (l_g i)).x,.int .i64 (Ad (l_g i)).y])/\YO (⟨p_x,p_y⟩:L.Pt) ⟨l_n,fun i=>Ad (l_g i)⟩ far,YP (⟨p_x,p_y⟩:L.Pt) ⟨l_n,fun i=>Ad (l_g i)⟩ far)
 |_=>none
abbrev YQ:SE.Spec:=(AM IH)
def Aa1:Aj:={ cC with specs:=AE [(77,J1)] }
theorem Aa2 (p:L.Pt) (l:L.Sq L.Pt) (far:Int) (hp:YO p l far):vc prog (Aa1) (Ae f187) (Ao f187 [.p (.agg [.int .i64 p.x,.int .i64 p.y]),.p (.ref [.sl 2 l.n (fun i=>[.int .i64 (l.g i).x,.int .i64 (l.g i).y])] 0),.p (.ref [.int .i64 far] 0)]) (AL prog f187 (YP p l far)):=
 @Eq.mpr _ (((0:Int)<=0/\0<(↑l.n:Int))/\((0:Int)<=far/\far<(↑l.n:Int))/\(As (l.g (AhD (0:Int)))/\As (l.g (AhD far))/\As p)/\(!decide (Ay (l.g (AhD (0:Int))) (l.g (AhD far)) p=(0:Int)))= !decide (Ay (l.g 0) (l.g (AhD far)) p=(0:Int))) (by kernel_rfl) (by
 obtain⟨⟨h1,h2⟩,hb,hl⟩:=hp;exact⟨⟨AhV _,by omega⟩,⟨h1,h2⟩,⟨hl 0 (by omega),hl far.toNat (by omega),hb⟩,rfl⟩)
theorem Aa3:Az prog 187 YQ:=AN func187 (c:=Ae f187) (by kernel_rfl) mixed (fun _ _ _ hs hp=>by
 unfold IH at hs;split at hs
 ·cases hs; exact⟨_, _, Aa2 _ _ _ hp.2, (.same _ (.p (Ba.ref rfl (fun i hi =>by
  rcases i with _|i
  ·show Ba (SV.sl _ _ _) (SV.sl _ _ _);exact(Ba.sl hp.1)
  exact absurd hi (by simp;try omega))) (.same _ .nil))),⟨show Aa prog _ from(Aa.cons K5 K6 Aa.nil),rfl,nz⟩⟩
 ·cases hs)
theorem Aa4:An prog 187:=fun _ _=>by kernel_rfl
theorem Aa5:∀args p r,IH args=some (p,r)->∃b,r=.bool b:=by
 intro args p r h;unfold IH at h;split at h
 ·cases h;exact⟨_,rfl⟩
 ·cases h
def YR (l:L.Sq L.Pt):Prop:=1<=l.n/\l.n<=1000000/\∀k,k<l.n->As (l.g k)
def YS (l:L.Sq L.Pt):SV:=.bool (DL l)
def YT:List EV->Option (Prop×SV)
 |[.p (.sl 2 l_n l_g)]=>some ((∀i,i<l_n->l_g i = [.int .i64 (Ad (l_g i)).x,.int .i64 (Ad (l_g i)).y])/\YR ⟨l_n,fun i=>Ad (l_g i)⟩,YS ⟨l_n,fun i=>Ad (l_g i)⟩)
 |_=>none
abbrev YU:SE.Spec:=(AM YT)
def Aa6:Aj:={ cC with frz:=B9 [(2,[3])],specs:=AE [(159,Qy),(120,Qz),(186,YN),(187,YQ)] }
theorem Aa7 (l:L.Sq L.Pt) (hp:YR l):vc prog (Aa6) (Ae f162) (Ao f162 [.p (.sl 2 l.n (fun i=>[.int .i64 (l.g i).x,.int .i64 (l.g i).y]))]) (AL prog f162 (YS l)):=
 @Eq.mpr _ (let I:=SV.int .i64;let A18:=(∀(i:Nat),let A20:=[I (l.g i).x,I (l.g i).y];i<l.n->A20=A20);let A9:=(L.Sq.mk l.n fun(i:Nat)=>Ad ((fun(i:Nat)=>[I (l.g i).x,I (l.g i).y]) i));let A4:=nat_lit 2;let A3:=nat_lit 0;let A2:=[SV.sl A4 l.n fun(i:Nat)=>[I (l.g i).x,I (l.g i).y]];let A1:=(BQ l.n fun(i:Nat)=>let A11:=[SV.ref [SV.sl A4 l.n fun(i:Nat)=>[I (l.g i).x,I (l.g i).y]] A3];Bs (BN.mk (fun(«as»:List SV)=>DA E1 (AhK EV.p «as» ++ AhK EV.p A11)) fun(«as»:List SV)=>En E1 (AhK EV.p «as» ++ AhK EV.p A11)) [SV.agg [I (l.g i).x,I (l.g i).y]]);(A18/\Fr (BN.mk (fun(«as»:List SV)=>DA E1 (AhK EV.p «as» ++ AhK EV.p [SV.ref A2 A3])) fun(«as»:List SV)=>En E1 (AhK EV.p «as» ++ AhK EV.p [SV.ref A2 A3]))/\l.n<=1000000/\∀(i:Nat),i<l.n->(∀(i:Nat),let A21:=[I (l.g i).x,I (l.g i).y];i<l.n->A21=A21)/\(1:Nat)<=l.n)/\((!decide (A1<0))=true->A18/\Fr (BN.mk (fun(«as»:List SV)=>DA IH (AhK EV.p «as» ++ AhK EV.p [SV.ref A2 A3,SV.ref [I (BQ A9.n fun(i:Nat)=>let A12:=[SV.ref [SV.sl A4 l.n fun(i:Nat)=>[I (l.g i).x,I (l.g i).y]] A3];let A5:=((L.Sq.mk l.n fun(i:Nat)=>Ad ((fun(i:Nat)=>[I (l.g i).x,I (l.g i).y]) i)).g i);Bs (BN.mk (fun(«as»:List SV)=>DA E1 (AhK EV.p «as» ++ AhK EV.p A12)) fun(«as»:List SV)=>En E1 (AhK EV.p «as» ++ AhK EV.p A12)) [SV.agg [I A5.x,I A5.y]])] A3])) fun(«as»:List SV)=>En IH (AhK EV.p «as» ++ AhK EV.p [SV.ref A2 A3,SV.ref [I (BQ A9.n fun(i:Nat)=>let A13:=[SV.ref [SV.sl A4 l.n fun(i:Nat)=>[I (l.g i).x,I (l.g i).y]] A3];let A6:=((L.Sq.mk l.n fun(i:Nat)=>Ad ((fun(i:Nat)=>[I (l.g i).x,I (l.g i).y]) i)).g i);Bs (BN.mk (fun(«as»:List SV)=>DA E1 (AhK EV.p «as» ++ AhK EV.p A13)) fun(«as»:List SV)=>En E1 (AhK EV.p «as» ++ AhK EV.p A13)) [SV.agg [I A6.x,I A6.y]])] A3]))/\l.n<=1000000/\∀(i:Nat),i<l.n->(∀(i:Nat),let A22:=[I (l.g i).x,I (l.g i).y];i<l.n->A22=A22)/\(((0:Int)<=BQ l.n fun(i:Nat)=>let A14:=[SV.ref [SV.sl A4 l.n fun(i:Nat)=>[I (l.g i).x,I (l.g i).y]] A3];Bs (BN.mk (fun(«as»:List SV)=>DA E1 (AhK EV.p «as» ++ AhK EV.p A14)) fun(«as»:List SV)=>En E1 (AhK EV.p «as» ++ AhK EV.p A14)) [SV.agg [I (l.g i).x,I (l.g i).y]])/\(BQ l.n fun(i:Nat)=>let A15:=[SV.ref [SV.sl A4 l.n fun(i:Nat)=>[I (l.g i).x,I (l.g i).y]] A3];Bs (BN.mk (fun(«as»:List SV)=>DA E1 (AhK EV.p «as» ++ AhK EV.p A15)) fun(«as»:List SV)=>En E1 (AhK EV.p «as» ++ AhK EV.p A15)) [SV.agg [I (l.g i).x,I (l.g i).y]])<(↑l.n:Int))/\As (l.g i)/\∀(k:Nat),k<l.n->As (l.g k))/\(bif decide (A1<0)then true else !BH l.n fun(i:Nat)=>let A19:=[SV.sl A4 l.n fun(i:Nat)=>[I (l.g i).x,I (l.g i).y]];let A10:=(L.Sq.mk l.n fun(i:Nat)=>Ad ((fun(i:Nat)=>[I (l.g i).x,I (l.g i).y]) i));Bs (BN.mk (fun(«as»:List SV)=>DA IH (AhK EV.p «as» ++ AhK EV.p [SV.ref A19 A3,SV.ref [I (BQ A10.n fun(i:Nat)=>let A16:=[SV.ref [SV.sl A4 l.n fun(i:Nat)=>[I (l.g i).x,I (l.g i).y]] A3];let A7:=((L.Sq.mk l.n fun(i:Nat)=>Ad ((fun(i:Nat)=>[I (l.g i).x,I (l.g i).y]) i)).g i);Bs (BN.mk (fun(«as»:List SV)=>DA E1 (AhK EV.p «as» ++ AhK EV.p A16)) fun(«as»:List SV)=>En E1 (AhK EV.p «as» ++ AhK EV.p A16)) [SV.agg [I A7.x,I A7.y]])] A3])) fun(«as»:List SV)=>En IH (AhK EV.p «as» ++ AhK EV.p [SV.ref A19 A3,SV.ref [I (BQ A10.n fun(i:Nat)=>let A17:=[SV.ref [SV.sl A4 l.n fun(i:Nat)=>[I (l.g i).x,I (l.g i).y]] A3];let A8:=((L.Sq.mk l.n fun(i:Nat)=>Ad ((fun(i:Nat)=>[I (l.g i).x,I (l.g i).y]) i)).g i);Bs (BN.mk (fun(«as»:List SV)=>DA E1 (AhK EV.p «as» ++ AhK EV.p A17)) fun(«as»:List SV)=>En E1 (AhK EV.p «as» ++ AhK EV.p A17)) [SV.agg [I A8.x,I A8.y]])] A3])) [SV.agg [I (l.g i).x,I (l.g i).y]])=DL l) (by kernel_rfl) (by
 conv=>zeta
 obtain⟨h1,hn,hb⟩:=hp;refine⟨⟨zr,Mg Aa0 _,hn,fun i hi=>⟨zr,h1⟩⟩,fun hf=>?_,rfl⟩;have hf:(!decide (FD l<0))=true:=hf;have hq:=Aav (of_decide_eq_false (CC hf));exact⟨zr,Mg Aa5 _,hn,fun i hi=>⟨zr,hq,hb i hi,hb⟩⟩)
theorem Aa8:Az prog 162 YU:=AN func162 (c:=Ae f162) (by kernel_rfl) mixed (fun _ _ _ hs hp=>by
 unfold YT at hs;split at hs
 ·cases hs;exact⟨_,_,Aa7 _ hp.2,(.p (.sl hp.1) .nil),⟨show Aa prog _ from(Aa.cons Vp Vq (Aa.cons Vu Vv (Aa.cons Aay Aaz (Aa.cons Aa3 Aa4 Aa.nil)))),rfl,nz⟩⟩
 ·cases hs)
theorem Aa9:An prog 162:=fun _ _=>by kernel_rfl
def YV (l:L.Sq L.Pt):Prop:=1<=l.n/\l.n<=1000000
def YW (l:L.Sq L.Pt):Nat->Prop:=fun _=>True
def YX (l:L.Sq L.Pt):Nat->Nat:=fun _=>l.n
def YY (l:L.Sq L.Pt):Nat->Nat->List SV:=fun _ k=>[.int .i64 (Ep l k).x,.int .i64 (Ep l k).y]
def YZ:List EV->Option (Prop×(Nat->Prop)×(Nat->Nat)×(Nat->Nat->List SV))
 |[.p (.sl 2 l_n l_g)]=>some ((∀i,i<l_n->l_g i = [.int .i64 (Ad (l_g i)).x,.int .i64 (Ad (l_g i)).y])/\YV ⟨l_n,fun i=>Ad (l_g i)⟩,YW ⟨l_n,fun i=>Ad (l_g i)⟩,YX ⟨l_n,fun i=>Ad (l_g i)⟩,YY ⟨l_n,fun i=>Ad (l_g i)⟩)
 |_=>none
abbrev Za:SE.Spec:=(Gl Nat 0 39 2 YZ)
def AaA:Aj:={ cC with specs:=AE [(32,QU)],nils:=B3 [(8,[(5,26,39,2)])] }
theorem AaB (l:L.Sq L.Pt) (hp:YV l):vc prog ({ AaA with loops:=AT [(3,{ T:=Nat,keep:=[0],keepO:=[],chg:=fun i=>[(3,.p (.int .i64 ((Cv l i:Nat):Int))),(4,.p (.int .i64 (i:Int)))],own:=fun _=>[],inv:=fun i=>i<=l.n,mu:=fun i=>l.n-i })]}) (Ae f71) (Ao f71 [.p (.sl 2 l.n (fun i=>[.int .i64 (l.g i).x,.int .i64 (l.g i).y]))]) (Fp prog f71 (Nat) (YW l) 39 2 (YX l) (YY l)):=
 @Eq.mpr _ (let I:=SV.int .i64;let T:=AhD;let A9:=(1:Int);let A8:=(140737488355328:Nat);let A4:=(0:Int);let A3:=(l.n=l.n/\∀(i:Nat),let A7:=[I (l.g i).x,I (l.g i).y];i<l.n->A7=A7);let A2:=(↑l.n:Int);(∃(g:Nat),A4=(↑(Cv l g):Int)/\A4=(↑g:Int)/\g<=l.n)/\∀(g:Nat),let A5:=(↑g:Int);let A1:=(↑(Cv l g):Int);let A6:=(A2-A1);g<=l.n->(decide (A5<A2)=true->(A4<=A5/\A5<A2)/\(A4<=A1/\A1<A2)/\True/\(decide (BZ (l.g (T A5)) (l.g (T A1))<A4)=true->Ab .i64 (A5+A9)/\∃(g':Nat),A5=(↑(Cv l g'):Int)/\A5+A9=(↑g':Int)/\A3/\g'<=l.n/\l.n-g'<l.n-g)/\(decide (BZ (l.g (T A5)) (l.g (T A1))<A4)=false->Ab .i64 (A5+A9)/\∃(g':Nat),A1=(↑(Cv l g'):Int)/\A5+A9=(↑g':Int)/\A3/\g'<=l.n/\l.n-g'<l.n-g))/\(decide (A5<A2)=false->(A4<=A1/\A1<=A2/\A2<=A2)/\(0+T A6)*16<=A8/\(A4<=A4/\A4<=A1/\A1<=A2)/\(0+T A6+T (A1-A4))*16<=A8/\∃(t:Nat),(0+T A6+T (A1-A4)=l.n/\∀(i:Nat),i<0+T A6+T (A1-A4)->AH (0+T A6) (AH 0 (fun(x:Nat)=>[]) fun(i:Nat)=>[I (l.g (T A1+i)).x,I (l.g (T A1+i)).y]) (fun(i:Nat)=>[I (l.g (T A4+i)).x,I (l.g (T A4+i)).y]) i = [I (Ep l i).x,I (Ep l i).y])/\True)) (by kernel_rfl) (by
 conv=>zeta
 obtain⟨h1,hn⟩:=hp;refine⟨⟨(0:Nat),rfl,rfl,rH _⟩,fun g hg=>⟨fun hlt=>?_,fun hge=>?_⟩⟩
 ·have hb:(g:Int)<(l.n:Int):=of_decide_eq_true hlt;have e0:((g:Int)).toNat=g:=Ah7 g;have ha:=YH h1 g hg;have e1:((Cv l g:Int)).toNat=Cv l g:=Ah7 _;rw[e0,e1];have hs:Cv l (g+1)=bif decide (BZ (l.g g) (l.g (Cv l g))<0)then g else Cv l g:=rfl;refine⟨⟨by omega,hb⟩,⟨by omega,by omega⟩,trivial,fun h=>?_,fun h=>?_⟩
  ·rw[h]at hs;exact⟨jK,g+1,by rw[hs];rfl,by omega,rz,by omega,by omega⟩
  ·rw[h]at hs;exact⟨jK,g+1,by rw[hs];rfl,by omega,rz,by omega,by omega⟩
 ·have hb:¬ (g:Int)<(l.n:Int):=of_decide_eq_false hge;obtain rfl:g=l.n:=by omega
  have ha:=YH h1 l.n (Ah0 _);have e1:((Cv l l.n:Int)).toNat=Cv l l.n:=Ah7 _;refine⟨⟨by omega,by omega,AhV _⟩,show(0+((l.n:Int)-(Cv l l.n:Int)).toNat)*16<=140737488355328 by omega,⟨AhV _,by omega,by omega⟩,show(0+((l.n:Int)-(Cv l l.n:Int)).toNat+((Cv l l.n:Int)-0).toNat)*16<=140737488355328 by omega,(0:Nat),⟨show 0+((l.n:Int)-(Cv l l.n:Int)).toNat+((Cv l l.n:Int)-0).toNat=l.n by omega,fun i _=>?_⟩,trivial⟩;have e2:0+((l.n:Int)-(Cv l l.n:Int)).toNat=l.n-Cv l l.n:=by omega
  rw[e1,e2];unfold AH;have w:Ep l i=bif decide (i<l.n-Cv l l.n)then l.g (Cv l l.n+i)else l.g (i-(l.n-Cv l l.n)):=rfl
  by_cases h:i<l.n-Cv l l.n
  ·rw[if_pos h,w,decide_eq_true h,if_neg (oE _)];rfl
  ·rw[if_neg h,w,decide_eq_false h];show [SV.int .i64 (l.g (0+(i-(l.n-Cv l l.n)))).x,SV.int .i64 (l.g (0+(i-(l.n-Cv l l.n)))).y]=_;rw[AhO];rfl)
theorem AaC:Az prog 71 Za:=G5 func71 (c:=Ae f71) (by kernel_rfl) mixed (fun args p q n g hs hp=>by
 unfold YZ at hs;split at hs
 ·cases hs;exact⟨_,_,AaB _ hp.2,(.p (.sl hp.1) .nil),⟨show Aa prog _ from(Aa.cons Yk Yl Aa.nil),rfl,nz⟩⟩
 ·cases hs)
theorem AaD:An prog 71:=fun _ _=>by kernel_rfl
def Zb (l:L.Sq L.Pt):Prop:=l.n<=1000000/\∀k,k<l.n->As (l.g k)
def Zc (l:L.Sq L.Pt):SV:=.bool (DL l)
def Zd:List EV->Option (Prop×SV)
 |[.p (.sl 2 l_n l_g)]=>some ((∀i,i<l_n->l_g i = [.int .i64 (Ad (l_g i)).x,.int .i64 (Ad (l_g i)).y])/\Zb ⟨l_n,fun i=>Ad (l_g i)⟩,Zc ⟨l_n,fun i=>Ad (l_g i)⟩)
 |_=>none
abbrev Ze:SE.Spec:=(AM Zd)
def AaE:Aj:={ cC with specs:=AE [(12,IG)] }
theorem AaF (l:L.Sq L.Pt) (hp:Zb l):vc prog ({ AaE with loops:=AT [(2,{ T:=Nat,keep:=[0],keepO:=[],chg:=fun i=>[(3,.p (.int .i64 (i:Int)))],own:=fun _=>[],inv:=fun i=>i<=l.n/\(1<=i->∀j,j<l.n->l.g j=l.g 0),mu:=fun i=>l.n-i }),(5,{ T:=Nat×Nat,keep:=[0,3],keepO:=[],tie:=fun g=>[(3,.int .i64 (g.1:Int))],chg:=fun g=>[(4,.p (.int .i64 (g.2:Int)))],own:=fun _=>[],inv:=fun g=>g.1<g.2/\g.2<=l.n/\(1<=g.1->∀j,j<l.n->l.g j=l.g 0)/\∀j,g.1<=j->j<g.2->l.g j=l.g g.1,mu:=fun g=>l.n-g.2 }),(9,{ T:=Nat×Nat×Nat,keep:=[0,3,4],keepO:=[],tie:=fun g=>[(3,.int .i64 (g.1:Int)),(4,.int .i64 (g.2.1:Int))],chg:=fun g=>[(5,.p (.int .i64 (g.2.2:Int)))],own:=fun _=>[],inv:=fun g=>g.1=0/\(0<g.2.1/\g.2.1<l.n)/\FD l=(g.2.1:Int)/\g.2.2<=l.n/\∀j,j<g.2.2->Ay (l.g 0) (l.g g.2.1) (l.g j)=0,mu:=fun g=>l.n-g.2.2 })]}) (Ae f195) (Ao f195 [.p (.sl 2 l.n (fun i=>[.int .i64 (l.g i).x,.int .i64 (l.g i).y]))]) (AL prog f195 (Zc l)):=
 @Eq.mpr _ (let I:=SV.int .i64;let T:=AhD;let A11:=(1:Nat);let A10:=(1:Int);let A9:=(0:Int);let A7:=(0:Nat);let A6:=(↑l.n:Int);let A3:=(l.n=l.n/\∀(i:Nat),let A14:=[I (l.g i).x,I (l.g i).y];i<l.n->A14=A14);(∃(g:Nat),A9=(↑g:Int)/\g<=l.n/\(A11<=g->∀(j:Nat),j<l.n->l.g j=l.g A7))/\∀(g:Nat),let A2:=(↑g:Int);let A12:=(l.g (T A2));g<=l.n/\(A11<=g->∀(j:Nat),j<l.n->l.g j=l.g A7)->(decide (A2<A6)=true->Ab .i64 (A2+A10)/\(∃(g_1:Nat×Nat),A2+A10=(↑g_1.2:Int)/\A2=(↑g_1.1:Int)/\g_1.1<g_1.2/\g_1.2<=l.n/\(A11<=g_1.1->∀(j:Nat),j<l.n->l.g j=l.g A7)/\∀(j:Nat),g_1.1<=j->j<g_1.2->l.g j=l.g g_1.1)/\∀(g_1:Nat×Nat),let A1:=(↑g_1.2:Int);let A13:=(l.g (T A1));let A5:=(decide (A12.x=A13.x)&&decide (A12.y=A13.y));(A2=(↑g_1.1:Int)/\g_1.1<g_1.2/\g_1.2<=l.n/\(A11<=g_1.1->∀(j:Nat),j<l.n->l.g j=l.g A7)/\∀(j:Nat),g_1.1<=j->j<g_1.2->l.g j=l.g g_1.1)->(decide (A1<A6)=true->(A9<=A2/\A2<A6)/\(A9<=A1/\A1<A6)/\(A5=true->Ab .i64 (A1+A10)/\∃(g':Nat×Nat),A1+A10=(↑g'.2:Int)/\A2=A2/\A3/\(A2=(↑g'.1:Int)/\g'.1<g'.2/\g'.2<=l.n/\(A11<=g'.1->∀(j:Nat),j<l.n->l.g j=l.g A7)/\∀(j:Nat),g'.1<=j->j<g'.2->l.g j=l.g g'.1)/\l.n-g'.2<l.n-g_1.2)/\(A5=false->(∃(g_2:Nat×Nat×Nat),A9=(↑g_2.2.2:Int)/\A2=(↑g_2.1:Int)/\A1=(↑g_2.2.1:Int)/\g_2.1=A7/\(A7<g_2.2.1/\g_2.2.1<l.n)/\FD l=(↑g_2.2.1:Int)/\g_2.2.2<=l.n/\∀(j:Nat),j<g_2.2.2->Ay (l.g A7) (l.g g_2.2.1) (l.g j)=A9)/\∀(g_2:Nat×Nat×Nat),let A4:=(↑g_2.2.2:Int);let A8:=(!decide (Ay A12 A13 (l.g (T A4))=A9));(A2=(↑g_2.1:Int)/\A1=(↑g_2.2.1:Int)/\g_2.1=A7/\(A7<g_2.2.1/\g_2.2.1<l.n)/\FD l=(↑g_2.2.1:Int)/\g_2.2.2<=l.n/\∀(j:Nat),j<g_2.2.2->Ay (l.g A7) (l.g g_2.2.1) (l.g j)=A9)->(decide (A4<A6)=true->(A9<=A2/\A2<A6)/\(A9<=A1/\A1<A6)/\(A9<=A4/\A4<A6)/\(As A12/\As A13/\As (l.g (T A4)))/\(A8=true->false=DL l)/\(A8=false->Ab .i64 (A4+A10)/\∃(g':Nat×Nat×Nat),A4+A10=(↑g'.2.2:Int)/\A1=A1/\A2=A2/\A3/\(A2=(↑g'.1:Int)/\A1=(↑g'.2.1:Int)/\g'.1=A7/\(A7<g'.2.1/\g'.2.1<l.n)/\FD l=(↑g'.2.1:Int)/\g'.2.2<=l.n/\∀(j:Nat),j<g'.2.2->Ay (l.g A7) (l.g g'.2.1) (l.g j)=A9)/\l.n-g'.2.2<l.n-g_2.2.2))/\(decide (A4<A6)=false->true=DL l)))/\(decide (A1<A6)=false->Ab .i64 (A2+A10)/\∃(g':Nat),A2+A10=(↑g':Int)/\A3/\(g'<=l.n/\(A11<=g'->∀(j:Nat),j<l.n->l.g j=l.g A7))/\l.n-g'<l.n-g))/\(decide (A2<A6)=false->true=DL l)) (by kernel_rfl) (by
 conv=>zeta
 obtain⟨hn,hb⟩:=hp;refine⟨⟨0,rfl,rH _,fun h=>absurd h (by decide)⟩,fun g hg=>⟨fun hlt=>?_,fun hge=>?_⟩⟩;rotate_left
 ·have hge:¬ (g:Int)<(l.n:Int):=of_decide_eq_false hge;exact(YJ (fun j hj=>hg.2 (by omega) j hj)).symm
 have hlt:(g:Int)<(l.n:Int):=of_decide_eq_true hlt;refine⟨jK,⟨(g,g+1),by show(g:Int)+1=((g+1:Nat):Int);omega,rfl,Aiu g,by show g+1<=l.n;omega,hg.2,fun j q1 q2=>?_⟩,?_⟩
 ·have q1:g<=j:=q1;have q2:j<g+1:=q2;rw[show j=g by omega]
 rintro⟨i,k⟩ ⟨e,hik,hkn,ha,hs⟩;have e:(g:Int)=(i:Int):=e;obtain rfl:g=i:=by omega
 have hik:g<k:=hik;have hkn:k<=l.n:=hkn;have ha:1<=g->∀j,j<l.n->l.g j=l.g 0:=ha;have hs:∀j,g<=j->j<k->l.g j=l.g g:=hs;refine⟨fun hk=>?_,fun hk=>?_⟩;rotate_left
 ·have hk:¬ (k:Int)<(l.n:Int):=of_decide_eq_false hk;refine⟨jK,g+1,by omega,rz,⟨by omega,fun _ j hj=>?_⟩,by omega⟩;rcases AiA g with h|h
  ·subst h;exact hs j (rH _) (by omega)
  ·exact ha h j hj
 have hkl:(k:Int)<(l.n:Int):=of_decide_eq_true hk;clear hk;refine⟨⟨AhN _,hlt⟩,⟨AhN _,hkl⟩,fun h=>?_,fun h=>?_⟩
 ·have e:Bh (l.g g) (l.g k)=true:=h;refine⟨show Ab .i64 ((k:Int)+1)from jK,(g,k+1),by show(k:Int)+1=((k+1:Nat):Int);omega,rfl,rz,⟨rfl,by show g<k+1;omega,by show k+1<=l.n;omega,ha,fun j q1 q2=>?_⟩,by show l.n-(k+1)<l.n-k;omega⟩;have q2:j<k+1:=q2;rcases Ah6.1 q2 with h|rfl
  ·exact hs j q1 h
  ·exact(IE e).symm
 have e:Bh (l.g g) (l.g k)=false:=h;have hne:l.g g≠l.g k:=fun q=>by rw[q,GZ]at e;cases e
 have hg0:g=0:=by
  rcases AiA g with h|h
  ·exact h
  ·exact absurd ((ha h g (by omega)).trans (ha h k (by omega)).symm) hne
 subst hg0;have hf:FD l=(k:Int):=QY (by omega) (fun j hj=>hs j (rH _) hj) (fun q=>hne q.symm);have fl:DL l = !BH l.n (fun i=>!decide (Ay (l.g 0) (l.g k) (l.g i)=0)):=by
  unfold DL;rw[hf,decide_eq_false (show ¬ (k:Int)<0 by omega),cond_false,Ah7]
 refine⟨⟨(0,k,0),rfl,rfl,rfl,rfl,⟨hik,by show k<l.n;omega⟩,hf,rH _,fun j hj=>absurd hj (oE _)⟩,?_⟩;rintro⟨i,k',m⟩ ⟨_,e2,_,_,_,hm,hc⟩;have e2:(k:Int)=(k':Int):=e2;obtain rfl:k=k':=by omega
 have hm:m<=l.n:=hm;have hc:∀j,j<m->Ay (l.g 0) (l.g k) (l.g j)=0:=hc;refine⟨fun hmn=>?_,fun hmn=>?_⟩
 ·have hmn:(m:Int)<(l.n:Int):=of_decide_eq_true hmn;refine⟨⟨AhN _,hlt⟩,⟨AhN _,hkl⟩,⟨AhN _,hmn⟩,⟨hb 0 (by omega),hb k (by omega),hb m (by omega)⟩,fun h=>?_,fun h=>?_⟩
  ·have h:(!decide (Ay (l.g 0) (l.g k) (l.g m)=0))=true:=h;rw[fl,EO.2 ⟨m,by omega,h⟩];rfl
  ·have h:(!decide (Ay (l.g 0) (l.g k) (l.g m)=0))=false:=h;refine⟨show Ab .i64 ((m:Int)+1)from jK,(0,k,m+1),by show(m:Int)+1=((m+1:Nat):Int);omega,rfl,rfl,rz,⟨rfl,rfl,rfl,⟨hik,by show k<l.n;omega⟩,hf,by show m+1<=l.n;omega,fun j hj=>?_⟩,by show l.n-(m+1)<l.n-m;omega⟩;have hj:j<m+1:=hj;rcases Ah6.1 hj with h'|rfl
   ·exact hc j h'
   ·exact of_decide_eq_true (B5 h)
 ·have hmn:¬ (m:Int)<(l.n:Int):=of_decide_eq_false hmn;rw[fl,VX (fun i hi=>by rw[decide_eq_true (hc i (by omega))];rfl)];rfl)
theorem AaG:Az prog 195 Ze:=AN func195 (c:=Ae f195) (by kernel_rfl) mixed (fun _ _ _ hs hp=>by
 unfold Zd at hs;split at hs
 ·cases hs;exact⟨_,_,AaF _ hp.2,(.p (.sl hp.1) .nil),⟨show Aa prog _ from(Aa.cons J7 J8 Aa.nil),rfl,nz⟩⟩
 ·cases hs)
theorem AaH:An prog 195:=fun _ _=>by kernel_rfl
def Bj (l:L.Sq L.Pt) (i:Nat):Bool:=bif decide (i=0)then true else !Bh (l.g i) (l.g (i-1))
def Eh (l:L.Sq L.Pt):Nat:=AJ (Bj l) l.n
def DM (l:L.Sq L.Pt) (i:Nat):L.Pt:=bif decide (i<Eh l)then l.g (BI (Bj l) l.n i)else⟨0,0⟩
def CD (l:L.Sq L.Pt):L.Sq L.Pt:=⟨Eh l,DM l⟩
def Dn (l:L.Sq L.Pt) (j:Nat) (i:Nat):L.Pt:=bif decide (i<AJ (Bj l) j)then l.g (BI (Bj l) j i)else l.g i
theorem Of {p:Nat->Bool}:∀{k:Nat},(∀j,j<k->p j=true)->AJ p k=k/\∀i,i<k->BI p k i=i
 |0,_=>⟨rfl,fun i hi=>absurd hi (oE _)⟩
 |k+1,h=>by
   obtain⟨h1,h2⟩:=Of (p:=p) (k:=k) (fun j hj=>h j (by omega));have hk:=h k (by omega);refine⟨by rw[H1 hk,h1],fun i hi=>?_⟩
   by_cases e:i=k
   ·subst e;have:=HR hk;rwa[h1]at this
   ·rw[H3 (by omega),h2 i (by omega)]
theorem AaI {l:L.Sq L.Pt} {k:Nat} (h:∀j,j<k->Bj l j=true) (i:Nat):Dn l k i=l.g i:=by
 obtain⟨h1,h2⟩:=Of h;unfold Dn;rw[h1]
 by_cases hi:i<k
 ·rw[decide_eq_true hi,h2 i hi];rfl
 ·rw[decide_eq_false hi];rfl
theorem AaJ {l:L.Sq L.Pt} {j:Nat} (h:Bj l j=true) (i:Nat):Dn l (j+1) i=if i=AJ (Bj l) j then l.g j else Dn l j i:=by
 unfold Dn;rw[H1 h]
 by_cases e:i=AJ (Bj l) j
 ·rw[if_pos e,decide_eq_true (by omega),e,HR h];rfl
 ·rw[if_neg e]
  by_cases hi:i<AJ (Bj l) j
  ·rw[decide_eq_true hi,decide_eq_true (show i<AJ (Bj l) j+1 by omega),H3 e]
  ·rw[decide_eq_false hi,decide_eq_false (show ¬ i<AJ (Bj l) j+1 by omega)];rfl
theorem Zf {l:L.Sq L.Pt} {j:Nat} (h:Bj l j=false) (i:Nat):Dn l (j+1) i=Dn l j i:=by
 unfold Dn;rw[GW h,IC h]
theorem Zg {l:L.Sq L.Pt} {j i:Nat} (h:AJ (Bj l) j<=i):Dn l j i=l.g i:=by
 unfold Dn;rw[decide_eq_false (by omega)];rfl
def FE (l:L.Sq L.Pt) (i:Nat):Bool:=bif Bh (G9 l.g l.n (Ep l 0) (i+1)) (Ep l 0)then true else decide ((400:Int)<((i+1:Nat):Int))
def Au (l:L.Sq L.Pt):Nat:=(BQ 401 (FE l)).toNat+1
def AR (l:L.Sq L.Pt) (k:Nat):L.Pt:=G9 l.g l.n (Ep l 0) k
theorem QZ {g:Nat->L.Pt} {f:L.Pt} (hf:As f):∀{n:Nat},(∀i,i<n->As (g i))->As (C0 g f n)
 |0,_=>hf
 |n+1,h=>by
   unfold C0;cases FC f (C0 g f n) (g n)with
   |true=>exact h n (by omega)
   |false=>exact QZ hf (fun i hi=>h i (by omega))
theorem Ra {l:L.Sq L.Pt} (h1:1<=l.n):∃j,j<l.n/\Ep l 0=l.g j:=by
 obtain⟨_,h2,_⟩:=Oe l (l.n-1);rw[show l.n-1+1=l.n by omega]at h2;refine⟨M5 l,by unfold M5;omega,?_⟩;unfold Ep Q9;dsimp only;rw[decide_eq_true (by unfold M5;omega)];rfl
theorem AaK {l:L.Sq L.Pt} (h1:1<=l.n):Ep l 0=Gn l (l.n-1):=by
 obtain⟨h0,h2,_⟩:=Oe l (l.n-1);rw[show l.n-1+1=l.n by omega]at h0 h2;rw[<- h0];unfold Ep Q9;dsimp only;rw[decide_eq_true (by unfold M5;omega)];rfl
theorem AaL {l:L.Sq L.Pt} (h1:1<=l.n) (h:∀i,i<l.n->As (l.g i)):As (Ep l 0):=by
 obtain⟨j,hj,e⟩:=Ra h1;rw[e];exact h j hj
theorem Zh {l:L.Sq L.Pt} (h1:1<=l.n) (h:∀i,i<l.n->As (l.g i)):∀k,As (AR l k)
 |0=>AaL h1 h
 |k+1=>QZ (Zh h1 h k) h
theorem AaM (f t q:L.Pt):(bif bif (decide (t.x=f.x)&&decide (t.y=f.y))then true else decide (Ay f t q<0)then true else bif decide (Ay f t q=0)then decide (DB f t<DB f q)else false)=FC f t q:=by
 unfold FC;cases decide (t.x=f.x)<;>cases decide (t.y=f.y)<;>cases decide (Ay f t q<0)<;>rfl
theorem JA {f:Nat->Bool}:∀{n:Nat},(BQ n f = -1/\∀j,j<n->f j=false)\/∃i:Nat,i<n/\BQ n f=(i:Int)/\f i=true/\∀j,j<i->f j=false
 |0=>.inl ⟨rfl,fun j hj=>absurd hj (oE _)⟩
 |n+1=>by
   rcases JA (f:=f) (n:=n)with ⟨h1,h2⟩|⟨i,h1,h2,h3,h4⟩
   ·cases hf:f n with
    |true=>exact .inr ⟨n,Aiu n,by simp[BQ,h1,hf],hf,h2⟩
    |false =>
      refine .inl ⟨by simp[BQ,h1,hf],fun j hj=>?_⟩;rcases Ah6.1 hj with h|rfl
      ·exact h2 j h
      ·exact hf
   ·exact .inr ⟨i,by omega,by simp[BQ,h2],h3,h4⟩
theorem Zi {l:L.Sq L.Pt} {g:Nat} (hg:g<=400) (h0:∀i,i<g->FE l i=false) (h1:FE l g=true):Au l=g+1:=by
 have:BQ 401 (FE l)=(g:Int):=by
  rcases JA (f:=FE l) (n:=401)with ⟨_,h⟩|⟨i,hi,e,h2,h3⟩
  ·rw[h g (by omega)]at h1;cases h1
  ·rw[e];rcases AiE i g with q|q|q
   ·rw[h0 i q]at h2;cases h2
   ·rw[q]
   ·rw[h3 g q]at h1;cases h1
 unfold Au;rw[this,Ah7]
def Cb (l:L.Sq L.Pt) (m:Nat):Int:=bif (bif decide (400<(l.n:Int))then true else !DI l)then 1 else bif DL l then 11 else bif decide (24<(m:Int))then 2 else 0
theorem Zj {a b:L.Pt}:E0 a b↔DD 1 a b:=by
 unfold E0 DD Dm;rw[Mu,Int.one_mul,Int.one_mul];omega
structure AaN (l:L.Sq L.Pt) (j:Nat):Prop where
 lt:∀i,i<AJ (Bj l) j->BI (Bj l) j i<j
 all:∀q,q<j->∃i,i<AJ (Bj l) j/\l.g (BI (Bj l) j i)=l.g q
 asc:∀i k,i<k->k<AJ (Bj l) j->BX 1 (l.g (BI (Bj l) j i)) (l.g (BI (Bj l) j k))
 last:0<j->0<AJ (Bj l) j/\l.g (BI (Bj l) j (AJ (Bj l) j-1))=l.g (j-1)
theorem Zk {l:L.Sq L.Pt} (h:∀i,i+1<l.n->DD 1 (l.g i) (l.g (i+1))):∀j,j<=l.n->AaN l j
 |0,_=>⟨fun i hi=>absurd hi (oE _),fun q hq=>absurd hq (oE _),fun i k _ hk=>absurd hk (oE _),fun h=>absurd h (Nat.lt_irrefl _)⟩
 |j+1,hj=>by
   obtain⟨h1,h2,h3,h4⟩:=Zk h j (by omega);cases hp:Bj l j with
   |true =>
     have hc:=H1 hp;have hn:=HR hp;have ho:∀i,i<AJ (Bj l) j->BI (Bj l) (j+1) i=BI (Bj l) j i:=fun i hi=>H3 (by omega);refine⟨fun i hi=>?_,fun q hq=>?_,fun i k hik hk=>?_,fun _=>?_⟩
     ·rw[hc]at hi
      by_cases e:i=AJ (Bj l) j
      ·rw[e,hn];omega
      ·rw[ho i (by omega)];have:=h1 i (by omega);omega
     ·by_cases e:q=j
      ·exact⟨AJ (Bj l) j,by omega,by rw[hn,e]⟩
      ·obtain⟨i,hi,e2⟩:=h2 q (by omega);exact⟨i,by omega,by rw[ho i hi];exact e2⟩
     ·rw[hc]at hk
      by_cases e:k=AJ (Bj l) j
      ·subst e;rw[ho i hik,hn];have h0:0<j:=by
        rcases AiA j with g|g
        ·subst g;exact absurd hik (oE _)
        ·exact g
       obtain⟨l1,l2⟩:=h4 h0;have hlt:BX 1 (l.g (j-1)) (l.g j):=by
        have hle:=h (j-1) (by omega);rw[show j-1+1=j by omega]at hle;rcases NW (.inl rfl) hle with g|g
        ·exfalso;unfold Bj at hp;rw[decide_eq_false (by omega),cond_false,g,GZ]at hp;cases hp
        ·exact g
       by_cases e2:i=AJ (Bj l) j-1
       ·rw[e2,l2];exact hlt
       ·have:=h3 i (AJ (Bj l) j-1) (by omega) (by omega);rw[l2]at this;exact Mw this hlt
      ·rw[ho i (by omega),ho k (by omega)];exact h3 i k hik (by omega)
     ·rw[hc,Nat.add_sub_cancel,hn];exact⟨Nat.succ_pos _,rfl⟩
   |false =>
     have hc:=GW hp;have ho:∀i,BI (Bj l) (j+1) i=BI (Bj l) j i:=fun i=>IC hp;have h0:0<j:=by
      rcases AiA j with g|g
      ·subst g;exact absurd (show Bj l 0=true from rfl) (by rw[hp];exact Bool.noConfusion)
      ·exact g
     have hs:l.g j=l.g (j-1):=by
      unfold Bj at hp;rw[decide_eq_false (by omega),cond_false]at hp;exact IE (B5 hp)
     obtain⟨l1,l2⟩:=h4 h0;refine⟨fun i hi=>?_,fun q hq=>?_,fun i k hik hk=>?_,fun _=>?_⟩
     ·rw[ho];rw[hc]at hi;have:=h1 i hi;omega
     ·by_cases e:q=j
      ·exact⟨AJ (Bj l) j-1,by omega,by rw[ho,l2,e,hs]⟩
      ·obtain⟨i,hi,e2⟩:=h2 q (by omega);exact⟨i,by omega,by rw[ho];exact e2⟩
     ·rw[ho,ho];exact h3 i k hik (by omega)
     ·rw[hc,ho];exact⟨l1,by rw[l2,Nat.add_sub_cancel,hs]⟩
theorem AaO {l:L.Sq L.Pt} {i:Nat} (h:i+1<l.n):DD 1 ((AA l).g i) ((AA l).g (i+1)):=by
 have hl:(EQ (DC l)).length=l.n:=by rw[(HT _).length_eq];simp[DC]
 have:=Aij.1 (NS (DC l)) i (i+1) (by omega) (by omega) (Aiu _);rw[Zj]at this;show DD 1 ((EQ (DC l)).getD i ⟨0,0⟩) ((EQ (DC l)).getD (i+1) ⟨0,0⟩);rw[AS,AS,Ahz (by omega),Ahz (by omega)];exact this
theorem Rb (l:L.Sq L.Pt) {i:Nat} (hi:i<l.n):∃k,k<l.n/\(AA l).g k=l.g i:=by
 have hl:(EQ (DC l)).length=l.n:=by rw[(HT _).length_eq];simp[DC]
 have hm:l.g i∈EQ (DC l):=(HT _).mem_iff.2 (List.mem_map.2 ⟨i,List.mem_range.2 hi,rfl⟩);obtain⟨k,hk,e⟩:=List.getElem_of_mem hm;refine⟨k,by omega,?_⟩;show(EQ (DC l)).getD k ⟨0,0⟩=_;rw[AS,Ahz hk];exact e
theorem Rc (l:L.Sq L.Pt):(∀i k,i<k->k<(CD (AA l)).n->BX 1 ((CD (AA l)).g i) ((CD (AA l)).g k))/\(∀i,i<(CD (AA l)).n->∃j,j<l.n/\(CD (AA l)).g i=l.g j)/\(∀j,j<l.n->∃i,i<(CD (AA l)).n/\(CD (AA l)).g i=l.g j)/\(CD (AA l)).n<=l.n:=by
 obtain⟨h1,h2,h3,_⟩:=Zk (l:=AA l) (fun i hi=>AaO hi) l.n (Ah0 _);have e:∀i,i<Eh (AA l)->(CD (AA l)).g i=(AA l).g (BI (Bj (AA l)) l.n i):=fun i hi=>by
  show DM (AA l) i=_;unfold DM;rw[decide_eq_true hi];rfl
 refine⟨fun i k hik hk=>?_,fun i hi=>?_,fun j hj=>?_,H0⟩
 ·have hk:k<Eh (AA l):=hk;rw[e i (by omega),e k hk];exact h3 i k hik hk
 ·obtain⟨j,hj,e2⟩:=KF l (h1 i hi);exact⟨j,hj,(e i hi).trans e2⟩
 ·obtain⟨k,hk,e2⟩:=Rb l hj;obtain⟨i,hi,e3⟩:=h2 k hk;exact⟨i,hi,((e i hi).trans e3).trans e2⟩
theorem Zl {l:L.Sq L.Pt} (h:YI l):2<=(CD (AA l)).n:=by
 obtain⟨i,j,hi,hj,hne⟩:=h;obtain⟨_,_,h3,_⟩:=Rc l;obtain⟨a,ha,ea⟩:=h3 i hi;obtain⟨b,hb,eb⟩:=h3 j hj;have:a≠b:=fun e=>hne (by rw[<- ea,<- eb,e]);omega
theorem Zm {l:L.Sq L.Pt} (h:l.n<3):DL l=true:=by
 by_cases hall:∀j,j<l.n->l.g j=l.g 0
 ·exact YJ hall
 ·have h2 : l.n = 2 :=by
   by_cases h0:l.n=2
   ·exact h0
   ·exact absurd (fun j hj=>by rw[show j=0 by omega]) hall
  have hne:l.g 1≠l.g 0:=fun e=>hall (fun j hj=>by
   rcases(show j=0\/j=1 by omega)with rfl|rfl
   ·rfl
   ·exact e)
  have hf:=QY (l:=l) (k:=1) (by omega) (fun j hj=>by rw[show j=0 by omega]) hne;unfold DL;rw[hf,decide_eq_false (show ¬ ((1:Nat):Int)<0 by omega),cond_false,VX (fun i hi=>?_)]
  ·rfl
  ·rcases(show i=0\/i=1 by omega)with rfl|rfl
   ·show(!decide (Ay (l.g 0) (l.g 1) (l.g 0)=0))=false;rw[decide_eq_true (QO _ _)];rfl
   ·show(!decide (Ay (l.g 0) (l.g 1) (l.g 1)=0))=false;rw[decide_eq_true (QN _ _)];rfl
abbrev KK:Tr:={ T:=(L.Sq L.Pt),U:=Nat,args:=fun t=>(fun l=>[.row 1022]) t,own:=fun t=>(fun l=>[(1022,.row 39 2 l.n (fun k=>[.int .i64 (l.g k).x,.int .i64 (l.g k).y]))]) t,pre:=fun t=>(fun l=>l.n<=1000000) t,post:=fun t u=>(fun l=>fun u=>True) t u,own':=fun t u=>(fun l=>fun u=>[(1022,.row 39 2 l.n (fun k=>[.int .i64 (DM l k).x,.int .i64 (DM l k).y]))]) t u,res:=fun t u=>(fun l=>fun u=>.rsub 1022 2 0 (Eh l)) t u }
theorem AaP (l:L.Sq L.Pt) (hp:KK.pre l):vc prog ({ muts:=[],frz:=B9 [],specs:=AE [],loops:=AT [(4,{ T:=Nat,keep:=[0],keepO:=[1022],chg:=fun k=>[(3,.p (.int .i64 (k:Int)))],own:=fun _=>[],inv:=fun k=>1<=k/\k<=l.n/\∀j,j<k->Bj l j=true,mu:=fun k=>l.n-k }),(9,{ T:=Nat×Nat,keep:=[0],keepO:=[],chg:=fun g=>[(3,.p (.int .i64 (AJ (Bj l) g.2:Int))),(4,.rsub 1022 2 g.1 (l.n-g.1)),(5,.p (.int .i64 ((g.2:Int)-(g.1:Int))))],own:=fun g=>[(1022,.row 39 2 l.n (fun k=>[.int .i64 (Dn l g.2 k).x,.int .i64 (Dn l g.2 k).y]))],inv:=fun g=>1<=g.1/\g.1<g.2/\g.2<=l.n/\AJ (Bj l) g.2<g.2,mu:=fun g=>l.n-g.2 })],iters:=BG [],rfs:=AQ [],nils:=B3 [] }) (Ae f163) (DH f163 (KK.args l) (KK.own l)) (NG prog f163 KK l):=
 @Eq.mpr _ (let I:=SV.int .i64;let T:=AhD;let A16:=(1:Nat);let A15:=((0:Nat)=0/\Eh l=l.n);let A13:=(Bj l);let A11:=(0:Int);let A10:=(l.n=l.n/\∀(i:Nat),i<l.n -> [I (l.g i).x,I (l.g i).y]= [I (DM l i).x,I (DM l i).y]);let A8:=(1:Int);let A6:=(↑l.n:Int);(decide (A6<2)=true->∃(u:Nat),A15/\A10/\True)/\(decide (A6<2)=false->(∃(g:Nat),A8=(↑g:Int)/\A16<=g/\g<=l.n/\∀(j:Nat),j<g->Bj l j=true)/\∀(g:Nat),let A7:=(↑g:Int);let A20:=(A7-A8);let A5:=(decide ((l.g (T A7)).x=(l.g (T A20)).x)&&decide ((l.g (T A7)).y=(l.g (T A20)).y));(A16<=g/\g<=l.n/\∀(j:Nat),j<g->Bj l j=true)->(decide (A7<A6)=true->(A11<=A7/\A7<A6)/\T A7<l.n/\Ab .i64 A20/\(A11<=A7-A8/\A7-A8<A6)/\T A20<l.n/\(A5=true->(A11<=A7/\A7<=A6/\A6<=A6)/\(∃(g_1:Nat×Nat),A7=(↑(AJ A13 g_1.2):Int)/\(T A7=g_1.1/\T (A6-A7)=l.n-g_1.1)/\A8=(↑g_1.2:Int)-(↑g_1.1:Int)/\(l.n=l.n/\∀(i:Nat),i<l.n -> [I (l.g i).x,I (l.g i).y]= [I (Dn l g_1.2 i).x,I (Dn l g_1.2 i).y])/\A16<=g_1.1/\g_1.1<g_1.2/\g_1.2<=l.n/\AJ A13 g_1.2<g_1.2)/\∀(g_1:Nat×Nat),let A12:=(↑(l.n-g_1.1):Int);let A4:=(↑g_1.1:Int);let A3:=(↑g_1.2:Int);let A19:=(A3-A4-A8);let A17:=(A11<=A3-A4/\A3-A4<A12);let A14:=(Dn l g_1.2 (g_1.1+T A19));let A9:=(Dn l g_1.2 (g_1.1+T (A3-A4)));let A2:=(!(decide (A9.x=A14.x)&&decide (A9.y=A14.y)));let A1:=(↑(AJ A13 g_1.2):Int);A16<=g_1.1/\g_1.1<g_1.2/\g_1.2<=l.n/\AJ A13 g_1.2<g_1.2->(decide (A3-A4<A12)=true->A17/\g_1.1+T (A3-A4)<l.n/\Ab .i64 A19/\(A11<=A3-A4-A8/\A3-A4-A8<A12)/\g_1.1+T A19<l.n/\(A2=true->A17/\g_1.1+T (A3-A4)<l.n/\(A11<=A1/\A1<A6)/\T A1<l.n/\Ab .i64 (A1+A8)/\Ab .i64 (A3-A4+A8)/\∃(g':Nat×Nat),A1+A8=(↑(AJ A13 g'.2):Int)/\(g_1.1=g'.1/\l.n-g_1.1=l.n-g'.1)/\A3-A4+A8=(↑g'.2:Int)-(↑g'.1:Int)/\(l.n=l.n/\∀(i:Nat),i<l.n->setRow (fun(k:Nat)=>[I (Dn l g_1.2 k).x,I (Dn l g_1.2 k).y]) (T A1) 0 [I A9.x,I A9.y] i = [I (Dn l g'.2 i).x,I (Dn l g'.2 i).y])/\(A16<=g'.1/\g'.1<g'.2/\g'.2<=l.n/\AJ A13 g'.2<g'.2)/\l.n-g'.2<l.n-g_1.2)/\(A2=false->Ab .i64 (A3-A4+A8)/\∃(g':Nat×Nat),A1=(↑(AJ A13 g'.2):Int)/\(g_1.1=g'.1/\l.n-g_1.1=l.n-g'.1)/\A3-A4+A8=(↑g'.2:Int)-(↑g'.1:Int)/\(l.n=l.n/\∀(i:Nat),i<l.n -> [I (Dn l g_1.2 i).x,I (Dn l g_1.2 i).y]= [I (Dn l g'.2 i).x,I (Dn l g'.2 i).y])/\(A16<=g'.1/\g'.1<g'.2/\g'.2<=l.n/\AJ A13 g'.2<g'.2)/\l.n-g'.2<l.n-g_1.2))/\(decide (A3-A4<A12)=false->(A11<=A1/\A1<=A6/\A6<=A6)/\T A1+T (A6-A1)<=l.n/\(A11<=A11/\A11<=A1/\A1<=A6)/\∃(u:Nat),(0=0/\T (A1-A11)=Eh l)/\(l.n=l.n/\∀(i:Nat),i<l.n->Jh (T A1) (T (A6-A1)) [I A11,I A11] (fun(k:Nat)=>[I (Dn l g_1.2 k).x,I (Dn l g_1.2 k).y]) i = [I (DM l i).x,I (DM l i).y])/\True))/\(A5=false->Ab .i64 (A7+A8)/\∃(g':Nat),A7+A8=(↑g':Int)/\(l.n=l.n/\∀(i:Nat),let A18:=[I (l.g i).x,I (l.g i).y];i<l.n->A18=A18)/\(A16<=g'/\g'<=l.n/\∀(j:Nat),j<g'->Bj l j=true)/\l.n-g'<l.n-g))/\(decide (A7<A6)=false->∃(u:Nat),A15/\A10/\True))) (by kernel_rfl) (by
 conv=>zeta
 have hn:l.n<=1000000:=hp;have hN:∀j,1<=j->Bj l j = !Bh (l.g j) (l.g (j-1)):=fun j hj=>by
  unfold Bj;rw[decide_eq_false (by omega)];rfl
 have full:(∀j,j<l.n->Bj l j=true)->∃u:Nat,(0=0/\Eh l=l.n)/\(l.n=l.n/\∀i:Nat,i<l.n -> [SV.int .i64 (l.g i).x,SV.int .i64 (l.g i).y]= [SV.int .i64 (DM l i).x,SV.int .i64 (DM l i).y])/\True:=fun h=>by
  obtain⟨c1,c2⟩:=Of h;refine⟨(0:Nat),⟨rfl,c1⟩,⟨rfl,fun i hi=>?_⟩,trivial⟩;have:DM l i=l.g i:=by
   unfold DM Eh;rw[c1,decide_eq_true hi,c2 i hi];rfl
  rw[this]
 refine⟨fun h=>full (fun j hj=>?_),fun h=>⟨⟨1,rfl,Ah0 _,?_,fun j hj=>?_⟩,fun g hg=>⟨fun hlt=>?_,fun hge=>?_⟩⟩⟩
 ·have h:=of_decide_eq_true h;rw[show j=0 by omega];rfl
 ·have h:=of_decide_eq_false h;omega
 ·rw[show j=0 by omega];rfl
 rotate_left
 ·have hge:¬ (g:Int)<(l.n:Int):=of_decide_eq_false hge;exact full (fun j hj=>hg.2.2 j (by omega))
 have hlt:(g:Int)<(l.n:Int):=of_decide_eq_true hlt;obtain⟨g1,g2,g3⟩:=hg;have e0:((g:Int)).toNat=g:=Ah7 g;have e1:((g:Int)-1).toNat=g-1:=by omega
 rw[e0,e1];refine⟨⟨by omega,hlt⟩,by omega,jK,⟨by omega,by omega⟩,by omega,fun hd=>?_,fun hd=>?_⟩;rotate_left
 ·have hd:Bh (l.g g) (l.g (g-1))=false:=hd;have hp0:Bj l g=true:=by rw[hN g g1,hd];rfl
  refine⟨jK,g+1,rfl,rz,⟨by omega,by omega,fun j hj=>?_⟩,by omega⟩;rcases Ah6.1 hj with h'|rfl
  ·exact g3 j h'
  ·exact hp0
 have hd:Bh (l.g g) (l.g (g-1))=true:=hd;have hp0:Bj l g=false:=by rw[hN g g1,hd];rfl
 have hcg:AJ (Bj l) g=g:=(Of g3).1;have hc1:AJ (Bj l) (g+1)=g:=by rw[GW hp0,hcg]
 refine⟨⟨by omega,by omega,AhV _⟩,⟨(g,g+1),by rw[hc1],⟨rfl,by omega⟩,by show(1:Int)=((g+1:Nat):Int)-(g:Int);omega,⟨rfl,fun i hi=>?_⟩,g1,by show g<g+1;omega,by show g+1<=l.n;omega,by show AJ (Bj l) (g+1)<g+1;omega⟩,fun q hq=>?_⟩
 ·rw[Zf hp0,AaI g3]
 obtain⟨k0,j⟩:=q;obtain⟨h1,h2,h3,h4⟩:=hq;dsimp only at h1 h2 h3 h4 ⊢;have e2:k0+((j:Int)-(k0:Int)).toNat=j:=by omega
 have e3:k0+((j:Int)-(k0:Int)-1).toNat=j-1:=by omega
 have e4:((AJ (Bj l) j:Nat):Int).toNat=AJ (Bj l) j:=Ah7 _;rw[e2,e3,e4,Zg (show AJ (Bj l) j<=j by omega),Zg (show AJ (Bj l) j<=j-1 by omega)];refine⟨fun hj=>?_,fun hj=>?_⟩
 ·have hj:(j:Int)-(k0:Int)<((l.n-k0:Nat):Int):=of_decide_eq_true hj;have hjn:j<l.n:=by omega
  refine⟨⟨by omega,hj⟩,by omega,jK,⟨by omega,by omega⟩,by omega,fun hd2=>?_,fun hd2=>?_⟩
  ·have hp1:Bj l j=true:=(hN j (by omega)).trans hd2;have hc2:=H1 hp1;refine⟨⟨by omega,hj⟩,by omega,⟨by omega,by omega⟩,by omega,jK,jK,(k0,j+1),by show _=((AJ (Bj l) (j+1):Nat):Int);omega,⟨rfl,rfl⟩,by show _=((j+1:Nat):Int)-(k0:Int);omega,⟨rfl,fun i hi=>?_⟩,⟨h1,by show k0<j+1;omega,by show j+1<=l.n;omega,by show AJ (Bj l) (j+1)<j+1;omega⟩,by show l.n-(j+1)<l.n-j;omega⟩;rw[AaJ hp1];unfold setRow
   by_cases eq:i=AJ (Bj l) j
   ·rw[if_pos eq,if_pos eq];rfl
   ·rw[if_neg eq,if_neg eq]
  ·have hp1:Bj l j=false:=(hN j (by omega)).trans hd2;have hc2:=GW hp1;refine⟨jK,(k0,j+1),by show _=((AJ (Bj l) (j+1):Nat):Int);omega,⟨rfl,rfl⟩,by show _=((j+1:Nat):Int)-(k0:Int);omega,⟨rfl,fun i hi=>by rw[Zf hp1]⟩,⟨h1,by show k0<j+1;omega,by show j+1<=l.n;omega,by show AJ (Bj l) (j+1)<j+1;omega⟩,by show l.n-(j+1)<l.n-j;omega⟩
 ·have hj:¬ (j:Int)-(k0:Int)<((l.n-k0:Nat):Int):=of_decide_eq_false hj;obtain rfl:j=l.n:=by omega
  have e5:((l.n:Int)-((AJ (Bj l) l.n:Nat):Int)).toNat=l.n-AJ (Bj l) l.n:=by omega
  refine⟨⟨by omega,by omega,AhV _⟩,by omega,⟨by omega,by omega,by omega⟩,(0:Nat),⟨rfl,by show(((AJ (Bj l) l.n:Nat):Int)-0).toNat=AJ (Bj l) l.n;omega⟩,⟨rfl,fun i hi=>?_⟩,trivial⟩;rw[e5];unfold Jh
  by_cases hi':i<AJ (Bj l) l.n
  ·rw[if_neg (by omega)];have:Dn l l.n i=DM l i:=by
    unfold Dn DM Eh;rw[decide_eq_true hi'];rfl
   dsimp only;rw[this]
  ·rw[if_pos ⟨by omega,by omega⟩];have:DM l i=⟨0,0⟩:=by
    unfold DM Eh;rw[decide_eq_false hi'];rfl
   rw[this])
theorem AaQ:An prog 163:=fun _ _=>by kernel_rfl
theorem AaR:Gf prog 163 KK:=Ql (ks:=[1022]) (n:=1) func163 (c:=Ae f163) (by kernel_rfl) mixed ⟨fun t=>rfl,fun t=>rfl,fun t u=>rfl,fun t u=>rfl,fun t u=>rfl,by kernel_rfl⟩ (fun l hp=>⟨_,AaP l hp,⟨show Aa prog _ from Aa.nil,rfl,nz⟩⟩)
def Zn (l:L.Sq L.Pt):Prop:=1<=l.n/\l.n<=1000/\∀k,k<l.n->As (l.g k)
def Zo (l:L.Sq L.Pt):SV:=.sl 2 (Au l) (fun k=>[.int .i64 (AR l k).x,.int .i64 (AR l k).y])
def Zp:List EV->Option (Prop×SV)
 |[.p (.sl 2 l_n l_g)]=>some ((∀i,i<l_n->l_g i = [.int .i64 (Ad (l_g i)).x,.int .i64 (Ad (l_g i)).y])/\Zn ⟨l_n,fun i=>Ad (l_g i)⟩,Zo ⟨l_n,fun i=>Ad (l_g i)⟩)
 |_=>none
abbrev Re:SE.Spec:=(AM Zp)
def AaS:Aj:={ cC with muts:=[14],specs:=AE [(71,Za),(12,IG),(72,QT)] }
theorem AaT (l:L.Sq L.Pt) (hp:Zn l):vc prog ({ AaS with loops:=AT [(3,{ T:=Nat,keep:=[0,3],keepO:=[3],chg:=fun k=>[(4,.row 14)],own:=fun k=>[(14,.row 39 2 (k+1) (fun k=>[.int .i64 (AR l k).x,.int .i64 (AR l k).y]))],inv:=fun k=>k<=400/\∀i,i<k->FE l i=false,mu:=fun k=>401-k }),(6,{ T:=Nat×Nat,keep:=[0,3,4,5,6,18],keepO:=[3],tie:=fun g=>[(18,.int .i64 (g.1:Int))],chg:=fun g=>[(7,.p (.int .i64 (g.2:Int)))],own:=fun g=>[(14,.row 39 2 (g.1+1) (fun k=>[.int .i64 (AR l k).x,.int .i64 (AR l k).y])),(5,.blk 39 [.p (.int .i64 (AR l g.1).x),.p (.int .i64 (AR l g.1).y)]),(6,.blk 39 [.p (.int .i64 (C0 l.g (AR l g.1) g.2).x),.p (.int .i64 (C0 l.g (AR l g.1) g.2).y)])],inv:=fun g=>g.2<=l.n,mu:=fun g=>l.n-g.2 })]}) (Ae f34) (Ao f34 [.p (.sl 2 l.n (fun i=>[.int .i64 (l.g i).x,.int .i64 (l.g i).y]))]) (AL prog f34 (Zo l)):=
 @Eq.mpr _ (let I:=SV.int .i64;let T:=AhD;let A16:=(↑l.n:Int);let A12:=(0:Int);let A11:=(1:Int);let A10:=(1:Nat);let A8:=(l.n=l.n/\∀(i:Nat),let A24:=[I (l.g i).x,I (l.g i).y];i<l.n->A24=A24);let A2:=(Ep (L.Sq.mk l.n fun(i:Nat)=>l.g i) (T A12));((∀(i:Nat),let A25:=[I (l.g i).x,I (l.g i).y];i<l.n->A25=A25)/\A10<=l.n/\l.n<=1000000)/\∀(t:Nat),True->(A12<=A12/\A12<A16)/\(∃(g:Nat),(1=g+A10/\∀(i:Nat),let A15:=(Ep (L.Sq.mk l.n fun(i:Nat)=>l.g i) (T A12));i<1->AD [I A15.x,I A15.y] 2 i = [I (AR l i).x,I (AR l i).y])/\g<=400/\∀(i:Nat),i<g->FE l i=false)/\∀(g:Nat),let A5:=(↑(g+A10):Int);let A14:=(AR l (T (A5-A11)));(g<=400/\∀(i:Nat),i<g->FE l i=false)->Ab .i64 (A5-A11)/\(A12<=A5-A11/\A5-A11<A5)/\T (A5-A11)<g+A10/\(∃(g_1:Nat×Nat),let A17:=(AR l g_1.1);let A26:=(C0 l.g A17 g_1.2);A12=(↑g_1.2:Int)/\(g+A10=g_1.1+A10/\∀(i:Nat),let A20:=[I (AR l i).x,I (AR l i).y];i<g+A10->A20=A20)/\A14.x=A17.x/\A14.y=A17.y/\A14.x=A26.x/\A14.y=A26.y/\A5-A11=(↑g_1.1:Int)/\g_1.2<=l.n)/\∀(g_1:Nat×Nat),let A7:=(↑g_1.2:Int);let A29:=(A12<=A7/\A7<A16);let A13:=(l.g (T A7));let A6:=(AR l g_1.1);let A1:=(C0 l.g A6 g_1.2);let A9:=(bif decide (A1.x=A2.x)&&decide (A1.y=A2.y)then true else decide (400<(↑(g_1.1+A10):Int)));let A4:=(bif bif decide (A1.x=A6.x)&&decide (A1.y=A6.y)then true else decide (Ay A6 A1 A13<A12)then true else bif decide (Ay A6 A1 A13=A12)then decide (DB A6 A1<DB A6 A13)else false);let A3:=((!bif decide (A1.x=A6.x)&&decide (A1.y=A6.y)then true else decide (Ay A6 A1 A13<A12))&&decide (Ay A6 A1 A13=A12));A5-A11=(↑g_1.1:Int)/\g_1.2<=l.n->(decide (A7<A16)=true->A29/\(As A6/\As A1/\As A13)/\(A3=true->A12<=A7/\A7<A16)/\(A3=true->As A6/\As A13)/\(A3=true->As A6/\As A1)/\(A4=true->A29/\Ab .i64 (A7+A11)/\∃(g':Nat×Nat),let A18:=(AR l g'.1);let A27:=(C0 l.g A18 g'.2);A7+A11=(↑g'.2:Int)/\0=0/\0=0/\A5-A11=A5-A11/\0=0/\A8/\(g_1.1+A10=g'.1+A10/\∀(i:Nat),let A21:=[I (AR l i).x,I (AR l i).y];i<g_1.1+A10->A21=A21)/\A6.x=A18.x/\A6.y=A18.y/\A13.x=A27.x/\A13.y=A27.y/\A2.x=A2.x/\A2.y=A2.y/\(A5-A11=(↑g'.1:Int)/\g'.2<=l.n)/\l.n-g'.2<l.n-g_1.2)/\(A4=false->Ab .i64 (A7+A11)/\∃(g':Nat×Nat),let A19:=(AR l g'.1);let A28:=(C0 l.g A19 g'.2);A7+A11=(↑g'.2:Int)/\0=0/\0=0/\A5-A11=A5-A11/\0=0/\A8/\(g_1.1+A10=g'.1+A10/\∀(i:Nat),let A22:=[I (AR l i).x,I (AR l i).y];i<g_1.1+A10->A22=A22)/\A6.x=A19.x/\A6.y=A19.y/\A1.x=A28.x/\A1.y=A28.y/\A2.x=A2.x/\A2.y=A2.y/\(A5-A11=(↑g'.1:Int)/\g'.2<=l.n)/\l.n-g'.2<l.n-g_1.2))/\(decide (A7<A16)=false->(A9=true->g_1.1+A10=Au l/\∀(i:Nat),let A23:=[I (AR l i).x,I (AR l i).y];i<g_1.1+A10->A23=A23)/\(A9=false->(g_1.1+A10+1)*16<=140737488355328/\∃(g':Nat),0=0/\A8/\(g_1.1+A10+1=g'+A10/\∀(i:Nat),i<g_1.1+A10+1->AH (g_1.1+A10) (fun(k:Nat)=>[I (AR l k).x,I (AR l k).y]) (fun(x:Nat)=>[I A1.x,I A1.y]) i = [I (AR l i).x,I (AR l i).y])/\A2.x=A2.x/\A2.y=A2.y/\(g'<=400/\∀(i:Nat),i<g'->FE l i=false)/\(401:Nat)-g'<401-g))) (by kernel_rfl) (by
 conv=>zeta
 obtain⟨h1,hn,hb⟩:=hp;have hbw:=Zh h1 hb;refine⟨⟨zr,h1,by omega⟩,fun _ _=>⟨⟨by omega,by omega⟩,⟨0,⟨rfl,fun i hi=>?_⟩,by omega,fun i hi=>absurd hi (oE _)⟩,fun g hg=>?_⟩⟩
 ·have hi:i<1:=hi;obtain rfl:i=0:=by omega
  rfl
 obtain⟨hg4,hgw⟩:=hg;have e1:(((g+1:Nat):Int)-1)=(g:Int):=by omega
 have e2:((g:Int)).toNat=g:=Ah7 g;rw[e1,e2];refine⟨jK,⟨by omega,by omega⟩,by omega,⟨(g,0),rfl,rz,rfl,rfl,rfl,rfl,rfl,rH _⟩,?_⟩;rintro⟨g0,i⟩ ⟨q1,q2⟩;have q1:(g:Int)=(g0:Int):=q1;obtain rfl:g=g0:=by omega
 have q2:i<=l.n:=q2;dsimp only;refine⟨fun hlt=>?_,fun hge=>?_⟩
 ·have hlt:(i:Int)<(l.n:Int):=of_decide_eq_true hlt;have e3:((i:Int)).toNat=i:=Ah7 i;rw[e3,AaM];have bs:As (C0 l.g (AR l g) i):=QZ (hbw g) (fun j hj=>hb j (by omega));have hs:C0 l.g (AR l g) (i+1)=bif FC (AR l g) (C0 l.g (AR l g) i) (l.g i)then l.g i else C0 l.g (AR l g) i:=rfl;refine⟨⟨by omega,hlt⟩,⟨hbw g,bs,hb i (by omega)⟩,fun _=>⟨by omega,hlt⟩,fun _=>⟨hbw g,hb i (by omega)⟩,fun _=>⟨hbw g,bs⟩,fun hc=>?_,fun hc=>?_⟩
  ·rw[hc]at hs;exact⟨⟨by omega,hlt⟩,jK,(g,i+1),rfl,rfl,rfl,rfl,rfl,rz,rz,rfl,rfl,by rw[hs];rfl,by rw[hs];rfl,rfl,rfl,⟨rfl,by show i+1<=l.n;omega⟩,by show l.n-(i+1)<l.n-i;omega⟩
  ·rw[hc]at hs;exact⟨jK,(g,i+1),rfl,rfl,rfl,rfl,rfl,rz,rz,rfl,rfl,by rw[hs];rfl,by rw[hs];rfl,rfl,rfl,⟨rfl,by show i+1<=l.n;omega⟩,by show l.n-(i+1)<l.n-i;omega⟩
 ·have hge:¬ (i:Int)<(l.n:Int):=of_decide_eq_false hge;obtain rfl:i=l.n:=by omega
  refine⟨fun hc=>?_,fun hc=>?_⟩
  ·have hc:FE l g=true:=hc;exact⟨(Zi hg4 hgw hc).symm,fun _ _=>rfl⟩
  ·have hc:FE l g=false:=hc;have hg3:g≠400:=fun e=>by
    subst e;unfold FE at hc;rw[De,AhJ]at hc;exact absurd hc.2 (by decide)
   refine⟨show(g+1+1)*16<=140737488355328 by omega,g+1,rfl,rz,⟨rfl,fun i hi=>?_⟩,rfl,rfl,⟨by omega,fun j hj=>?_⟩,by omega⟩
   ·unfold AH
    by_cases h':i<g+1
    ·rw[if_pos h']
    ·rw[if_neg h'];obtain rfl:i=g+1:=by omega
     rfl
   ·rcases Ah6.1 hj with h'|rfl
    ·exact hgw j h'
    ·exact hc)
theorem Zq:Az prog 34 Re:=AN func34 (c:=Ae f34) (by kernel_rfl) mixed (fun _ _ _ hs hp=>by
 unfold Zp at hs;split at hs
 ·cases hs;exact⟨_,_,AaT _ hp.2,(.p (.sl hp.1) .nil),⟨show Aa prog _ from(Aa.cons AaC AaD (Aa.cons J7 J8 (Aa.cons Yf Yg Aa.nil))),rfl,nz⟩⟩
 ·cases hs)
theorem Zr:An prog 34:=fun _ _=>by kernel_rfl
def Zs (l:L.Sq L.Pt):Prop:=l.n<=1000000
def Zt (l:L.Sq L.Pt):SV:=.tup [.sl 2 (bif decide (Cb l (Au l)=0)then Au l else 0) (fun k=>[.int .i64 (AR l k).x,.int .i64 (AR l k).y]),.int .i64 (Cb l (Au l))]
def Zu:List EV->Option (Prop×SV)
 |[.p (.sl 2 l_n l_g)]=>some ((∀i,i<l_n->l_g i = [.int .i64 (Ad (l_g i)).x,.int .i64 (Ad (l_g i)).y])/\Zs ⟨l_n,fun i=>Ad (l_g i)⟩,Zt ⟨l_n,fun i=>Ad (l_g i)⟩)
 |_=>none
abbrev Zv:SE.Spec:=(AM Zu)
def AaU:Aj:={ cC with specs:=AE [(29,QS),(195,Ze),(34,Re)] }
theorem AaV (l:L.Sq L.Pt) (hp:Zs l):vc prog (AaU) (Ae f180) (Ao f180 [.p (.sl 2 l.n (fun i=>[.int .i64 (l.g i).x,.int .i64 (l.g i).y]))]) (AL prog f180 (Zt l)):=
 @Eq.mpr _ (let I:=SV.int .i64;let A7:=(0:Nat);let A6:=(Au l);let A3:=(∀(i:Nat),let A8:=[I (l.g i).x,I (l.g i).y];i<l.n->A8=A8);let A2:=(bif decide (Cb l A6=0)then Au l else A7);let A1:=(L.Sq.mk l.n fun(i:Nat)=>l.g i);let A9:=(↑(Au A1):Int);let A4:=(bif decide (400<(↑l.n:Int))then true else !DI A1);((!decide (400<(↑l.n:Int)))=true->A3/\l.n<=1000000)/\(A4=true->A2=A7/\(1:Int)=Cb l A6)/\(A4=false->(A3/\l.n<=1000000/\∀(k:Nat),k<l.n->As (l.g k))/\(DL A1=true->A2=A7/\(11:Int)=Cb l A6)/\(DL A1=false->(A3/\(1:Nat)<=l.n/\l.n<=1000/\∀(k:Nat),k<l.n->As (l.g k))/\(decide (24<A9)=true->A2=A7/\(2:Int)=Cb l A6)/\(decide (24<A9)=false->((Au A1=bif decide (Cb l A6=0)then Au l else A7)/\∀(i:Nat),let A5:=(L.Sq.mk l.n fun(i:Nat)=>l.g i);i<Au A5 -> [I (AR A5 i).x,I (AR A5 i).y]= [I (AR l i).x,I (AR l i).y])/\(0:Int)=Cb l A6)))) (by kernel_rfl) (by
 conv=>zeta
 have hn:l.n<=1000000:=hp;refine⟨fun _=>⟨zr,hn⟩,fun h=>?_,fun h=>?_⟩
 ·have h:(bif decide (400<(l.n:Int))then true else !DI l)=true:=h;have e:Cb l (Au l)=1:=by unfold Cb;rw[h];rfl
  rw[e];exact⟨rfl,rfl⟩
 have h0:(bif decide (400<(l.n:Int))then true else !DI l)=false:=h;have h1:=h0;rw[De,AhJ]at h1;have h4:=of_decide_eq_false h1.1;have hv:=B5 h1.2;have hb:∀k,k<l.n->As (l.g k):=fun k hk=>YG (C8.1 hv k hk);refine⟨⟨zr,hn,hb⟩,fun hf=>?_,fun hf=>?_⟩
 ·have hf:DL l=true:=hf;have e:Cb l (Au l)=11:=by unfold Cb;rw[h0,hf];rfl
  rw[e];exact⟨rfl,rfl⟩
 have hf:DL l=false:=hf;have h3:¬ l.n<3:=fun q=>by rw[Zm q]at hf;cases hf
 refine⟨⟨zr,by omega,by omega,hb⟩,fun hw=>?_,fun hw=>?_⟩
 ·have hw:decide (24<((Au l:Nat):Int))=true:=hw;have e:Cb l (Au l)=2:=by unfold Cb;rw[h0,hf,hw];rfl
  rw[e];exact⟨rfl,rfl⟩
 ·have hw:decide (24<((Au l:Nat):Int))=false:=hw;have e:Cb l (Au l)=0:=by unfold Cb;rw[h0,hf,hw];rfl
  rw[e];exact⟨rz,rfl⟩)
theorem AaW:Az prog 180 Zv:=AN func180 (c:=Ae f180) (by kernel_rfl) mixed (fun _ _ _ hs hp=>by
 unfold Zu at hs;split at hs
 ·cases hs;exact⟨_,_,AaV _ hp.2,(.p (.sl hp.1) .nil),⟨show Aa prog _ from(Aa.cons XX XY (Aa.cons AaG AaH (Aa.cons Zq Zr Aa.nil))),rfl,nz⟩⟩
 ·cases hs)
theorem AaX:An prog 180:=fun _ _=>by kernel_rfl
def Zw (l:L.Sq L.Pt):Prop:=l.n<=1000000
def Zx (l:L.Sq L.Pt):SV:=.tup [.sl 2 (bif decide (Cb l (Av (CD (AA l))).n=0)then(Av (CD (AA l))).n else 0) (fun k=>[.int .i64 ((Av (CD (AA l))).g k).x,.int .i64 ((Av (CD (AA l))).g k).y]),.int .i64 (Cb l (Av (CD (AA l))).n)]
def Zy:List EV->Option (Prop×SV)
 |[.p (.sl 2 l_n l_g)]=>some ((∀i,i<l_n->l_g i = [.int .i64 (Ad (l_g i)).x,.int .i64 (Ad (l_g i)).y])/\Zw ⟨l_n,fun i=>Ad (l_g i)⟩,Zx ⟨l_n,fun i=>Ad (l_g i)⟩)
 |_=>none
abbrev Zz:SE.Spec:=(AM Zy)
def AaY:Aj:={ cC with muts:=[22],specs:=AE [(74,Q1),(162,YU),(127,QE),(126,QF),(81,QG)],trs:=Hz [(163,KK)],ren:=fun k=>k-1000,raws:=[126] }
theorem AaZ (l:L.Sq L.Pt) (hp:Zw l):vc prog (AaY) (Ae f125) (Ao f125 [.p (.sl 2 l.n (fun i=>[.int .i64 (l.g i).x,.int .i64 (l.g i).y]))]) (AL prog f125 (Zx l)):=
 @Eq.mpr _ (let I:=SV.int .i64;let A12:=(0:Nat);let A11:=(↑l.n:Int);let A10:=(1000000:Nat);let A7:=(bif decide (A11<3)then true else DL (L.Sq.mk l.n fun(i:Nat)=>l.g i));let A6:=(bif decide (400<A11)then true else !Ch l.n fun(i:Nat)=>B4 (l.g i));let A2:=(∀(i:Nat),let A13:=[I (l.g i).x,I (l.g i).y];i<l.n->A13=A13);let A1:=(Av (CD (AA l)));let A3:=(bif decide (Cb l A1.n=(0:Int))then A1.n else A12);((!decide (400<A11))=true->A2/\l.n<=A10)/\(A6=true->A3=A12/\(1:Int)=Cb l A1.n)/\(A6=false->((!decide (A11<3))=true->A2/\(1:Nat)<=l.n/\l.n<=A10/\∀(k:Nat),k<l.n->As (l.g k))/\(A7=true->A3=A12/\(11:Int)=Cb l A1.n)/\(A7=false->(A2/\l.n<=A10)/\(A2/\l.n<=A10)/\∀(t:Nat),True->∃(t:L.Sq L.Pt),let A4:=(Av (L.Sq.mk (Eh t) fun(i:Nat)=>DM t (0+i)));(l.n=t.n/\∀(i:Nat),let A9:=((AA (L.Sq.mk l.n fun(i:Nat)=>l.g i)).g i);i<l.n -> [I A9.x,I A9.y]= [I (t.g i).x,I (t.g i).y])/\t.n<=A10/\∀(u:Nat),True->0+Eh t<=t.n/\((∀(i:Nat),let A8:=(DM t (0+i));i<Eh t -> [I A8.x,I A8.y]= [I A8.x,I A8.y])/\(2:Nat)<=Eh t/\Eh t<=1000/\∀(i:Nat),i<Eh t->As (DM t (0+i)))/\∀(t_1:Nat),True->(∀(i:Nat),i<(Av (L.Sq.mk (Eh t) fun(i:Nat)=>DM t (0+i))).n->(true&&(true&&true))=true)/\(decide (24<(↑A4.n:Int))=true->A3=A12/\(2:Int)=Cb l A1.n)/\(decide (24<(↑A4.n:Int))=false->((A4.n=bif decide (Cb l A1.n=(0:Int))then A1.n else A12)/\∀(i:Nat),let A5:=(Av (L.Sq.mk (Eh t) fun(i:Nat)=>DM t (0+i)));i<A5.n -> [I (A5.g i).x,I (A5.g i).y]= [I (A1.g i).x,I (A1.g i).y])/\(0:Int)=Cb l A1.n)))) (by kernel_rfl) (by
 conv=>zeta
 have hn:l.n<=1000000:=hp;refine⟨fun _=>⟨zr,hn⟩,fun h=>?_,fun h=>?_⟩
 ·have h:(bif decide (400<(l.n:Int))then true else !DI l)=true:=h;have e:Cb l (Av (CD (AA l))).n=1:=by unfold Cb;rw[h];rfl
  rw[e];exact⟨rfl,rfl⟩
 have h0:(bif decide (400<(l.n:Int))then true else !DI l)=false:=h;have h1:=h0;rw[De,AhJ]at h1;have h4:=of_decide_eq_false h1.1;have hv:=B5 h1.2;have hb:∀k,k<l.n->As (l.g k):=fun k hk=>YG (C8.1 hv k hk);refine⟨fun h3=>⟨zr,by have:=of_decide_eq_false (CC h3);omega,hn,hb⟩,fun hf=>?_,fun hf=>?_⟩
 ·have hf : DL l = true :=by
   rw[De,Aie]at hf;rcases hf with q|q
   ·have:=of_decide_eq_true q;exact Zm (by omega)
   ·exact q
  have e:Cb l (Av (CD (AA l))).n=11:=by unfold Cb;rw[h0,hf];rfl
  rw[e];exact⟨rfl,rfl⟩
 rw[De,AhJ]at hf;obtain⟨h3,hf⟩:=hf;have h3:=of_decide_eq_false h3;have hf:DL l=false:=hf;have two:=YK (l:=l) hf (by omega);obtain⟨_,c2,_,c4⟩:=Rc l;have hc:(L.Sq.mk (Eh (AA l)) fun i=>DM (AA l) (0+i))=CD (AA l):=by
  unfold CD;congr;funext i;rw[AhO]
 have c4:Eh (AA l)<=l.n:=c4;refine⟨⟨zr,hn⟩,⟨zr,hn⟩,fun _ _=>⟨AA l,rz,hn,fun _ _=>?_⟩⟩;rw[hc];refine⟨by show 0+Eh (AA l)<=l.n;omega,⟨zr,Zl two,by omega,fun i hi=>?_⟩,fun _ _=>⟨zr,fun hw=>?_,fun hw=>?_⟩⟩
 ·obtain⟨j,hj,e⟩:=c2 i hi;have e:DM (AA l) i=l.g j:=e;rw[AhO,e];exact hb j hj
 ·have hw:decide (24<(((Av (CD (AA l))).n:Nat):Int))=true:=hw;have e:Cb l (Av (CD (AA l))).n=2:=by unfold Cb;rw[h0,hf,hw];rfl
  rw[e];exact⟨rfl,rfl⟩
 ·have hw:decide (24<(((Av (CD (AA l))).n:Nat):Int))=false:=hw;have e:Cb l (Av (CD (AA l))).n=0:=by unfold Cb;rw[h0,hf,hw];rfl
  rw[e];exact⟨rz,rfl⟩)
theorem Aba:Az prog 125 Zz:=AN func125 (c:=Ae f125) (by kernel_rfl) mixed (fun _ _ _ hs hp=>by
 unfold Zy at hs;split at hs
 ·cases hs;exact⟨_,_,AaZ _ hp.2,(.p (.sl hp.1) .nil),⟨show Aa prog _ from(Aa.cons VB VC (Aa.cons Aa8 Aa9 (Aa.cons WE WF (Aa.cons WX WY (Aa.cons Xk Xl Aa.nil))))),rfl,⟨show Ac prog _ from Ac.nil,⟨show DT prog _ from(DT.cons AaR AaQ DT.nil),⟨Gy.no1 (fun _=>rfl),FamsOk.none (fun _=>rfl)⟩⟩⟩⟩⟩
 ·cases hs)
theorem Abb:An prog 125:=fun _ _=>by kernel_rfl
theorem Abc {a b:L.Pt}:BZ a b<0↔BX 1 a b:=by
 rw[KC];unfold BX ER;rw[Int.one_mul,Int.one_mul];omega
def Og (l m:L.Sq L.Pt):Prop:=2<=m.n/\(∀i k,i<m.n->k<m.n->m.g i=m.g k->i=k)/\(∀i,i<l.n->∃j,j<m.n/\m.g j=l.g i)/\∀j,j<m.n->∃i,i<l.n/\l.g i=m.g j
theorem Z0 {m:L.Sq L.Pt} (hd:∀i k,i<m.n->k<m.n->m.g i=m.g k->i=k):∀i j,i<j->j<m.n->BX 1 ((AA m).g i) ((AA m).g j):=by
 have hl:(EQ (DC m)).length=m.n:=by rw[(HT _).length_eq];simp[DC]
 have hnd:(DC m).Nodup:=by
  unfold DC;rw[Aja,List.pairwise_map,Aij];intro i j hi hj hij e;simp only[List.getElem_range]at e;have:=hd i j (by simpa using hi) (by simpa using hj) e;omega
 have hnd2:=(HT (DC m)).nodup_iff.2 hnd;intro i j hij hj;have hle:=Aij.1 (NS (DC m)) i j (by omega) (by omega) hij;have hne:=Aij.1 (Aja.1 hnd2) i j (by omega) (by omega) hij;rw[Zj]at hle;show BX 1 ((EQ (DC m)).getD i ⟨0,0⟩) ((EQ (DC m)).getD j ⟨0,0⟩);rw[AS,AS,Ahz (by omega),Ahz (by omega)];rcases NW (.inl rfl) hle with e|e
 ·exact absurd e hne
 ·exact e
theorem Abd {a b:L.Pt} (h:BX 1 a b):BX (-1) b a:=by
 unfold BX ER at *;omega
theorem Abe {l m:L.Sq L.Pt} (h:Og l m):Ep l 0=(AA m).g 0:=by
 obtain⟨h2,hd,hlm,hml⟩:=h;have hs:=Z0 hd;obtain⟨j0,hj0,e0⟩:=KF m (k:=0) (by omega);obtain⟨i0,hi0,f0⟩:=hml j0 hj0;have hl1:1<=l.n:=by omega
 obtain⟨q,hq,eq⟩:=Ra hl1;obtain⟨r,hr,er⟩:=hlm q hq;obtain⟨t,ht,et⟩:=Rb m hr;have ep:Ep l 0=(AA m).g t:=by rw[eq,<- er,et]
 rcases AiA t with h0|h0
 ·rw[ep,h0]
 ·exfalso;have h1:=hs 0 t h0 ht;rw[<- ep]at h1;have h3:=Od (l:=l) (i:=l.n-1) (j:=i0) (by omega);rw[<- AaK hl1,f0,<- e0]at h3;exact h3 (Abc.2 h1)
structure Oh (l h:L.Sq L.Pt):Prop where
 pos:2<=h.n
 at_:∀k,k<h.n->AR l k=h.g k
 back:AR l h.n=Ep l 0
 first:∀k,0<k->k<h.n->h.g k≠Ep l 0
theorem Z1 {l m:L.Sq L.Pt} (h:Og l m):Oh l (Av m)/\(Av m).n<=2*m.n:=by
 have hf:=Abe h;obtain⟨h2,hd,hlm,hml⟩:=h;have hs:=Z0 hd;have A:=XK (.inl rfl) (l:=AA m) h2 hs;have B:=XK (.inr rfl) (l:=DK (AA m)) h2 (fun i j hij hj=>Abd (hs (m.n-1-j) (m.n-1-i) (by have hj:j<m.n:=hj;omega) (by have hj:j<m.n:=hj;omega)));have hg:∀i,i<l.n->∃j,j<(AA m).n/\(AA m).g j=l.g i:=fun i hi=>by
  obtain⟨j,hj,e⟩:=hlm i hi;obtain⟨k,hk,e2⟩:=Rb m hj;exact⟨k,hk,e2.trans e⟩
 have hb:∀j,j<(AA m).n->∃i,i<l.n/\l.g i=(AA m).g j:=fun j hj=>by
  obtain⟨k,hk,e⟩:=KF m hj;obtain⟨i,hi,e2⟩:=hml k hk;exact⟨i,hi,e2.trans e.symm⟩
 obtain⟨k1,k2,k3⟩:=zK (l:=AA m) h2 A B (g:=l.g) (n:=l.n) hg hb;have hn:(Av m).n=((B6 (AA m) (AA m).n).length-1)+((B6 (DK (AA m)) (DK (AA m)).n).length-1):=by
  show 0+((B6 (AA m) (AA m).n).length-1)+_=_;rw[AhO];rfl
 have hgk:∀k,(Av m).g k=(if k<(B6 (AA m) (AA m).n).length-1 then BU (B6 (AA m) (AA m).n) k else BU (B6 (DK (AA m)) (DK (AA m)).n) (k-((B6 (AA m) (AA m).n).length-1))):=fun k=>by
  have e:(Av m).g k=bif decide (k<0+(B2 (AA m)).n)then(bif decide (k<0)then(⟨0,0⟩:L.Pt)else(B2 (AA m)).g (k-0))else(B2 (DK (AA m))).g (k-(0+(B2 (AA m)).n)):=rfl;rw[e,AhO]
  by_cases hk:k<(B6 (AA m) (AA m).n).length-1
  ·rw[decide_eq_true (show k<(B2 (AA m)).n from hk),if_pos hk];rw[cond_true,decide_eq_false (oE _)];rfl
  ·rw[decide_eq_false (show ¬ k<(B2 (AA m)).n from hk),if_neg hk];rfl
 have c1:=J5 (AA m) m.n;have c2:=J5 (DK (AA m)) m.n;have a1:=A.c1;have b1:=B.c1;refine⟨⟨by omega,fun k hk=>?_,?_,fun k hk0 hk=>?_⟩,?_⟩
 ·unfold AR;rw[hf,hgk,k1 k (by omega)]
 ·unfold AR;rw[hf,hn];exact k2
 ·rw[hf,hgk];exact k3 k hk0 (by omega)
 ·rw[hn];have e1:(B6 (AA m) (AA m).n).length<=m.n:=c1;have e2:(B6 (DK (AA m)) (DK (AA m)).n).length<=m.n:=c2;omega
theorem Z2 {l h:L.Sq L.Pt} (H:Oh l h) (hn:h.n<=400):Au l=h.n:=by
 have h2:=H.pos;have:=Zi (l:=l) (g:=h.n-1) (by omega) (fun i hi=>?_) ?_
 ·rw[this];omega
 ·unfold FE;rw[De,AhJ];refine⟨?_,decide_eq_false (by omega)⟩;cases hs:Bh (G9 l.g l.n (Ep l 0) (i+1)) (Ep l 0)with
  |false=>rfl
  |true =>
    have e:=IE hs;have e2:=H.at_ (i+1) (by omega);exact absurd (e2.symm.trans e) (H.first (i+1) (by omega) (by omega))
 ·unfold FE;have e:=H.back;unfold AR at e;rw[show h.n-1+1=h.n by omega,e,GZ];rfl
theorem Z3 {l:L.Sq L.Pt} {i j:Nat} (h:AR l i=AR l j):∀t,AR l (i+t)=AR l (j+t)
 |0=>h
 |t+1=>by
   have ih:=Z3 h t;show C0 l.g (AR l (i+t)) l.n=C0 l.g (AR l (j+t)) l.n;rw[ih]
theorem Oi {l h:L.Sq L.Pt} (H:Oh l h) {i j:Nat} (hi:i<h.n) (hj:j<h.n) (e:h.g i=h.g j):i=j:=by
 have key:∀i j,i<j->j<h.n->h.g i=h.g j->False:=fun i j hij hj e=>by
  have e1:AR l i=AR l j:=by rw[H.at_ i (by omega),H.at_ j hj];exact e
  have e2:=Z3 e1 (h.n-j);rw[show j+(h.n-j)=h.n by omega,H.back,H.at_ _ (by omega)]at e2;exact H.first _ (by omega) (by omega) e2
 rcases AiE i j with q|q|q
 ·exact(key i j q hj e).elim
 ·exact q
 ·exact(key j i q hi e.symm).elim
def H5 (l:L.Sq L.Pt):L.Sq L.Pt:=⟨Au l,AR l⟩
def GA (l:L.Sq L.Pt) (i:Nat):Int:=AW (H5 l) (l.g i)
def Fg (l:L.Sq L.Pt) (i:Nat):Int:=AW l ((H5 l).g (BY (H5 l).n (GA l i+1)))
def Do (l:L.Sq L.Pt) (i:Nat):Bool:=bif decide (GA l i<0)then false else !decide (Fg l i=AhQ ((i:Int)+1) (l.n:Int))
def D1 (n:Nat) (fr to_:Int):Nat:=((to_-fr) % (n:Int)).toNat
def D2 (l:L.Sq L.Pt) (fr to_:Int):L.Sq L.Pt:=⟨D1 l.n fr to_+1,fun j=>l.g (BY l.n (fr+(j:Int)))⟩
def ED (l:L.Sq L.Pt) (i:Nat):AG:=⟨(i:Int),Fg l i,0-BT (D2 l (i:Int) (Fg l i)) (D2 l (i:Int) (Fg l i)).n⟩
def AP (l:L.Sq L.Pt):L.Sq AG:=⟨AJ (Do l) l.n,fun j=>ED l (BI (Do l) l.n j)⟩
def C1 (l:L.Sq L.Pt):Nat:=bif Am l then(AP l).n else 0
theorem Z4 (a b:L.Pt):Bh a b=(decide (b.x=a.x)&&decide (b.y=a.y)):=by
 unfold Bh;rw[show decide (a.x=b.x)=decide (b.x=a.x)from decide_eq_decide.2 ⟨Eq.symm,Eq.symm⟩,show decide (a.y=b.y)=decide (b.y=a.y)from decide_eq_decide.2 ⟨Eq.symm,Eq.symm⟩]
theorem Oj {n:Nat} (h:0<n) (fr to_:Int):(D1 n fr to_:Int)=(to_-fr) % (n:Int)/\D1 n fr to_<n:=by
 have h0:=Int.emod_nonneg (to_-fr) (show(n:Int)≠0 by omega);have h1:=Int.emod_lt_of_pos (to_-fr) (show 0<(n:Int)by omega);unfold D1;omega
theorem Abf {n:Nat} (h:0<n) {fr to_:Int} (hf:0<=fr) (ht:0<=to_) {j:Nat} (hj:j<=D1 n fr to_):AhQ (fr+(j:Int)) (n:Int)=AhQ to_ (n:Int)↔j=D1 n fr to_:=by
 obtain⟨e,hlt⟩:=Oj h fr to_;rw[AhM (by omega),AhM ht];constructor
 ·intro q;have q1:(to_-fr-(j:Int)) % (n:Int)=0:=by
   rw[show to_-fr-(j:Int)=to_-(fr+(j:Int))by omega,Int.sub_emod,q,Int.sub_self,Int.zero_emod]
  have q2:((D1 n fr to_:Int)-(j:Int)) % (n:Int)=0:=by
   rw[e,Int.sub_emod,Int.emod_emod,<- Int.sub_emod];exact q1
  rw[Aic (by omega) (by omega)]at q2;omega
 ·intro q;subst q;rw[e,Int.add_emod,Int.emod_emod,<- Int.add_emod,show fr+(to_-fr)=to_ by omega]
theorem Abg {l:L.Sq L.Pt} (hs:EN l) (h1:1<=l.n) (hn:l.n<=999) (fr to_:Int):EN (D2 l fr to_):=by
 have:=(Oj (n:=l.n) (by omega) fr to_).2;exact⟨by show D1 l.n fr to_+1<=1000;omega,fun i _=>hs.2 _ (zL (by omega))⟩
theorem Abh {l:L.Sq L.Pt}:Au l<=401/\1<=Au l:=by
 unfold Au;rcases JA (f:=FE l) (n:=401)with ⟨h,_⟩|⟨i,hi,e,_⟩
 ·rw[h];exact⟨by decide,by decide⟩
 ·rw[e,Ah7];omega
theorem Abi (l:L.Sq L.Pt) (v:L.Pt): -1<=AW l v/\AW l v<(l.n:Int):=by
 unfold AW;rcases JA (f:=fun i=>Bh v (l.g i)) (n:=l.n)with ⟨h,_⟩|⟨i,hi,e,_⟩
 ·rw[h];omega
 ·rw[e];omega
theorem Ol {l:L.Sq L.Pt} {v:L.Pt} {i:Nat} (hi:i<l.n) (h0:∀j,j<i->Bh v (l.g j)=false) (h1:Bh v (l.g i)=true):AW l v=(i:Int):=by
 unfold AW;rcases JA (f:=fun i=>Bh v (l.g i)) (n:=l.n)with ⟨_,h⟩|⟨k,hk,e,h2,h3⟩
 ·rw[h i hi]at h1;cases h1
 ·rw[e];rcases AiE k i with q|q|q
  ·rw[h0 k q]at h2;cases h2
  ·rw[q]
  ·rw[h3 i q]at h1;cases h1
theorem Z5 {l:L.Sq L.Pt} {v:L.Pt} (h0:∀j,j<l.n->Bh v (l.g j)=false):AW l v = -1:=by
 unfold AW;rcases JA (f:=fun i=>Bh v (l.g i)) (n:=l.n)with ⟨h,_⟩|⟨k,hk,e,h2,h3⟩
 ·exact h
 ·rw[h0 k hk]at h2;cases h2
theorem Z6 {g:Nat->L.Pt} {f:L.Pt}:∀{n:Nat},C0 g f n=f\/∃i,i<n/\C0 g f n=g i
 |0=>.inl rfl
 |n+1=>by
   unfold C0;cases FC f (C0 g f n) (g n)with
   |true=>exact .inr ⟨n,Aiu n,rfl⟩
   |false =>
     rcases Z6 (g:=g) (f:=f) (n:=n)with h|⟨i,hi,h⟩
     ·exact .inl h
     ·exact .inr ⟨i,by omega,h⟩
theorem Om {l:L.Sq L.Pt} (h1:1<=l.n):∀k,∃j,j<l.n/\AR l k=l.g j
 |0=>Ra h1
 |k+1=>by
   have e:AR l (k+1)=C0 l.g (AR l k) l.n:=rfl;rw[e];rcases Z6 (g:=l.g) (f:=AR l k) (n:=l.n)with h|⟨i,hi,h⟩
   ·rw[h];exact Om h1 k
   ·exact⟨i,hi,h⟩
theorem Z7 {l:L.Sq L.Pt} (h1:1<=l.n) (i:Nat):0<=Fg l i/\Fg l i<(l.n:Int):=by
 obtain⟨j,hj,e⟩:=Om h1 (BY (H5 l).n (GA l i+1));obtain⟨k,hk,e2,_⟩:=Wf (l:=l) hj;have:Fg l i=(k:Int):=by
  unfold Fg;show AW l (AR l _)=_;rw[e,e2]
 rw[this];omega
def Z8 (l:L.Sq L.Pt) (p:L.Pt):Prop:=l.n<=1000000
def Z9 (l:L.Sq L.Pt) (p:L.Pt):SV:=.int .i64 (AW l p)
def ZA:List EV->Option (Prop×SV)
 |[.p (.sl 2 l_n l_g),.p (.agg [.int .i64 p_x,.int .i64 p_y])]=>some ((∀i,i<l_n->l_g i = [.int .i64 (Ad (l_g i)).x,.int .i64 (Ad (l_g i)).y])/\Z8 ⟨l_n,fun i=>Ad (l_g i)⟩ (⟨p_x,p_y⟩:L.Pt),Z9 ⟨l_n,fun i=>Ad (l_g i)⟩ (⟨p_x,p_y⟩:L.Pt))
 |_=>none
abbrev ZB:SE.Spec:=(AM ZA)
def Abj:Aj:={ muts:=[],frz:=B9 [],specs:=AE [],loops:=fun _=>none,iters:=BG [],rfs:=AQ [],nils:=B3 [] }
theorem Abk (l:L.Sq L.Pt) (p:L.Pt) (hp:Z8 l p):vc prog ({ Abj with loops:=AT [(2,{ T:=Nat,keep:=[0,3],keepO:=[],chg:=fun i=>[(5,.p (.int .i64 (i:Int)))],own:=fun _=>[],inv:=fun i=>i<=l.n/\∀j,j<i->Bh p (l.g j)=false,mu:=fun i=>l.n-i })]}) (Ae f35) (Ao f35 [.p (.sl 2 l.n (fun i=>[.int .i64 (l.g i).x,.int .i64 (l.g i).y])),.p (.agg [.int .i64 p.x,.int .i64 p.y])]) (AL prog f35 (Z9 l p)):=
 @Eq.mpr _ (let I:=SV.int .i64;let T:=AhD;let A4:=(↑l.n:Int);(∃(g:Nat),0=(↑g:Int)/\g<=l.n/\∀(j:Nat),j<g->Bh p (l.g j)=false)/\∀(g:Nat),let A2:=(↑g:Int);let A1:=(decide ((l.g (T A2)).x=p.x)&&decide ((l.g (T A2)).y=p.y));(g<=l.n/\∀(j:Nat),j<g->Bh p (l.g j)=false)->(decide (A2<A4)=true->(0<=A2/\A2<A4)/\(A1=true->A2=AW l p)/\(A1=false->Ab .i64 (A2+(1:Int))/\∃(g':Nat),A2+1=(↑g':Int)/\SV.ref [I p.x,I p.y] 0=SV.ref [I p.x,I p.y] 0/\(l.n=l.n/\∀(i:Nat),let A3:=[I (l.g i).x,I (l.g i).y];i<l.n->A3=A3)/\(g'<=l.n/\∀(j:Nat),j<g'->Bh p (l.g j)=false)/\l.n-g'<l.n-g))/\(decide (A2<A4)=false->(-1:Int)=AW l p)) (by kernel_rfl) (by
 conv=>zeta
 have hn:l.n<=1000000:=hp;refine⟨⟨0,rfl,rH _,fun j hj=>absurd hj (oE _)⟩,fun g hg=>⟨fun hlt=>?_,fun hge=>?_⟩⟩
 ·have hlt:(g:Int)<(l.n:Int):=of_decide_eq_true hlt;have e0:((g:Int)).toNat=g:=Ah7 g;rw[e0,<- Z4];refine⟨⟨by omega,hlt⟩,fun h=>(Ol (by omega) hg.2 h).symm,fun h=>⟨jK,g+1,rfl,rfl,rz,⟨by omega,fun j hj=>?_⟩,by omega⟩⟩;rcases Ah6.1 hj with h'|rfl
  ·exact hg.2 j h'
  ·exact h
 ·have hge:¬ (g:Int)<(l.n:Int):=of_decide_eq_false hge;exact(Z5 (fun j hj=>hg.2 j (by omega))).symm)
theorem Abl:Az prog 35 ZB:=AN func35 (c:=Ae f35) (by kernel_rfl) mixed (fun _ _ _ hs hp=>by
 unfold ZA at hs;split at hs
 ·cases hs;exact⟨_,_,Abk _ _ hp.2,(.p (.sl hp.1) (.same _ .nil)),⟨show Aa prog _ from Aa.nil,rfl,nz⟩⟩
 ·cases hs)
theorem Abm:An prog 35:=fun _ _=>by kernel_rfl
def ZC (l:L.Sq L.Pt) (fr:Int) (to_:Int):Prop:=(1<=l.n/\l.n<=1000)/\(0<=fr/\fr<=1000)/\0<=to_/\to_<=1000
def ZD (l:L.Sq L.Pt) (fr:Int) (to_:Int):SV:=.sl 2 (D2 l fr to_).n (fun k=>[.int .i64 ((D2 l fr to_).g k).x,.int .i64 ((D2 l fr to_).g k).y])
def ZE:List EV->Option (Prop×SV)
 |[.p (.sl 2 l_n l_g),.p (.int .i64 fr),.p (.int .i64 to_)]=>some ((∀i,i<l_n->l_g i = [.int .i64 (Ad (l_g i)).x,.int .i64 (Ad (l_g i)).y])/\ZC ⟨l_n,fun i=>Ad (l_g i)⟩ fr to_,ZD ⟨l_n,fun i=>Ad (l_g i)⟩ fr to_)
 |_=>none
abbrev ZF:SE.Spec:=(AM ZE)
def Abn:Aj:={ cC with muts:=[12],specs:=AE [(33,J9)] }
theorem Abo (l:L.Sq L.Pt) (fr:Int) (to_:Int) (hp:ZC l fr to_):vc prog ({ Abn with loops:=AT [(3,{ T:=Nat,keep:=[0,1,2],keepO:=[],chg:=fun j=>[(7,.row 12),(8,.p (.int .i64 (fr+(j:Int))))],own:=fun j=>[(12,.row 39 2 (j+1) (fun k=>[.int .i64 (l.g (BY l.n (fr+(k:Int)))).x,.int .i64 (l.g (BY l.n (fr+(k:Int)))).y]))],inv:=fun j=>j<=D1 l.n fr to_,mu:=fun j=>D1 l.n fr to_-j })]}) (Ae f36) (Ao f36 [.p (.sl 2 l.n (fun i=>[.int .i64 (l.g i).x,.int .i64 (l.g i).y])),.p (.int .i64 fr),.p (.int .i64 to_)]) (AL prog f36 (ZD l fr to_)):=
 @Eq.mpr _ (let I:=SV.int .i64;let A14:=(1:Int);let A11:=(D2 l fr to_);let A10:=(↑l.n:Int);let A3:=(1:Nat);let A2:=(∀(i:Nat),let A12:=[I (l.g i).x,I (l.g i).y];i<l.n->A12=A12);(A2/\A3<=l.n/\l.n<=1000000/\(-1000000:Int)<=fr/\fr<=(1000000:Int))/\(∃(g:Nat),fr=fr+(↑g:Int)/\(1=g+A3/\∀(i:Nat),let A5:=(l.g (BY l.n (fr+(↑i:Int))));i<1->AD [I (l.g (BY l.n fr)).x,I (l.g (BY l.n fr)).y] 2 i = [I A5.x,I A5.y])/\g<=D1 l.n fr to_)/\∀(g:Nat),let A9:=(↑g:Int);let A4:=(fr+A9+A14);let A1:=(!decide (AhQ (fr+A9) A10=AhQ to_ A10));g<=D1 l.n fr to_->A10≠(0:Int)/\A10≠(0:Int)/\(A1=true->Ab .i64 A4/\(A2/\A3<=l.n/\l.n<=1000000/\(-1000000:Int)<=fr+A9+A14/\fr+A9+A14<=1000000)/\(g+A3+1)*16<=140737488355328/\∃(g':Nat),fr+A9+A14=fr+(↑g':Int)/\(l.n=l.n/\∀(i:Nat),let A13:=[I (l.g i).x,I (l.g i).y];i<l.n->A13=A13)/\fr=fr/\to_=to_/\(g+A3+1=g'+A3/\∀(i:Nat),let A7:=(l.g (BY l.n (fr+(↑i:Int))));i<g+A3+1->AH (g+A3) (fun(k:Nat)=>let A6:=(l.g (BY l.n (fr+(↑k:Int))));[I A6.x,I A6.y]) (fun(x:Nat)=>[I (l.g (BY l.n A4)).x,I (l.g (BY l.n A4)).y]) i = [I A7.x,I A7.y])/\g'<=D1 l.n fr to_/\D1 l.n fr to_-g'<D1 l.n fr to_-g)/\(A1=false->g+A3=A11.n/\∀(i:Nat),let A8:=(l.g (BY l.n (fr+(↑i:Int))));i<g+A3 -> [I A8.x,I A8.y]= [I (A11.g i).x,I (A11.g i).y])) (by kernel_rfl) (by
 conv=>zeta
 obtain⟨⟨h1,hn⟩,⟨f0,f1⟩,t0,t1⟩:=hp;have hlt:=(Oj (n:=l.n) (by omega) fr to_).2;refine⟨⟨zr,h1,by omega,by omega,by omega⟩,⟨0,by omega,⟨rfl,fun i hi=>?_⟩,rH _⟩,fun g hg=>?_⟩
 ·have hi:i<1:=hi;obtain rfl:i=0:=by omega
  rw[show fr+((0:Nat):Int)=fr by omega];rfl
 have hE:=Abf (n:=l.n) (by omega) f0 t0 hg;refine⟨by omega,by omega,fun hd=>?_,fun hd=>?_⟩
 ·have hd:=of_decide_eq_false (CC hd);have hgc:g≠D1 l.n fr to_:=fun e=>hd (hE.2 e);refine⟨jK,⟨zr,h1,by omega,by omega,by omega⟩,show(g+1+1)*16<=140737488355328 by omega,g+1,by omega,rz,rfl,rfl,⟨rfl,fun i hi=>?_⟩,by omega,by omega⟩;unfold AH;have hi:i<g+1+1:=hi
  by_cases h':i<g+1
  ·rw[if_pos h']
  ·rw[if_neg h'];obtain rfl:i=g+1:=by omega
   rw[show fr+((g+1:Nat):Int)=fr+(g:Int)+1 by omega]
 ·have hd:=of_decide_eq_true (B5 hd);have hgc:=hE.1 hd;exact⟨by show g+1=D1 l.n fr to_+1;omega,fun _ _=>rfl⟩)
theorem Abp:Az prog 36 ZF:=AN func36 (c:=Ae f36) (by kernel_rfl) mixed (fun _ _ _ hs hp=>by
 unfold ZE at hs;split at hs
 ·cases hs;exact⟨_,_,Abo _ _ _ hp.2,(.p (.sl hp.1) (.same _ (.same _ .nil))),⟨show Aa prog _ from(Aa.cons KI KJ Aa.nil),rfl,nz⟩⟩
 ·cases hs)
theorem Abq:An prog 36:=fun _ _=>by kernel_rfl
def ZG (l:L.Sq L.Pt):Prop:=l.n<=1000000
def ZH (l:L.Sq L.Pt):SV:=.tup [.sl 3 (C1 l) (fun i=>[.int .i64 ((AP l).g i).fr,.int .i64 ((AP l).g i).to_,.int .i64 ((AP l).g i).area]),.int .i64 (bif Am l then 0 else 1)]
def ZI:List EV->Option (Prop×SV)
 |[.p (.sl 2 l_n l_g)]=>some ((∀i,i<l_n->l_g i = [.int .i64 (Ad (l_g i)).x,.int .i64 (Ad (l_g i)).y])/\ZG ⟨l_n,fun i=>Ad (l_g i)⟩,ZH ⟨l_n,fun i=>Ad (l_g i)⟩)
 |_=>none
abbrev On:SE.Spec:=(AM ZI)
def Abr:Aj:={ cC with specs:=AE [(7,M4),(34,Re),(35,ZB),(33,J9),(36,ZF),(31,QW)],nils:=B3 [(5,[(5,52,35,3)])] }
theorem Abs (l:L.Sq L.Pt) (hp:ZG l):vc prog ({ Abr with loops:=AT [(6,{ T:=Nat,keep:=[0,4],keepO:=[],chg:=fun i=>[(5,.row 52),(6,.p (.int .i64 (i:Int)))],own:=fun i=>[(52,.row 35 3 (AJ (Do l) i) (fun k=>[.int .i64 (ED l (BI (Do l) i k)).fr,.int .i64 (ED l (BI (Do l) i k)).to_,.int .i64 (ED l (BI (Do l) i k)).area]))],inv:=fun i=>i<=l.n,mu:=fun i=>l.n-i })]}) (Ae f8) (Ao f8 [.p (.sl 2 l.n (fun i=>[.int .i64 (l.g i).x,.int .i64 (l.g i).y]))]) (AL prog f8 (ZH l)):=
 @Eq.mpr _ (let I:=SV.int .i64;let T:=AhD;let A38:=(1000000:Nat);let A31:=(↑l.n:Int);let A22:=(0:Int);let A19:=(1:Int);let A12:=(l.n=l.n/\∀(i:Nat),let A39:=[I (l.g i).x,I (l.g i).y];i<l.n->A39=A39);let A11:=(Do l);let A9:=(∀(i:Nat),let A40:=[I (l.g i).x,I (l.g i).y];i<l.n->A40=A40);let A8:=(∀(i:Nat),let A32:=(L.Sq.mk l.n fun(i:Nat)=>l.g i);let A14:=(AR A32 i);i<Au A32 -> [I A14.x,I A14.y]= [I A14.x,I A14.y]);let A3:=(L.Sq.mk l.n fun(i:Nat)=>l.g i);let A7:=(L.Sq.mk (Au A3) fun(i:Nat)=>AR (L.Sq.mk l.n fun(i:Nat)=>l.g i) i);let A4:=(Au A3=Au A3/\∀(i:Nat),let A33:=(L.Sq.mk l.n fun(i:Nat)=>l.g i);let A15:=(AR A33 i);i<Au A33 -> [I A15.x,I A15.y]= [I A15.x,I A15.y]);(A9/\True)/\((!Am A3)=true->C1 l=0/\A19=bif Am l then A22 else A19)/\((!Am A3)=false->(A9/\(1:Nat)<=l.n/\l.n<=1000/\∀(k:Nat),k<l.n->As (l.g k))/\(∃(g:Nat),A22=(↑g:Int)/\(0=AJ A11 g/\∀(i:Nat),let A26:=(ED l (BI A11 g i));i<0 -> []= [I A26.fr,I A26.to_,I A26.area])/\g<=l.n)/\∀(g:Nat),let A10:=(↑g:Int);let A34:=(A10+A19);let A20:=(l.g (T A10));let A41:=(AW A7 A20+A19);let A1:=(AR A3 (BY (Au A3) A41));let A35:=(D2 A3 A10 (AW A3 A1));let A21:=(!decide (AW A3 A1=AhQ A34 A31));let A6:=(L.Sq.mk A35.n fun(i:Nat)=>let A16:=(L.Sq.mk l.n fun(i:Nat)=>l.g i);(D2 A16 A10 (AW A16 (AR A16 (BY (Au A16) (AW (L.Sq.mk (Au A16) fun(i:Nat)=>AR (L.Sq.mk l.n fun(i:Nat)=>l.g i) i) A20+A19))))).g i);g<=l.n->(decide (A10<A31)=true->(A22<=A10/\A10<A31)/\(A8/\Au A3<=A38)/\(decide (AW A7 A20<A22)=true->Ab .i64 A34/\∃(g':Nat),A10+A19=(↑g':Int)/\A4/\A12/\(AJ A11 g=AJ A11 g'/\∀(i:Nat),let A27:=(ED l (BI A11 g i));let A23:=(ED l (BI A11 g' i));i<AJ A11 g -> [I A27.fr,I A27.to_,I A27.area]= [I A23.fr,I A23.to_,I A23.area])/\g'<=l.n/\l.n-g'<l.n-g)/\(decide (AW A7 A20<A22)=false->Ab .i64 A41/\(A8/\(1:Nat)<=Au A3/\Au A3<=A38/\(-1000000:Int)<=AW A7 A20+A19/\AW A7 A20+A19<=1000000)/\(A9/\l.n<=A38)/\Ab .i64 A34/\A31≠A22/\(A21=true->(A9/\((1:Nat)<=l.n/\l.n<=1000)/\(A22<=A10/\A10<=1000)/\A22<=AW A3 A1/\AW A3 A1<=1000)/\((∀(i:Nat),let A17:=(L.Sq.mk l.n fun(i:Nat)=>l.g i);let A2:=(D2 A17 A10 (AW A17 (AR A17 (BY (Au A17) (AW (L.Sq.mk (Au A17) fun(i:Nat)=>AR (L.Sq.mk l.n fun(i:Nat)=>l.g i) i) A20+A19)))));let A37:=[I (A2.g i).x,I (A2.g i).y];i<A2.n->A37=A37)/\EN A6)/\Ab .i64 (A22-BT A6 A35.n)/\(AJ A11 g+1)*24<=140737488355328/\Ab .i64 A34/\∃(g':Nat),A10+A19=(↑g':Int)/\A4/\A12/\(AJ A11 g+1=AJ A11 g'/\∀(i:Nat),let A24:=(ED l (BI A11 g' i));let A13:=(L.Sq.mk l.n fun(i:Nat)=>l.g i);let A5:=(AW A13 (AR A13 (BY (Au A13) (AW (L.Sq.mk (Au A13) fun(i:Nat)=>AR (L.Sq.mk l.n fun(i:Nat)=>l.g i) i) A20+A19))));i<AJ A11 g+1->AH (AJ A11 g) (fun(k:Nat)=>let A28:=(ED l (BI A11 g k));[I A28.fr,I A28.to_,I A28.area]) (fun(x:Nat)=>[I A10,I A5,I (A22-BT (L.Sq.mk (D2 A13 A10 A5).n fun(i:Nat)=>let A18:=(L.Sq.mk l.n fun(i:Nat)=>l.g i);(D2 A18 A10 (AW A18 (AR A18 (BY (Au A18) (AW (L.Sq.mk (Au A18) fun(i:Nat)=>AR (L.Sq.mk l.n fun(i:Nat)=>l.g i) i) A20+A19))))).g i) (D2 A13 A10 A5).n)]) i = [I A24.fr,I A24.to_,I A24.area])/\g'<=l.n/\l.n-g'<l.n-g)/\(A21=false->Ab .i64 A34/\∃(g':Nat),A10+A19=(↑g':Int)/\A4/\A12/\(AJ A11 g=AJ A11 g'/\∀(i:Nat),let A29:=(ED l (BI A11 g i));let A25:=(ED l (BI A11 g' i));i<AJ A11 g -> [I A29.fr,I A29.to_,I A29.area]= [I A25.fr,I A25.to_,I A25.area])/\g'<=l.n/\l.n-g'<l.n-g)))/\(decide (A10<A31)=false->(AJ A11 g=C1 l/\∀(i:Nat),let A36:=((AP l).g i);let A30:=(ED l (BI A11 g i));i<AJ A11 g -> [I A30.fr,I A30.to_,I A30.area]= [I A36.fr,I A36.to_,I A36.area])/\A22=bif Am l then A22 else A19))) (by kernel_rfl) (by
 conv=>zeta
 have hn:l.n<=1000000:=hp;refine⟨⟨zr,trivial⟩,fun h=>?_,fun h=>?_⟩
 ·have hv:Am l=false:=CC h;unfold C1;rw[hv];exact⟨rfl,rfl⟩
 have hv:Am l=true:=B5 h;obtain⟨n3,n24,hsm,hbd⟩:=CZ hv;have hW:=Abh (l:=l);refine⟨⟨zr,by omega,by omega,hbd.2⟩,⟨0,rfl,⟨rfl,fun i hi=>absurd hi (oE _)⟩,rH _⟩,fun g hg=>⟨fun hlt=>?_,fun hge=>?_⟩⟩;rotate_left
 ·have hge:¬ (g:Int)<(l.n:Int):=of_decide_eq_false hge;obtain rfl:g=l.n:=by omega
  refine⟨⟨?_,fun _ _=>rfl⟩,by rw[hv];rfl⟩;unfold C1;rw[hv];rfl
 have hlt:(g:Int)<(l.n:Int):=of_decide_eq_true hlt;have e0:((g:Int)).toNat=g:=Ah7 g;have eK:AW (L.Sq.mk (Au l) fun i=>AR l i) (l.g g)=GA l g:=rfl;have eT:AW l (AR l (BY (Au l) (GA l g+1)))=Fg l g:=rfl;rw[e0,eK,eT];have hKb : -1<=GA l g/\GA l g<(Au l:Int):=Abi (H5 l) _;have hT:=Z7 (l:=l) (by omega) g;have hck:AJ (Do l) g<=g:=H0;refine⟨⟨by omega,hlt⟩,⟨zr,show Au l<=1000000 by omega⟩,fun hk=>?_,fun hk=>?_⟩
 ·have hp:Do l g=false:=by unfold Do;rw[hk];rfl
  exact⟨jK,g+1,rfl,rz,rz,⟨(GW hp).symm,fun i hi=>by rw[IC hp]⟩,by omega,by omega⟩
 have hk':=of_decide_eq_false hk;refine⟨jK,⟨zr,show 1<=Au l by omega,show Au l<=1000000 by omega,by omega,by omega⟩,⟨zr,hn⟩,jK,by omega,fun hd=>?_,fun hd=>?_⟩
 ·have hp:Do l g=true:=by unfold Do;rw[hk,cond_false];exact hd
  have hs:=Abg hsm (by omega) (by omega) (g:Int) (Fg l g);have hab:=NL hs (D2 l (g:Int) (Fg l g)).n (Ah0 _);have hsn:=hs.1;refine⟨⟨zr,⟨by omega,by omega⟩,⟨by omega,by omega⟩,hT.1,by omega⟩,⟨zr,hs⟩,Ab.of (by show _<=0-BT (D2 l (g:Int) (Fg l g)) (D2 l (g:Int) (Fg l g)).n;omega) (by show 0-BT (D2 l (g:Int) (Fg l g)) (D2 l (g:Int) (Fg l g)).n<=_;omega),show(AJ (Do l) g+1)*24<=140737488355328 by omega,jK,g+1,rfl,rz,rz,⟨(H1 hp).symm,fun i hi=>?_⟩,by omega,by omega⟩;have hi:i<AJ (Do l) g+1:=hi;unfold AH
  by_cases h':i<AJ (Do l) g
  ·rw[if_pos h',H3 (Nat.ne_of_lt h')]
  ·rw[if_neg h'];obtain rfl:i=AJ (Do l) g:=by omega
   rw[HR hp];rfl
 ·have hp:Do l g=false:=by unfold Do;rw[hk,cond_false];exact hd
  exact⟨jK,g+1,rfl,rz,rz,⟨(GW hp).symm,fun i hi=>by rw[IC hp]⟩,by omega,by omega⟩)
theorem Rf:Az prog 8 On:=AN func8 (c:=Ae f8) (by kernel_rfl) mixed (fun _ _ _ hs hp=>by
 unfold ZI at hs;split at hs
 ·cases hs;exact⟨_,_,Abs _ hp.2,(.p (.sl hp.1) .nil),⟨show Aa prog _ from(Aa.cons Ob Oc (Aa.cons Zq Zr (Aa.cons Abl Abm (Aa.cons KI KJ (Aa.cons Abp Abq (Aa.cons Y1 Y2 Aa.nil)))))),rfl,nz⟩⟩
 ·cases hs)
theorem Rg:An prog 8:=fun _ _=>by kernel_rfl
def HW (l:L.Sq L.Pt):Int:=bif Am l then 0 else 1
def Fu (l:L.Sq L.Pt):Nat->L.Pt
 |0=>l.g 0
 |k+1=>⟨min (Fu l k).x (l.g k).x,min (Fu l k).y (l.g k).y⟩
def Fv (l:L.Sq L.Pt):Nat->L.Pt
 |0=>l.g 0
 |k+1=>⟨max (Fv l k).x (l.g k).x,max (Fv l k).y (l.g k).y⟩
def CS (l:L.Sq L.Pt):L.Pt:=bif Am l then Fu l l.n else⟨0,0⟩
def CT (l:L.Sq L.Pt):L.Pt:=bif Am l then Fv l l.n else⟨0,0⟩
structure Ak where
 id:Int
 colour:Int
 grain:Int
 ol:L.Sq L.Pt
structure AF where
 id:Int
 colour:Int
 w:Int
 h:Int
 grain:Int
structure Ai where
 w:Int
 h:Int
def Dp:List SV->Ak
 |[.int _ a,.int _ b,.int _ c,.sl _ n g]=>⟨a,b,c,⟨n,fun i=>Ad (g i)⟩⟩
 |_=>⟨0,0,0,⟨0,fun _=>⟨0,0⟩⟩⟩
def He:List SV->Prop
 |[.int .i64 _,.int .i64 _,.int .i64 _,.sl 2 n g]=>∀i,i<n->g i = [.int .i64 (Ad (g i)).x,.int .i64 (Ad (g i)).y]
 |_=>False
def Er:List SV->AF
 |[.int _ a,.int _ b,.int _ c,.int _ d,.int _ e]=>⟨a,b,c,d,e⟩
 |_=>⟨0,0,0,0,0⟩
def FR:List SV->Ai
 |[.int _ a,.int _ b]=>⟨a,b⟩
 |_=>⟨0,0⟩
theorem Rh {l:List SV} (h:He l):l.length=4/\∀j,j<4->Ba (SV.at l j) (SV.at [.int .i64 (Dp l).id,.int .i64 (Dp l).colour,.int .i64 (Dp l).grain,.sl 2 (Dp l).ol.n (fun i=>[.int .i64 ((Dp l).ol.g i).x,.int .i64 ((Dp l).ol.g i).y])] j):=by
 unfold He at h;split at h
 ·rename_i a b c n g;refine⟨rfl,fun j hj=>?_⟩
  match j,hj with
  |0,_=>exact .refl _
  |1,_=>exact .refl _
  |2,_=>exact .refl _
  |3,_=>exact .sl h
 ·exact h.elim
theorem KL {n:Nat} {g:Nat->List SV} (h:∀i,i<n->He (g i)):Ba (.sl 4 n g) (.sl 4 n (fun i=>[.int .i64 (Dp (g i)).id,.int .i64 (Dp (g i)).colour,.int .i64 (Dp (g i)).grain,.sl 2 (Dp (g i)).ol.n (fun i1=>[.int .i64 ((Dp (g i)).ol.g i1).x,.int .i64 ((Dp (g i)).ol.g i1).y])])):=
 .sl2 (fun i hi=>by rw[(Rh (h i hi)).1];rfl) (fun i hi j hj=>(Rh (h i hi)).2 j (by rw[(Rh (h i hi)).1]at hj;exact hj))
def CE (s:AF):Bool:=bif (bif (bif (bif AI s.id 1 65535 then AI s.colour 1 16 else false)then AI s.w 1 4096 else false)then AI s.h 1 4096 else false)then AI s.grain 0 2 else false
def Hf (w:Ak):Bool:=bif (bif (bif AI w.id 1 65535 then AI w.colour 1 16 else false)then AI w.grain 0 2 else false)then Am w.ol else false
def FS (own grain turn:Int):Bool:=bif (bif decide (own=0)then true else decide (grain=0))then true else(decide (turn=0) == decide (own=grain))
def D3 (l:L.Sq L.Pt) (turn:Int):Ai:=bif decide (turn=1)then⟨(CT l).y-(CS l).y,(CT l).x-(CS l).x⟩else⟨(CT l).x-(CS l).x,(CT l).y-(CS l).y⟩
theorem FF {p:L.Pt}:B4 p=true↔0<=p.x/\p.x<=4096/\0<=p.y/\p.y<=4096:=by
 unfold B4 AI;rw[pR,pR,pR,decide_eq_true_eq,decide_eq_true_eq,decide_eq_true_eq,decide_eq_true_eq];omega
theorem Ri {l:L.Sq L.Pt} (hv:Am l=true):∀i,i<l.n->B4 (l.g i)=true:=(Mz hv).1
theorem ZJ {l:L.Sq L.Pt} (hn:0<l.n) (h:∀i,i<l.n->B4 (l.g i)=true):∀k,k<=l.n->B4 (Fu l k)=true
 |0,_=>h 0 hn
 |k+1,hk=>by
   have h1:=FF.1 (ZJ hn h k (by omega));have h2:=FF.1 (h k (by omega));rw[FF];simp only[Fu];omega
theorem ZK {l:L.Sq L.Pt} (hn:0<l.n) (h:∀i,i<l.n->B4 (l.g i)=true):∀k,k<=l.n->B4 (Fv l k)=true
 |0,_=>h 0 hn
 |k+1,hk=>by
   have h1:=FF.1 (ZK hn h k (by omega));have h2:=FF.1 (h k (by omega));rw[FF];simp only[Fv];omega
theorem Rj {l:L.Sq L.Pt}:∀k i,i<k->(Fu l k).x<=(l.g i).x/\(Fu l k).y<=(l.g i).y
 |0,_,h=>absurd h (oE _)
 |k+1,i,h=>by
   rw[Fu]
   by_cases e:i=k
   ·subst e;exact⟨by show min _ _<=_;omega,by show min _ _<=_;omega⟩
   ·have:=Rj (l:=l) k i (by omega);exact⟨by show min _ _<=_;omega,by show min _ _<=_;omega⟩
theorem Rk {l:L.Sq L.Pt}:∀k i,i<k->(l.g i).x<=(Fv l k).x/\(l.g i).y<=(Fv l k).y
 |0,_,h=>absurd h (oE _)
 |k+1,i,h=>by
   rw[Fv]
   by_cases e:i=k
   ·subst e;exact⟨by show _<=max _ _;omega,by show _<=max _ _;omega⟩
   ·have:=Rk (l:=l) k i (by omega);exact⟨by show _<=max _ _;omega,by show _<=max _ _;omega⟩
theorem Rl (l:L.Sq L.Pt):(0<=(CS l).x/\(CS l).x<=4096/\0<=(CS l).y/\(CS l).y<=4096)/\(0<=(CT l).x/\(CT l).x<=4096/\0<=(CT l).y/\(CT l).y<=4096):=by
 unfold CS CT;cases hv:Am l with
 |false =>
   rw[cond_false];have h0:(0:Int)<=0/\(0:Int)<=4096/\(0:Int)<=0/\(0:Int)<=4096:=by decide
   exact⟨h0,h0⟩
 |true =>
   rw[cond_true];obtain⟨n3,_,_,_⟩:=CZ hv;exact⟨FF.1 (ZJ (by omega) (Ri hv) _ (Ah0 _)),FF.1 (ZK (by omega) (Ri hv) _ (Ah0 _))⟩
theorem Abt (l:L.Sq L.Pt):Ab .i64 ((CT l).x-(CS l).x)/\Ab .i64 ((CT l).y-(CS l).y):=by
 have:=Rl l;exact⟨jK,jK⟩
def Oo (s:Ai):SV:=.agg [.int .i64 s.w,.int .i64 s.h]
theorem Abu {l:L.Sq L.Pt} {t:Int} (h:decide (t=1)=true):Oo ⟨(CT l).y-(CS l).y,(CT l).x-(CS l).x⟩=Oo (D3 l t):=by
 unfold D3;rw[h];rfl
theorem Abv {l:L.Sq L.Pt} {t:Int} (h:decide (t=1)=false):Oo ⟨(CT l).x-(CS l).x,(CT l).y-(CS l).y⟩=Oo (D3 l t):=by
 unfold D3;rw[h];rfl
def ZL (l:L.Sq L.Pt):Prop:=l.n<=1000000
def ZM (l:L.Sq L.Pt):SV:=.tup [(.agg [.int .i64 (CS l).x,.int .i64 (CS l).y]),(.agg [.int .i64 (CT l).x,.int .i64 (CT l).y]),.int .i64 (HW l)]
def ZN:List EV->Option (Prop×SV)
 |[.p (.sl 2 l_n l_g)]=>some ((∀i,i<l_n->l_g i = [.int .i64 (Ad (l_g i)).x,.int .i64 (Ad (l_g i)).y])/\ZL ⟨l_n,fun i=>Ad (l_g i)⟩,ZM ⟨l_n,fun i=>Ad (l_g i)⟩)
 |_=>none
abbrev ZO:SE.Spec:=(AM ZN)
def Abw:Aj:={ cC with muts:=[2,3,6],specs:=AE [(37,J3)],anys:=[2,10] }
theorem Abx (l:L.Sq L.Pt) (hp:ZL l):vc prog ({ Abw with loops:=AT [(5,{ T:=Nat,keep:=[0,2,3,18,19],keepO:=[],chg:=fun i=>[(20,.p (.int .i64 (i:Int)))],own:=fun i=>[(2,.blk 39 [.p (.int .i64 (Fu l i).x),.p (.int .i64 (Fu l i).y)]),(3,.blk 39 [.p (.int .i64 (Fv l i).x),.p (.int .i64 (Fv l i).y)])],inv:=fun i=>i<=l.n,mu:=fun i=>l.n-i })]}) (Ae f101) (Ao f101 [.p (.sl 2 l.n (fun i=>[.int .i64 (l.g i).x,.int .i64 (l.g i).y]))]) (AL prog f101 (ZM l)):=
 @Eq.mpr _ (let I:=SV.int .i64;let T:=AhD;let A15:=(1:Int);let A8:=(!Am (L.Sq.mk l.n fun(i:Nat)=>l.g i));let A7:=(↑l.n:Int);let A4:=[I (CT l).x,I (CT l).y];let A3:=[I (CS l).x,I (CS l).y];let A2:=(l.n=l.n/\∀(i:Nat),let A13:=[I (l.g i).x,I (l.g i).y];i<l.n->A13=A13);let A1:=(0:Int);let A11:=(l.g (T A1));let A10:=[I A1,I A1];((∀(i:Nat),let A14:=[I (l.g i).x,I (l.g i).y];i<l.n->A14=A14)/\l.n<=1000000)/\(A8=true->(SV.agg A10=SV.agg A3/\SV.agg A10=SV.agg A4/\A15=HW l)/\SV.agg A10=SV.agg A3/\SV.agg A10=SV.agg A4/\A15=HW l)/\(A8=false->(A1<=A1/\A1<A7)/\(A1<=A1/\A1<A7)/\(∃(g:Nat),A1=(↑g:Int)/\A11.x=(Fu l g).x/\A11.y=(Fu l g).y/\A11.x=(Fv l g).x/\A11.y=(Fv l g).y/\g<=l.n)/\∀(g:Nat),let A9:=(Fu l g);let A6:=(Fv l g);let A5:=(↑g:Int);let A12:=(l.g (T A5));g<=l.n->(decide (A5<A7)=true->(A1<=A5/\A5<A7)/\Ab .i64 (A5+A15)/\∃(g':Nat),A5+A15=(↑g':Int)/\A7=A7/\A2/\0=0/\0=0/\A2/\Min.min A9.x A12.x=(Fu l g').x/\Min.min A9.y A12.y=(Fu l g').y/\Max.max A6.x A12.x=(Fv l g').x/\Max.max A6.y A12.y=(Fv l g').y/\g'<=l.n/\l.n-g'<l.n-g)/\(decide (A5<A7)=false->(SV.agg [I A9.x,I A9.y]=SV.agg A3/\SV.agg [I A6.x,I A6.y]=SV.agg A4/\A1=HW l)/\SV.agg [I A9.x,I A9.y]=SV.agg A3/\SV.agg [I A6.x,I A6.y]=SV.agg A4/\A1=HW l))) (by kernel_rfl) (by
 conv=>zeta
 have hn:l.n<=1000000:=hp;refine⟨⟨zr,hn⟩,fun h=>?_,fun h=>?_⟩
 ·have h:Am l=false:=CC h;have eL:CS l=⟨0,0⟩:=by unfold CS;rw[h];rfl
  have eH:CT l=⟨0,0⟩:=by unfold CT;rw[h];rfl
  have e3:HW l=1:=by unfold HW;rw[h];rfl
  rw[eL,eH,e3]
  repeat' first
   |exact rfl
   |apply And.intro
 have hv:Am l=true:=B5 h;obtain⟨n3,n24,hsm,hbd⟩:=CZ hv;have eL:CS l=Fu l l.n:=by unfold CS;rw[hv];rfl
 have eH:CT l=Fv l l.n:=by unfold CT;rw[hv];rfl
 have e3:HW l=0:=by unfold HW;rw[hv];rfl
 refine⟨⟨AhV _,by omega⟩,⟨AhV _,by omega⟩,⟨(0:Nat),rfl,rfl,rfl,rfl,rfl,rH _⟩,fun g hg=>⟨fun hlt=>?_,fun hge=>?_⟩⟩
 ·have hlt:(g:Int)<(l.n:Int):=of_decide_eq_true hlt;exact⟨⟨by omega,hlt⟩,jK,g+1,by omega,rfl,rz,rfl,rfl,rz,rfl,rfl,rfl,rfl,by omega,by omega⟩
 ·have hge:¬ (g:Int)<(l.n:Int):=of_decide_eq_false hge;obtain rfl:g=l.n:=by omega
  rw[eL,eH,e3]
  repeat' first
   |exact rfl
   |apply And.intro)
theorem Aby:Az prog 101 ZO:=AN func101 (c:=Ae f101) (by kernel_rfl) mixed (fun _ _ _ hs hp=>by
 unfold ZN at hs;split at hs
 ·cases hs;exact⟨_,_,Abx _ hp.2,(.p (.sl hp.1) .nil),⟨show Aa prog _ from(Aa.cons KA KB Aa.nil),rfl,nz⟩⟩
 ·cases hs)
theorem Abz:An prog 101:=fun _ _=>by kernel_rfl
def ZP (n:Int) (a:Int) (b:Int):Prop:=True
def ZQ (n:Int) (a:Int) (b:Int):SV:=.bool (AI n a b)
def ZR:List EV->Option (Prop×SV)
 |[.p (.int .i64 n),.p (.int .i64 a),.p (.int .i64 b)]=>some (ZP n a b,ZQ n a b)
 |_=>none
abbrev II:SE.Spec:=(AM ZR)
def Ab0:Aj:={ muts:=[],frz:=B9 [],specs:=AE [],loops:=AT [],iters:=BG [],rfs:=AQ [],nils:=B3 [] }
theorem Ab1 (n:Int) (a:Int) (b:Int) (hp:ZP n a b):vc prog (Ab0) (Ae f38) (Ao f38 [.p (.int .i64 n),.p (.int .i64 a),.p (.int .i64 b)]) (AL prog f38 (ZQ n a b)):=
 @Eq.mpr _ ((bif decide (a<=n)then decide (n<=b)else false)=AI n a b) (by kernel_rfl) (by
 grind [AI])
theorem JB:Az prog 38 II:=AN func38 (c:=Ae f38) (by kernel_rfl) mixed (fun _ _ _ hs hp=>by
 unfold ZR at hs;split at hs
 ·cases hs;exact⟨_,_,Ab1 _ _ _ hp,(.same _ (.same _ (.same _ .nil))),⟨show Aa prog _ from Aa.nil,rfl,nz⟩⟩
 ·cases hs)
theorem JC:An prog 38:=fun _ _=>by kernel_rfl
def ZS (n:Int) (a:Int) (b:Int):Prop:=True
def ZT (n:Int) (a:Int) (b:Int):SV:=.bool (AI n a b)
def ZU:List EV->Option (Prop×SV)
 |[.p (.int .i64 n),.p (.int .i64 a),.p (.int .i64 b)]=>some (ZS n a b,ZT n a b)
 |_=>none
abbrev M6:SE.Spec:=(AM ZU)
def Ab2:Aj:={ muts:=[],frz:=B9 [],specs:=AE [],loops:=AT [],iters:=BG [],rfs:=AQ [],nils:=B3 [] }
theorem Ab3 (n:Int) (a:Int) (b:Int) (hp:ZS n a b):vc prog (Ab2) (Ae f46) (Ao f46 [.p (.int .i64 n),.p (.int .i64 a),.p (.int .i64 b)]) (AL prog f46 (ZT n a b)):=
 @Eq.mpr _ ((bif decide (a<=n)then decide (n<=b)else false)=AI n a b) (by kernel_rfl) (by
 grind [AI])
theorem Oq:Az prog 46 M6:=AN func46 (c:=Ae f46) (by kernel_rfl) mixed (fun _ _ _ hs hp=>by
 unfold ZU at hs;split at hs
 ·cases hs;exact⟨_,_,Ab3 _ _ _ hp,(.same _ (.same _ (.same _ .nil))),⟨show Aa prog _ from Aa.nil,rfl,nz⟩⟩
 ·cases hs)
theorem Ot:An prog 46:=fun _ _=>by kernel_rfl
def ZV (l:L.Sq L.Pt) (t:Int):Prop:=l.n<=1000000
def ZW (l:L.Sq L.Pt) (t:Int):SV:=(.agg [.int .i64 (D3 l t).w,.int .i64 (D3 l t).h])
def ZX:List EV->Option (Prop×SV)
 |[.p (.sl 2 l_n l_g),.p (.int .i64 t)]=>some ((∀i,i<l_n->l_g i = [.int .i64 (Ad (l_g i)).x,.int .i64 (Ad (l_g i)).y])/\ZV ⟨l_n,fun i=>Ad (l_g i)⟩ t,ZW ⟨l_n,fun i=>Ad (l_g i)⟩ t)
 |_=>none
abbrev Ou:SE.Spec:=(AM ZX)
def Ab4:Aj:={ cC with muts:=[4,5,6,8],specs:=AE [(101,ZO)] }
theorem Ab5 (l:L.Sq L.Pt) (t:Int) (hp:ZV l t):vc prog (Ab4) (Ae f115) (Ao f115 [.p (.sl 2 l.n (fun i=>[.int .i64 (l.g i).x,.int .i64 (l.g i).y])),.p (.int .i64 t)]) (AL prog f115 (ZW l t)):=
 @Eq.mpr _ (let I:=SV.int .i64;let A4:=[I (D3 l t).w,I (D3 l t).h];let A1:=(L.Sq.mk l.n fun(i:Nat)=>l.g i);let A3:=((CT A1).y-(CS A1).y);let A2:=((CT A1).x-(CS A1).x);((∀(i:Nat),let A5:=[I (l.g i).x,I (l.g i).y];i<l.n->A5=A5)/\l.n<=1000000)/\Ab .i64 A2/\Ab .i64 A3/\(decide (t=(1:Int))=true->SV.agg [I A3,I A2]=SV.agg A4)/\(decide (t=(1:Int))=false->SV.agg [I A2,I A3]=SV.agg A4)) (by kernel_rfl) (by
 conv=>zeta
 obtain⟨b1,b2⟩:=Abt l;exact⟨⟨zr,hp⟩,b1,b2,fun h=>Abu h,fun h=>Abv h⟩)
theorem Rm:Az prog 115 Ou:=AN func115 (c:=Ae f115) (by kernel_rfl) mixed (fun _ _ _ hs hp=>by
 unfold ZX at hs;split at hs
 ·cases hs;exact⟨_,_,Ab5 _ _ hp.2,(.p (.sl hp.1) (.same _ .nil)),⟨show Aa prog _ from(Aa.cons Aby Abz Aa.nil),rfl,nz⟩⟩
 ·cases hs)
theorem Rn:An prog 115:=fun _ _=>by kernel_rfl
def ZY (s:AF):Prop:=True
def ZZ (s:AF):SV:=.bool (CE s)
def aA:List EV->Option (Prop×SV)
 |[.p (.agg [.int .i64 s_id,.int .i64 s_colour,.int .i64 s_w,.int .i64 s_h,.int .i64 s_grain])]=>some (ZY (⟨s_id,s_colour,s_w,s_h,s_grain⟩:AF),ZZ (⟨s_id,s_colour,s_w,s_h,s_grain⟩:AF))
 |_=>none
abbrev aB:SE.Spec:=(AM aA)
def Ab6:Aj:={ cC with specs:=AE [(38,II)] }
theorem Ab7 (s:AF) (hp:ZY s):vc prog (Ab6) (Ae f142) (Ao f142 [.p (.agg [.int .i64 s.id,.int .i64 s.colour,.int .i64 s.w,.int .i64 s.h,.int .i64 s.grain])]) (AL prog f142 (ZZ s)):=
 @Eq.mpr _ (let A4:=(16:Int);let A3:=(4096:Int);let A2:=(65535:Int);let A1:=(1:Int);True/\(AI s.id A1 A2=true->True)/\((bif AI s.id A1 A2 then AI s.colour A1 A4 else false)=true->True)/\((bif bif AI s.id A1 A2 then AI s.colour A1 A4 else false then AI s.w A1 A3 else false)=true->True)/\((bif bif bif AI s.id A1 A2 then AI s.colour A1 A4 else false then AI s.w A1 A3 else false then AI s.h A1 A3 else false)=true->True)/\(bif bif bif bif AI s.id A1 A2 then AI s.colour A1 A4 else false then AI s.w A1 A3 else false then AI s.h A1 A3 else false then AI s.grain (0:Int) (2:Int)else false)=CE s) (by kernel_rfl) (by
 conv=>zeta
 exact⟨trivial,fun _=>trivial,fun _=>trivial,fun _=>trivial,fun _=>trivial,rfl⟩)
theorem Ab8:Az prog 142 aB:=AN func142 (c:=Ae f142) (by kernel_rfl) mixed (fun _ _ _ hs hp=>by
 unfold aA at hs;split at hs
 ·cases hs;exact⟨_,_,Ab7 _ hp,(.same _ .nil),⟨show Aa prog _ from(Aa.cons JB JC Aa.nil),rfl,nz⟩⟩
 ·cases hs)
theorem Ab9:An prog 142:=fun _ _=>by kernel_rfl
def aC (w:Ak):Prop:=w.ol.n<=1000000
def aD (w:Ak):SV:=.bool (Hf w)
def aF:List EV->Option (Prop×SV)
 |[.p (.agg [.int .i64 w_id,.int .i64 w_colour,.int .i64 w_grain,.sl 2 w_ol_n w_ol_g])]=>some ((∀i,i<w_ol_n->w_ol_g i = [.int .i64 (Ad (w_ol_g i)).x,.int .i64 (Ad (w_ol_g i)).y])/\aC (⟨w_id,w_colour,w_grain,⟨w_ol_n,fun i=>Ad (w_ol_g i)⟩⟩:Ak),aD (⟨w_id,w_colour,w_grain,⟨w_ol_n,fun i=>Ad (w_ol_g i)⟩⟩:Ak))
 |_=>none
abbrev aG:SE.Spec:=(AM aF)
def AbA:Aj:={ cC with specs:=AE [(38,II),(37,J3)] }
theorem AbB (w:Ak) (hp:aC w):vc prog (AbA) (Ae f141) (Ao f141 [.p (.agg [.int .i64 w.id,.int .i64 w.colour,.int .i64 w.grain,.sl 2 w.ol.n (fun i=>[.int .i64 (w.ol.g i).x,.int .i64 (w.ol.g i).y])])]) (AL prog f141 (aD w)):=
 @Eq.mpr _ (let A3:=(65535:Int);let A2:=(1:Int);True/\(AI w.id A2 A3=true->True)/\((bif AI w.id A2 A3 then AI w.colour A2 (16:Int)else false)=true->True)/\((bif bif AI w.id A2 A3 then AI w.colour A2 (16:Int)else false then AI w.grain (0:Int) (2:Int)else false)=true->(∀(i:Nat),let A1:=[SV.int .i64 (w.ol.g i).x,SV.int .i64 (w.ol.g i).y];i<w.ol.n->A1=A1)/\w.ol.n<=1000000)/\(bif bif bif AI w.id A2 A3 then AI w.colour A2 (16:Int)else false then AI w.grain (0:Int) (2:Int)else false then Am (L.Sq.mk w.ol.n fun(i:Nat)=>w.ol.g i)else false)=Hf w) (by kernel_rfl) (by
 conv=>zeta
 exact⟨trivial,fun _=>trivial,fun _=>trivial,fun _=>⟨zr,hp⟩,rfl⟩)
theorem AbC:Az prog 141 aG:=AN func141 (c:=Ae f141) (by kernel_rfl) mixed (fun _ _ _ hs hp=>by
 unfold aF at hs;split at hs
 ·cases hs; exact⟨_, _, AbB _ hp.2, (.p (.agg rfl (fun i hi =>by
  rcases i with _|i
  ·exact(Ba.refl _:Ba _ _)
  rcases i with _|i
  ·exact(Ba.refl _:Ba _ _)
  rcases i with _|i
  ·exact(Ba.refl _:Ba _ _)
  rcases i with _|i
  ·exact(Ba.sl hp.1:Ba _ _)
  exact absurd hi (by simp;try omega))) .nil),⟨show Aa prog _ from(Aa.cons JB JC (Aa.cons KA KB Aa.nil)),rfl,nz⟩⟩
 ·cases hs)
theorem AbD:An prog 141:=fun _ _=>by kernel_rfl
def aH (a:Int) (b:Int) (t:Int):Prop:=True
def aI (a:Int) (b:Int) (t:Int):SV:=.bool (FS a b t)
def aJ:List EV->Option (Prop×SV)
 |[.p (.int .i64 a),.p (.int .i64 b),.p (.int .i64 t)]=>some (aH a b t,aI a b t)
 |_=>none
abbrev Ro:SE.Spec:=(AM aJ)
def AbE:Aj:={ muts:=[],frz:=B9 [],specs:=AE [],loops:=AT [],iters:=BG [],rfs:=AQ [],nils:=B3 [] }
theorem AbF (a:Int) (b:Int) (t:Int) (hp:aH a b t):vc prog (AbE) (Ae f114) (Ao f114 [.p (.int .i64 a),.p (.int .i64 b),.p (.int .i64 t)]) (AL prog f114 (aI a b t)):=
 @Eq.mpr _ ((bif bif decide (a=(0:Int))then true else decide (b=(0:Int))then true else decide (t=(0:Int)) == decide (a=b))=FS a b t) (by kernel_rfl) (by
 rfl)
theorem aK:Az prog 114 Ro:=AN func114 (c:=Ae f114) (by kernel_rfl) mixed (fun _ _ _ hs hp=>by
 unfold aJ at hs;split at hs
 ·cases hs;exact⟨_,_,AbF _ _ _ hp,(.same _ (.same _ (.same _ .nil))),⟨show Aa prog _ from Aa.nil,rfl,nz⟩⟩
 ·cases hs)
theorem aL:An prog 114:=fun _ _=>by kernel_rfl
end Go.Proofs.YtdkpcdlnfobnnaaGreat
