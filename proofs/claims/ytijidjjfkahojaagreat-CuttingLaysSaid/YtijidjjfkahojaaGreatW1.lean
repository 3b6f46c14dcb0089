/- A symbolic walk over the model, and what it shows of functions of the program: parts of the proof that the text of the row joins. -/
import Derived.Test.YtijidjjfkahojaaGreatE4
import Derived.KernelRfl
import Derived.Test.YtijidjjfkahojaaGreatProg
import Derived.Test.YtijidjjfkahojaaGreatE5
open List renaming getD_eq_getElem?_getD->AS,getElem?_eq_getElem->oE,mem_cons->Afk,mem_cons_of_mem->Afn,getElem_mem->Af3,length_cons->AfZ,pairwise_cons->Agd,map->Ago
open Nat renaming not_lt_zero->Rc,zero_le->Afg,le_refl->Afo,lt_succ_iff_lt_or_eq->Aft,succ_le_succ->AgI
open Bool renaming and_eq_true->nT
open Int renaming toNat->Af1,tmod->AfF,tmod_eq_emod_of_nonneg->AfN,emod_eq_of_lt->AfV,tmod_lt_of_pos->AfY,add_emod_right->Agi,tmod_nonneg->Agr,tmod_eq_of_lt->AgC,mul_nonneg->AgQ
namespace Go.Proofs.YtijidjjfkahojaaGreat
open Go.SE Go.RowKit
namespace L
structure Pt where
 x:Int
 y:Int
structure Sq (α:Type) where
 n:Nat
 g:Nat->α
end L
namespace R
end R
def DK:List SV->Int
 |[.int _ n]=>n
 |_=>0
def pE:List SV->Bool
 |[.bool b]=>b
 |_=>false
def An:List SV->L.Pt
 |[.int _ x,.int _ y]=>⟨x,y⟩
 |_=>⟨0,0⟩
def CD:Nat->(Nat->Bool)->Bool
 |0,_=>true
 |n+1,f=>CD n f&&f n
theorem CQ {f:Nat->Bool}:∀{n:Nat},CD n f=true↔∀i,i<n->f i=true
 |0=>by simp[CD]
 |n+1=>by
   simp only[CD,nT,CQ (n:=n)];constructor
   ·rintro⟨h,k⟩ i hi;rcases Aft.1 hi with hi|rfl
    ·exact h i hi
    ·exact k
   ·exact fun h=>⟨fun i hi=>h i (by omega),h n (by omega)⟩
theorem FF {f:Nat->Bool} {n i:Nat} (hi:i<n) (h:f i=false):CD n f=false:=by
 cases hb:CD n f with
 |false=>rfl
 |true=>rw[CQ.1 hb i hi]at h;cases h
theorem Ez {a b:Int} {m n:Int} (h1 : -m<=a) (h2:a<=m) (h3 : -n<=b) (h4:b<=n): -(m*n)<=a*b/\a*b<=m*n:=by
 have hm:0<=m:=by omega
 have hn:0<=n:=by omega
 have e1:=AgQ (show 0<=m-a by omega) (show 0<=n-b by omega);have e2:=AgQ (show 0<=m+a by omega) (show 0<=n+b by omega);have e3:=AgQ (show 0<=m-a by omega) (show 0<=n+b by omega);have e4:=AgQ (show 0<=m+a by omega) (show 0<=n-b by omega);simp only[Int.sub_mul,Int.mul_sub,Int.add_mul,Int.mul_add]at e1 e2 e3 e4;omega
def Bt (p:BV) (xs:List SV):Bool:=pE [p.res xs]
theorem Ka {p:BV} (h:FD p) {xs:List SV} (hp:p.pre xs):p.res xs=.bool (Bt p xs):=by
 obtain⟨b,hb⟩:=h xs hp;rw[hb,Bt,hb];rfl
theorem mixed:Tryz.prog.follows .mixedOrders=true:=by kernel_rfl
theorem Ad.of {n:Int} (h : -9223372036854775808<=n) (k:n<=9223372036854775807):Ad .i64 n:=⟨h,k⟩
theorem jK {n:Int} (h : -9223372036854775808<=n:=by omega) (k:n<=9223372036854775807:=by omega):Ad .i64 n:=⟨h,k⟩
def cC:Ak:={ muts:=[],frz:=B2 [],specs:=AB [],loops:=AV [],iters:=Bw [],rfs:=AT [],nils:=B3 [] }
section
set_option maxRecDepth 100000
set_option maxHeartbeats 4000000
set_option linter.unusedVariables false
attribute [local irreducible] vc
def Ay (n a b:Int):Bool:=decide (a<=n)&&decide (n<=b)
def T8 (n:Int) (a:Int) (b:Int):Prop:=True
def T9 (n:Int) (a:Int) (b:Int):SV:=.bool (Ay n a b)
def TA:List EV->Option (Prop×SV)
 |[.p (.int .i64 n),.p (.int .i64 a),.p (.int .i64 b)]=>some (T8 n a b,T9 n a b)
 |_=>none
abbrev Nf:SE.Spec:=(AK TA)
def pF:Ak:={ muts:=[],frz:=B2 [],specs:=AB [],loops:=AV [],iters:=Bw [],rfs:=AT [],nils:=B3 [] }
theorem pG (n:Int) (a:Int) (b:Int) (hp:T8 n a b):vc Tryz.prog (pF) (Ah Tryz.f100) (Ap Tryz.f100 [.p (.int .i64 n),.p (.int .i64 a),.p (.int .i64 b)]) (AJ Tryz.prog Tryz.f100 (T9 n a b)):=
 @Eq.mpr _ ((bif decide (a<=n)then decide (n<=b)else false)=Ay n a b) (by kernel_rfl) (by
 grind [Ay])
theorem Pu:Av Tryz.prog 100 Nf:=AM Tryz.func100 (c:=Ah Tryz.f100) (by kernel_rfl) mixed (fun args p r hs hp=>by
 unfold TA at hs;split at hs
 ·cases hs;exact⟨_,_,pG _ _ _ hp,(.same _ (.same _ (.same _ .nil))),⟨show Aa Tryz.prog _ from Aa.nil,rfl,⟨show Ag Tryz.prog _ from Ag.nil,(Aw.none (fun _=>rfl))⟩⟩⟩
 ·cases hs)
theorem Pv:Ao Tryz.prog 100:=fun args w=>by kernel_rfl
end
section
set_option maxRecDepth 100000
set_option maxHeartbeats 4000000
set_option linter.unusedVariables false
attribute [local irreducible] vc
def FG (n k:Nat):Nat:=(AfF ((k:Int)+(n:Int)-1) (n:Int)).toNat
def Cf (n k:Nat):Nat:=(AfF ((k:Int)+1) (n:Int)).toNat
def Cq (l:L.Sq L.Pt):Nat->Int
 |0=>0
 |k+1=>Cq l k+((l.g k).x*(l.g (Cf l.n k)).y-(l.g (Cf l.n k)).x*(l.g k).y)
theorem In {n k:Nat} (h:0<n):Cf n k<n:=by
 have t3:=Agr (n:Int) (show 0<=(k:Int)+1 by omega);have t4:=AfY ((k:Int)+1) (show 0<(n:Int)by omega);unfold Cf;omega
def Fy (l:L.Sq L.Pt):Prop:=l.n<=1000/\∀i,i<l.n -> -4000000<=(l.g i).x/\(l.g i).x<=4000000 /\ -4000000<=(l.g i).y/\(l.g i).y<=4000000
theorem Pw {l:L.Sq L.Pt} (h:Fy l) {k:Nat} (hk:k<l.n):(-16000000000000<=(l.g k).x*(l.g (Cf l.n k)).y/\(l.g k).x*(l.g (Cf l.n k)).y<=16000000000000)/\(-16000000000000<=(l.g (Cf l.n k)).x*(l.g k).y/\(l.g (Cf l.n k)).x*(l.g k).y<=16000000000000):=by
 have h1:=h.2 k hk;have h2:=h.2 _ (In (n:=l.n) (k:=k) (by omega));have m1:=Ez (m:=4000000) (n:=4000000) h1.1 h1.2.1 h2.2.2.1 h2.2.2.2;have m2:=Ez (m:=4000000) (n:=4000000) h2.1 h2.2.1 h1.2.2.1 h1.2.2.2;omega
theorem Px {l:L.Sq L.Pt} (h:Fy l):∀k,k<=l.n -> -(32000000000000*(k:Int))<=Cq l k/\Cq l k<=32000000000000*(k:Int)
 |0,_=>by simp[Cq]
 |k+1,hk=>by
   have ih:=Px h k (by omega);have t:=Pw h (k:=k) (by omega);simp only[Cq];omega
def TB (l:(L.Sq L.Pt)):Prop:=l.n<=1000
def Py (l:(L.Sq L.Pt)):Nat:=l.n
def TC (l:(L.Sq L.Pt)):Nat->List SV:=fun k=>[.int .i64 (k:Int),.agg [.int .i64 (l.g (AfF ((k:Int)+(l.n:Int)-1) (l.n:Int)).toNat).x,.int .i64 (l.g (AfF ((k:Int)+(l.n:Int)-1) (l.n:Int)).toNat).y,.int .i64 (l.g (k:Int).toNat).x,.int .i64 (l.g (k:Int).toNat).y,.int .i64 (l.g (AfF ((k:Int)+1) (l.n:Int)).toNat).x,.int .i64 (l.g (AfF ((k:Int)+1) (l.n:Int)).toNat).y]]
def TD:List SV->Option (Prop×Nat×(Nat->List SV))
 |[.ref [.sl 2 l_n l_g] 0]=>some ((∀i,i<l_n->l_g i = [.int .i64 ((An (l_g i)).x),.int .i64 ((An (l_g i)).y)])/\TB (⟨l_n,fun i=>An (l_g i)⟩:(L.Sq L.Pt)),Py (⟨l_n,fun i=>An (l_g i)⟩:(L.Sq L.Pt)),TC (⟨l_n,fun i=>An (l_g i)⟩:(L.Sq L.Pt)))
 |_=>none
abbrev Ly:FQ:=JY TD
def pH:Ak:={ muts:=[],frz:=B2 [],specs:=AB [],loops:=fun _=>none,iters:=Bw [],rfs:=AT [] }
theorem pI (yl:Nat) (l:(L.Sq L.Pt)) (hp:TB l):vc Tryz.prog { pH with loops:=AV [(1,{ T:=Nat,keep:=[0,1,5,6],keepO:=[],chg:=fun i=>[(7,.p (.int .i64 (i:Int)))],own:=fun _=>[],inv:=fun i=>i<=l.n,mu:=fun i=>l.n-i,yk:=some (fun i=>i) })],yld:=some ⟨yl,Py l,TC l⟩ } (Ah Tryz.f133) (Ap Tryz.f133 (.yield yl::([.ref [.sl 2 l.n (fun i=>[.int .i64 ((l.g i).x),.int .i64 ((l.g i).y)])] 0]:List SV).map .p)) (JX Tryz.prog Tryz.f133 (Py l)):=
 @Eq.mpr _ (let I:=SV.int .i64;let T:=Af1;let M:=AfF;let A9:=(0:Int);let A6:=(1:Nat);let A5:=[SV.sl (nat_lit 2) l.n fun(i:Nat)=>[I (l.g i).x,I (l.g i).y]];let A4:=(1:Int);let A2:=(↑l.n:Int);(∃(g:Nat),nat_lit 0=g/\false=false/\A9=(↑g:Int)/\g<=l.n)/\∀(g:Nat),let A3:=(↑g:Int);let A8:=(A3+A4);let A7:=(A3+A2-A4);let A1:=[I A3,SV.agg [I (l.g (T (M A7 A2))).x,I (l.g (T (M A7 A2))).y,I (l.g (T A3)).x,I (l.g (T A3)).y,I (l.g (T (M A8 A2))).x,I (l.g (T (M A8 A2))).y]];g<=l.n->(decide (A3<A2)=true->(A9<=A3/\A3<A2)/\Ad .i64 (A3+A2)/\Ad .i64 A7/\A2≠A9/\(A9<=M A7 A2/\M A7 A2<A2)/\Ad .i64 A8/\A2≠A9/\(A9<=M A8 A2/\M A8 A2<A2)/\yl=yl/\g<l.n/\A1=A1/\((false=true->g+A6=l.n\/g+A6=l.n+A6)/\(false=false->Ad .i64 A8/\∃(g':Nat),g+A6=g'/\false=false/\A3+A4=(↑g':Int)/\A2=A2/\(l.n=l.n/\∀(i:Nat),let A10:=[I (l.g i).x,I (l.g i).y];i<l.n->A10=A10)/\yl=yl/\SV.ref A5 (nat_lit 0)=SV.ref A5 (nat_lit 0)/\g'<=l.n/\l.n-g'<l.n-g))/\(true=true->l.n+A6=l.n\/l.n+A6=l.n+A6)/\(true=false->Ad .i64 A8/\∃(g':Nat),l.n+A6=g'/\false=false/\A3+A4=(↑g':Int)/\A2=A2/\False/\yl=yl/\False/\g'<=l.n/\l.n-g'<l.n-g))/\(decide (A3<A2)=false->g=l.n\/g=l.n+A6)) (by kernel_rfl) (by
 conv=>zeta
 refine⟨⟨(0:Nat),rfl,rfl,rfl,Afg _⟩,fun g hg=>⟨fun hlt=>?_,fun hge=>?_⟩⟩
 ·have hb:(g:Int)<(l.n:Int):=by simpa using hlt
  have hn:l.n<=1000:=hp;have t1:=Agr (l.n:Int) (show 0<=(g:Int)+(l.n:Int)-1 by omega);have t2:=AfY ((g:Int)+(l.n:Int)-1) (show 0<(l.n:Int)by omega);have t3:=Agr (l.n:Int) (show 0<=(g:Int)+1 by omega);have t4:=AfY ((g:Int)+1) (show 0<(l.n:Int)by omega);refine⟨by omega,jK,jK,by omega,⟨t1,t2⟩,jK,by omega,⟨t3,t4⟩,rfl,by omega,rfl,?_⟩;exact⟨⟨fun h=>(by cases h),fun _=>⟨jK,g+1,rfl,rfl,by omega,rfl,⟨rfl,fun _ _=>rfl⟩,rfl,rfl,by omega,by omega⟩⟩,fun _=>.inr rfl,fun h=>(by cases h)⟩
 ·have hb:¬ (g:Int)<(l.n:Int):=by simpa using hge
  exact .inl (by omega))
theorem Ng:H7 Tryz.prog 133 Ly:=Na Tryz.func133 (c:=Ah Tryz.f133) (by kernel_rfl) mixed (fun caps l p n g hs hp=>by
 unfold TD at hs;split at hs
 ·cases hs; exact⟨_, _, pI l _ hp.2, (.cons (AX.ref rfl (fun i hi =>by
  rcases i with _|i
  ·show AX (SV.sl _ _ _) (SV.sl _ _ _);exact(AX.sl hp.1)
  exact absurd hi (by simp;try omega))) .nil),rfl,show Aa Tryz.prog _ from Aa.nil,⟨show Ag Tryz.prog _ from Ag.nil,Aw.none (fun _=>rfl)⟩⟩
 ·cases hs)
theorem Nh:Ao Tryz.prog 133:=fun args w=>by kernel_rfl
def TE (l:(L.Sq L.Pt)):Prop:=l.n<=1000
def TF (l:(L.Sq L.Pt)):SV:=.clo 133 [.ref [(.sl 2 l.n (fun i=>[.int .i64 ((l.g i).x),.int .i64 ((l.g i).y)]))] 0]
def TG:List EV->Option (Prop×SV)
 |[.p (.sl 2 l_n l_g)]=>some ((∀i,i<l_n->l_g i = [.int .i64 ((An (l_g i)).x),.int .i64 ((An (l_g i)).y)])/\TE (⟨l_n,fun i=>An (l_g i)⟩:(L.Sq L.Pt)),TF (⟨l_n,fun i=>An (l_g i)⟩:(L.Sq L.Pt)))
 |_=>none
abbrev Lz:SE.Spec:=(AK TG)
def pJ:Ak:={ muts:=[],frz:=B2 [],specs:=AB [],loops:=AV [],iters:=Bw [],rfs:=AT [],nils:=B3 [] }
theorem pK (l:(L.Sq L.Pt)) (hp:TE l):vc Tryz.prog (pJ) (Ah Tryz.f102) (Ap Tryz.f102 [.p (.sl 2 l.n (fun i=>[.int .i64 ((l.g i).x),.int .i64 ((l.g i).y)]))]) (AJ Tryz.prog Tryz.f102 (TF l)):=
 @Eq.mpr _ (SV.clo (nat_lit 133) [SV.ref [SV.sl (nat_lit 2) l.n fun(i:Nat)=>[SV.int .i64 (l.g i).x,SV.int .i64 (l.g i).y]] (nat_lit 0)]=SV.clo (nat_lit 133) [SV.ref [SV.sl (nat_lit 2) l.n fun(i:Nat)=>[SV.int .i64 (l.g i).x,SV.int .i64 (l.g i).y]] (nat_lit 0)]) (by kernel_rfl) (by
 rfl)
theorem Ni:Av Tryz.prog 102 Lz:=AM Tryz.func102 (c:=Ah Tryz.f102) (by kernel_rfl) mixed (fun args p r hs hp=>by
 unfold TG at hs;split at hs
 ·cases hs;exact⟨_,_,pK _ hp.2,(.p (.sl hp.1) .nil),⟨show Aa Tryz.prog _ from Aa.nil,rfl,⟨show Ag Tryz.prog _ from Ag.nil,(Aw.none (fun _=>rfl))⟩⟩⟩
 ·cases hs)
theorem Nj:Ao Tryz.prog 102:=fun args w=>by kernel_rfl
def TH (l:(L.Sq L.Pt)):Prop:=Fy l
def TI (l:(L.Sq L.Pt)):SV:=.int .i64 (Cq l l.n)
def TJ:List EV->Option (Prop×SV)
 |[.p (.sl 2 l_n l_g)]=>some ((∀i,i<l_n->l_g i = [.int .i64 ((An (l_g i)).x),.int .i64 ((An (l_g i)).y)])/\TH (⟨l_n,fun i=>An (l_g i)⟩:(L.Sq L.Pt)),TI (⟨l_n,fun i=>An (l_g i)⟩:(L.Sq L.Pt)))
 |_=>none
abbrev Pz:SE.Spec:=(AK TJ)
def pL:Ak:={ cC with muts:=[3,5],specs:=AB [(102,Lz)],iters:=Bw [(133,Ly)] }
theorem pM (l:(L.Sq L.Pt)) (hp:TH l):vc Tryz.prog ({ pL with loops:=AV [],rfs:=AT [(3,{ T:=Nat,keep:=[3],keepO:=[],own:=fun k _=>[(3,.blk 3 [.p (.int .i64 (Cq l k))])],inv:=fun k _=>k<=l.n })] }) (Ah Tryz.f95) (Ap Tryz.f95 [.p (.sl 2 l.n (fun i=>[.int .i64 ((l.g i).x),.int .i64 ((l.g i).y)]))]) (AJ Tryz.prog Tryz.f95 (TI l)):=
 @Eq.mpr _ (let I:=SV.int .i64;let T:=Af1;let M:=AfF;let A5:=((0:Int)<=(2:Int)/\(2:Int)<(↑(3:Nat):Int));let A4:=((0:Int)<=(1:Int)/\(1:Int)<(↑(3:Nat):Int));let A3:=((∀(i:Nat),let A7:=[I (l.g i).x,I (l.g i).y];i<l.n->A7=A7)/\l.n<=(1000:Nat));A3/\(A3/\∃(t:Nat),(0:Int)=Cq l (0:Nat)/\(0:Nat)<=l.n)/\(∀(k t:Nat) (vk:Nat->Go.Value),let A6:=(l.g (T (↑k:Int)));let A1:=(l.g (T (M ((↑k:Int)+(1:Int)) (↑l.n:Int))));let A2:=(A6.x*A1.y-A1.x*A6.y);k<l.n->k<=l.n->A4/\A5/\Ad .i64 (A6.x*A1.y)/\A5/\A4/\Ad .i64 (A1.x*A6.y)/\Ad .i64 A2/\Ad .i64 (Cq l k+A2)/\∃(t':Nat),nat_lit 0=nat_lit 0/\vk (nat_lit 3)=vk (nat_lit 3)/\Cq l k+A2=Cq l (k+(1:Nat))/\k+(1:Nat)<=l.n)/\∀(t:Nat),l.n<=l.n->Cq l l.n=Cq l l.n) (by kernel_rfl) (by
 conv=>zeta
 have hs:Fy l:=hp;refine⟨⟨fun _ _=>rfl,hs.1⟩,⟨⟨fun _ _=>rfl,hs.1⟩,(0:Nat),rfl,Afg _⟩,fun k t vk hk hi=>?_,fun _ _=>rfl⟩;have e0:((k:Int)).toNat=k:=by omega
 have e1:(AfF ((k:Int)+1) (l.n:Int)).toNat=Cf l.n k:=rfl;rw[e0,e1];have b1:=Pw hs hk;have b2:=Px hs k hi;have hn:=hs.1;refine⟨by omega,by omega,jK,by omega,by omega,jK,jK,jK,(0:Nat),rfl,rfl,rfl,hk⟩)
theorem TK:Av Tryz.prog 95 Pz:=AM Tryz.func95 (c:=Ah Tryz.f95) (by kernel_rfl) mixed (fun args p r hs hp=>by
 unfold TJ at hs;split at hs
 ·cases hs;exact⟨_,_,pM _ hp.2,(.p (.sl hp.1) .nil),⟨show Aa Tryz.prog _ from(Aa.cons Ni Nj Aa.nil),rfl,⟨show Ag Tryz.prog _ from(Ag.cons Ng Nh Ag.nil),(Aw.none (fun _=>rfl))⟩⟩⟩
 ·cases hs)
theorem TL:Ao Tryz.prog 95:=fun args w=>by kernel_rfl
end
section
set_option maxRecDepth 100000
set_option maxHeartbeats 4000000
set_option linter.unusedVariables false
attribute [local irreducible] vc
def Br (a b:Int):Int:=bif decide (a<b)then -1 else bif decide (b<a)then 1 else 0
def HG (a b:Int):Int:=bif decide (a=0)then b else a
def GM (g:Nat->Int):Nat->Int
 |0=>0
 |n+1=>HG (GM g n) (g n)
theorem P0 {g:Nat->Int}:∀{n:Nat},(∀j,j<n->g j=0)->GM g n=0
 |0,_=>rfl
 |n+1,h=>by rw[GM,P0 (n:=n) (fun j hj=>h j (by omega)),h n (by omega)];rfl
theorem TM {g:Nat->Int} {i:Nat} (h0:∀j,j<i->g j=0) (hi:g i≠0):∀{n:Nat},i<n->GM g n=g i
 |n+1,h=>by
   by_cases hin:i<n
   ·simp[GM,HG,TM h0 hi hin,hi]
   ·have:i=n:=by omega
    subst this;simp[GM,HG,P0 h0]
def Cw:Nat->(Nat->Bool)->Int
 |0,_=>-1
 |n+1,f=>bif decide (0<=Cw n f)then Cw n f else bif f n then(n:Int)else -1
def Cl:Nat->(Nat->Bool)->Bool
 |0,_=>false
 |n+1,f=>Cl n f||f n
theorem Fc {f:Nat->Bool}:∀{n:Nat},Cl n f=true↔∃i,i<n/\f i=true
 |0=>by simp[Cl]
 |n+1=>by
   simp only[Cl,Bool.or_eq_true,Fc (n:=n)];constructor
   ·rintro(⟨i,h,k⟩|h)
    ·exact⟨i,by omega,k⟩
    ·exact⟨n,by omega,h⟩
   ·rintro⟨i,h,k⟩;rcases Aft.1 h with h|rfl
    ·exact .inl ⟨i,h,k⟩
    ·exact .inr k
theorem Jf {f:Nat->Bool}:∀{n:Nat},(∀j,j<n->f j=false)->Cw n f = -1
 |0,_=>rfl
 |n+1,h=>by rw[Cw,Jf (n:=n) (fun j hj=>h j (by omega)),h n (by omega)];rfl
theorem Kb {f:Nat->Bool} {i:Nat} (h0:∀j,j<i->f j=false) (hi:f i=true):∀{n:Nat},i<n->Cw n f=(i:Int)
 |n+1,h=>by
   by_cases hin:i<n
   ·simp[Cw,Kb h0 hi hin]
   ·have:i=n:=by omega
    subst this;simp[Cw,Jf h0,hi]
theorem L0 {f:Nat->Bool}:∀{n:Nat},decide (0<=Cw n f)=Cl n f
 |0=>rfl
 |n+1=>by
   have ih:=L0 (f:=f) (n:=n);unfold Cl;rw[<- ih];cases hf:f n<;>by_cases h:0<=Cw n f<;>simp[Cw,hf,h]
theorem Ct {f:Nat->Bool}:∀{n:Nat},-1<=Cw n f/\Cw n f<(n:Int)
 |0=>by simp[Cw]
 |n+1=>by
   have ih:=Ct (f:=f) (n:=n);cases hf:f n<;>by_cases h:0<=Cw n f<;>simp[Cw,hf,h]<;>omega
def Cr (p:Nat->Bool):Nat->Nat
 |0=>0
 |n+1=>bif p n then Cr p n+1 else Cr p n
theorem P1 {p:Nat->Bool}:∀{n:Nat},Cr p n<=n
 |0=>Afo _
 |n+1=>by
   have:=P1 (p:=p) (n:=n);unfold Cr;cases p n<;>simp<;>omega
def DT (p:Nat->Bool):Nat->Nat->Nat
 |0,_=>0
 |n+1,k=>bif p n&&decide (k=Cr p n)then n else DT p n k
theorem pN {p:Nat->Bool} {n:Nat} (h:p n=true):Cr p (n+1)=Cr p n+1:=by simp[Cr,h]
theorem pO {p:Nat->Bool} {n:Nat} (h:p n=false):Cr p (n+1)=Cr p n:=by simp[Cr,h]
theorem pP {p:Nat->Bool} {n:Nat} (h:p n=true):DT p (n+1) (Cr p n)=n:=by simp[DT,h]
theorem pQ {p:Nat->Bool} {n k:Nat} (h:k≠Cr p n):DT p (n+1) k=DT p n k:=by simp[DT,h]
theorem pR {p:Nat->Bool} {n k:Nat} (h:p n=false):DT p (n+1) k=DT p n k:=by simp[DT,h]
theorem TN {f:Nat->Bool}:∀{n:Nat},(Cw n f = -1/\∀j,j<n->f j=false)\/∃i,i<n/\Cw n f=(i:Int)/\f i=true/\∀j,j<i->f j=false
 |0=>.inl ⟨rfl,fun j hj=>absurd hj (Rc _)⟩
 |n+1=>by
   rcases TN (f:=f) (n:=n)with ⟨h1,h2⟩|⟨i,h1,h2,h3,h4⟩
   ·cases hf:f n with
    |true=>exact .inr ⟨n,Nat.lt_succ_self n,by simp[Cw,h1,hf],hf,h2⟩
    |false =>exact .inl ⟨by simp[Cw, h1, hf], fun j hj =>by
     rcases Aft.1 hj with h|rfl
     ·exact h2 j h
     ·exact hf⟩
   ·exact .inr ⟨i,by omega,by simp[Cw,h2],h3,h4⟩
theorem Ht (a b:Bool):(bif a then b else false)=(a&&b):=by cases a<;>rfl
theorem FZ (a b:Bool):(bif a then true else b)=(a||b):=by cases a<;>rfl
def TO (x:Int):Prop:=True
def TP (x:Int):SV:=.bool false
def TQ:List EV->Option (Prop×SV)
 |[.p (.int .i64 x)]=>some (TO x,TP x)
 |_=>none
abbrev TR:SE.Spec:=(AK TQ)
def pS:Ak:={ muts:=[],frz:=B2 [],specs:=AB [],loops:=AV [],iters:=Bw [],rfs:=AT [],nils:=B3 [] }
theorem pT (x:Int) (hp:TO x):vc Tryz.prog (pS) (Ah Tryz.f143) (Ap Tryz.f143 [.p (.int .i64 x)]) (AJ Tryz.prog Tryz.f143 (TP x)):=
 @Eq.mpr _ ((!decide (x=x))=false) (by kernel_rfl) (by
 simp)
theorem pU:Av Tryz.prog 143 TR:=AM Tryz.func143 (c:=Ah Tryz.f143) (by kernel_rfl) mixed (fun args p r hs hp=>by
 unfold TQ at hs;split at hs
 ·cases hs;exact⟨_,_,pT _ hp,(.same _ .nil),⟨show Aa Tryz.prog _ from Aa.nil,rfl,⟨show Ag Tryz.prog _ from Ag.nil,(Aw.none (fun _=>rfl))⟩⟩⟩
 ·cases hs)
theorem pV:Ao Tryz.prog 143:=fun args w=>by kernel_rfl
def TS (a:Int) (b:Int):Prop:=True
def TT (a:Int) (b:Int):SV:=.int .i64 (Br a b)
def TU:List EV->Option (Prop×SV)
 |[.p (.int .i64 a),.p (.int .i64 b)]=>some (TS a b,TT a b)
 |_=>none
abbrev Kc:SE.Spec:=(AK TU)
def pW:Ak:={ cC with specs:=AB [(143,TR)] }
theorem pX (a:Int) (b:Int) (hp:TS a b):vc Tryz.prog (pW) (Ah Tryz.f111) (Ap Tryz.f111 [.p (.int .i64 a),.p (.int .i64 b)]) (AJ Tryz.prog Tryz.f111 (TT a b)):=
 @Eq.mpr _ (True/\True/\(false=true->(false=true->(0:Int)=Br a b)/\(false=false->(-1:Int)=Br a b))/\(false=false->(false=true->(1:Int)=Br a b)/\(false=false->(decide (a<b)=true->(-1:Int)=Br a b)/\(decide (a<b)=false->(decide (b<a)=true->(1
:Int)=Br a b)/\(decide (b<a)=false->(0:Int)=Br a b))))) (by kernel_rfl) (by
 grind [Br])
theorem L1:Av Tryz.prog 111 Kc:=AM Tryz.func111 (c:=Ah Tryz.f111) (by kernel_rfl) mixed (fun args p r hs hp=>by
 unfold TU at hs;split at hs
 ·cases hs;exact⟨_,_,pX _ _ hp,(.same _ (.same _ .nil)),⟨show Aa Tryz.prog _ from(Aa.cons pU pV Aa.nil),rfl,⟨show Ag Tryz.prog _ from Ag.nil,(Aw.none (fun _=>rfl))⟩⟩⟩
 ·cases hs)
theorem L2:Ao Tryz.prog 111:=fun args w=>by kernel_rfl
def TV (l:(L.Sq Int)):Prop:=l.n<=1000000
def TW (l:(L.Sq Int)):SV:=.int .i64 (GM l.g l.n)
def TX:List EV->Option (Prop×SV)
 |[.p (.sl 1 l_n l_g)]=>some ((∀i,i<l_n->l_g i = [.int .i64 ((DK (l_g i)))])/\TV (⟨l_n,fun i=>DK (l_g i)⟩:(L.Sq Int)),TW (⟨l_n,fun i=>DK (l_g i)⟩:(L.Sq Int)))
 |_=>none
abbrev P2:SE.Spec:=(AK TX)
def pY:Ak:={ muts:=[],frz:=B2 [],specs:=AB [],loops:=fun _=>none,iters:=Bw [],rfs:=AT [],nils:=B3 [] }
theorem pZ (l:(L.Sq Int)) (hp:TV l):vc Tryz.prog ({ pY with loops:=AV [(3,{ T:=Nat,keep:=[0,3,6,7],keepO:=[],chg:=fun i=>[(8,.p (.int .i64 i))],own:=fun _=>[],inv:=fun i=>i<=l.n/\(∀j,j<i->l.g j=0),mu:=fun i=>l.n-i })],rfs:=AT [] }) (Ah Tryz.f122) (Ap Tryz.f122 [.p (.sl 1 l.n (fun i=>[.int .i64 ((l.g i))]))]) (AJ Tryz.prog Tryz.f122 (TW l)):=
 @Eq.mpr _ (let A5:=(↑l.n:Int);let A4:=(0:Int);let A1:=(l.n=l.n/\∀(i:Nat),let A6:=[SV.int .i64 (l.g i)];i<l.n->A6=A6);(∃(g:Nat),A4=(↑g:Int)/\g<=l.n/\∀(j:Nat),j<g->l.g j=A4)/\∀(g:Nat),let A3:=(↑g:Int);let A2:=(!decide (l.g (Af1 A3)=A4));(g<=l.n/\∀(j:Nat),j<g->l.g j=A4)->(decide (A3<A5)=true->(A4<=A3/\A3<A5)/\(A2=true->l.g (Af1 A3)=GM l.g l.n)/\(A2=false->Ad .i64 (A3+(1:Int))/\∃(g':Nat),A3+(1:Int)=(↑g':Int)/\A5=A5/\A1/\A4=A4/\A1/\(g'<=l.n/\∀(j:Nat),j<g'->l.g j=A4)/\l.n-g'<l.n-g))/\(decide (A3<A5)=false->A4=GM l.g l.n)) (by kernel_rfl) (by
 conv=>zeta
 refine⟨⟨(0:Nat),rfl,Afg _,fun j hj=>by omega⟩,fun g hg=>⟨fun hlt=>?_,fun hge=>?_⟩⟩
 ·have hb:(g:Int)<(l.n:Int):=by simpa using hlt
  have e0:((g:Int)).toNat=g:=by omega
  rw[e0];have hn:l.n<=1000000:=hp;refine⟨by omega,fun h=>?_,fun h=>?_⟩
  ·exact(TM hg.2 (by simpa using h) (by omega)).symm
  ·have h0:l.g g=0:=by simpa using h
   exact⟨jK,g+1,by omega,rfl,⟨rfl,fun _ _=>rfl⟩,rfl,⟨rfl,fun _ _=>rfl⟩,⟨by omega,fun j hj=>by
    rcases Aft.1 hj with h|rfl
    ·exact hg.2 j h
    ·exact h0⟩,by omega⟩
 ·have hb:¬ (g:Int)<(l.n:Int):=by simpa using hge
  exact(P0 (fun j hj=>hg.2 j (by omega))).symm)
theorem TY:Av Tryz.prog 122 P2:=AM Tryz.func122 (c:=Ah Tryz.f122) (by kernel_rfl) mixed (fun args p r hs hp=>by
 unfold TX at hs;split at hs
 ·cases hs;exact⟨_,_,pZ _ hp.2,(.p (.sl hp.1) .nil),⟨show Aa Tryz.prog _ from Aa.nil,rfl,⟨show Ag Tryz.prog _ from Ag.nil,(Aw.none (fun _=>rfl))⟩⟩⟩
 ·cases hs)
theorem TZ:Ao Tryz.prog 122:=fun args w=>by kernel_rfl
def Ua (l:(L.Sq Int)) (p:BV):Prop:=l.n<=1000000/\∀i,i<l.n->p.pre [(.int .i64 ((l.g i)))]
def Ub (l:(L.Sq Int)) (p:BV):SV:=.int .i64 (Cw l.n (fun i=>Bt p [(.int .i64 ((l.g i)))]))
def Uc:List EV->Option (Prop×SV)
 |[.p (.sl 1 l_n l_g),.fn p]=>some ((∀i,i<l_n->l_g i = [.int .i64 ((DK (l_g i)))])/\FD p/\Ua (⟨l_n,fun i=>DK (l_g i)⟩:(L.Sq Int)) p,Ub (⟨l_n,fun i=>DK (l_g i)⟩:(L.Sq Int)) p)
 |_=>none
abbrev Ud:SE.Spec:=(AK Uc)
def qA:Ak:={ muts:=[],frz:=B2 [],specs:=AB [],loops:=fun _=>none,iters:=Bw [],rfs:=AT [],nils:=B3 [] }
theorem qB (l:(L.Sq Int)) (p:BV) (hp:Ua l p):vc Tryz.prog ({ qA with loops:=AV [(2,{ T:=Nat,keep:=[0,1,6,7],keepO:=[],chg:=fun i=>[(8,.p (.int .i64 i))],own:=fun _=>[],inv:=fun i=>i<=l.n/\(∀j,j<i->Bt p [(.int .i64 ((l.g j)))]=false),mu:=fun i=>l.n-i })],rfs:=AT [] }) (Ah Tryz.f172) (Ap Tryz.f172 [.p (.sl 1 l.n (fun i=>[.int .i64 ((l.g i))])),.fn ⟨p.pre,fun xs=>.bool (Bt p xs)⟩]) (AJ Tryz.prog Tryz.f172 (Ub l p)):=
 @Eq.mpr _ (let I:=SV.int .i64;let A4:=(↑l.n:Int);let A2:=(l.n=l.n/\∀(i:Nat),i<l.n -> [I (l.g i)]= [I (l.g i)]);(∃(g:Nat),(0:Int)=(↑g:Int)/\g<=l.n/\∀(j:Nat),j<g->Bt p [I (l.g j)]=false)/\∀(g:Nat),let A1:=(↑g:Int);let A3:=[I (l.g (Af1 A1))];(g<=l.n/\∀(j:Nat),j<g->Bt p [I (l.g j)]=false)->(decide (A1<A4)=true->((0:Int)<=A1/\A1<A4)/\p.1 A3/\(Bt p A3=true->A1=Cw l.n fun(i:Nat)=>Bt p [I (l.g i)])/\(Bt p A3=false->Ad .i64 (A1+(1:Int))/\∃(g':Nat),A1+(1:Int)=(↑g':Int)/\A4=A4/\A2/\A2/\((BV.mk p.pre fun(xs:List SV)=>SV.bool (Bt p xs))=BV.mk p.pre fun(xs:List SV)=>SV.bool (Bt p xs))/\(g'<=l.n/\∀(j:Nat),j<g'->Bt p [I (l.g j)]=false)/\l.n-g'<l.n-g))/\(decide (A1<A4)=false->(-1:Int)=Cw l.n fun(i:Nat)=>Bt p [I (l.g i)])) (by kernel_rfl) (by
 conv=>zeta
 obtain⟨hn,hpre⟩:=hp;refine⟨⟨(0:Nat),rfl,Afg _,fun j hj=>by omega⟩,fun g hg=>⟨fun hlt=>?_,fun hge=>?_⟩⟩
 ·have hb:(g:Int)<(l.n:Int):=by simpa using hlt
  have e0:((g:Int)).toNat=g:=by omega
  rw[e0];refine⟨by omega,hpre g (by omega),fun h=>?_,fun h=>?_⟩
  ·exact(Kb hg.2 h (by omega)).symm
  ·exact⟨jK, g+1, by omega, rfl, ⟨rfl, fun _ _ =>rfl⟩, ⟨rfl, fun _ _ =>rfl⟩, rfl, ⟨by omega, fun j hj =>by
   rcases Aft.1 hj with h'|rfl
   ·exact hg.2 j h'
   ·exact h⟩,by omega⟩
 ·have hb:¬ (g:Int)<(l.n:Int):=by simpa using hge
  exact(Jf (fun j hj=>hg.2 j (by omega))).symm)
theorem qC:Av Tryz.prog 172 Ud:=AM Tryz.func172 (c:=Ah Tryz.f172) (by kernel_rfl) mixed (fun args p r hs hp=>by
 unfold Uc at hs;split at hs
 ·cases hs;exact⟨_,_,qB _ _ hp.2.2,(.p (.sl hp.1) (.fn (fun xs h=>⟨h,(Ka hp.2.1 h).symm⟩) .nil)),⟨show Aa Tryz.prog _ from Aa.nil,rfl,⟨show Ag Tryz.prog _ from Ag.nil,(Aw.none (fun _=>rfl))⟩⟩⟩
 ·cases hs)
theorem qD:Ao Tryz.prog 172:=fun args w=>by kernel_rfl
def Ue (l:(L.Sq Int)) (p:BV):Prop:=l.n<=1000000/\∀i,i<l.n->p.pre [(.int .i64 ((l.g i)))]
def Uf (l:(L.Sq Int)) (p:BV):SV:=.bool (Cl l.n (fun i=>Bt p [(.int .i64 ((l.g i)))]))
def Ug:List EV->Option (Prop×SV)
 |[.p (.sl 1 l_n l_g),.fn p]=>some ((∀i,i<l_n->l_g i = [.int .i64 ((DK (l_g i)))])/\FD p/\Ue (⟨l_n,fun i=>DK (l_g i)⟩:(L.Sq Int)) p,Uf (⟨l_n,fun i=>DK (l_g i)⟩:(L.Sq Int)) p)
 |_=>none
abbrev Uh:SE.Spec:=(AK Ug)
def qE:Ak:={ cC with specs:=AB [(172,Ud)] }
theorem qF (l:(L.Sq Int)) (p:BV) (hp:Ue l p):vc Tryz.prog (qE) (Ah Tryz.f145) (Ap Tryz.f145 [.p (.sl 1 l.n (fun i=>[.int .i64 ((l.g i))])),.fn ⟨p.pre,fun xs=>.bool (Bt p xs)⟩]) (AJ Tryz.prog Tryz.f145 (Uf l p)):=
 @Eq.mpr _ (let I:=SV.int .i64;let A1:=(BV.mk p.pre fun(xs:List SV)=>SV.bool (Bt p xs));((∀(i:Nat),i<l.n -> [I (l.g i)]= [I (l.g i)])/\FD A1/\l.n<=(1000000:Nat)/\∀(i:Nat),i<l.n->p.1 [I (l.g i)])/\decide ((0:Int)<=Cw l.n fun(i:Nat)=>Bt A1 [I (l.g i)])=Cl l.n fun(i:Nat)=>Bt p [I (l.g i)]) (by kernel_rfl) (by
 conv=>zeta
 refine⟨⟨fun _ _=>rfl,fun xs _=>⟨_,rfl⟩,hp⟩,L0⟩)
theorem qG:Av Tryz.prog 145 Uh:=AM Tryz.func145 (c:=Ah Tryz.f145) (by kernel_rfl) mixed (fun args p r hs hp=>by
 unfold Ug at hs;split at hs
 ·cases hs;exact⟨_,_,qF _ _ hp.2.2,(.p (.sl hp.1) (.fn (fun xs h=>⟨h,(Ka hp.2.1 h).symm⟩) .nil)),⟨show Aa Tryz.prog _ from(Aa.cons qC qD Aa.nil),rfl,⟨show Ag Tryz.prog _ from Ag.nil,(Aw.none (fun _=>rfl))⟩⟩⟩
 ·cases hs)
theorem qH:Ao Tryz.prog 145:=fun args w=>by kernel_rfl
def Ui (l:(L.Sq L.Pt)) (p:BV):Prop:=l.n<=1000000/\∀i,i<l.n->p.pre [(.agg [.int .i64 ((l.g i).x),.int .i64 ((l.g i).y)])]
def Uj (l:(L.Sq L.Pt)) (p:BV):SV:=.int .i64 (Cw l.n (fun i=>Bt p [(.agg [.int .i64 ((l.g i).x),.int .i64 ((l.g i).y)])]))
def Uk:List EV->Option (Prop×SV)
 |[.p (.sl 2 l_n l_g),.fn p]=>some ((∀i,i<l_n->l_g i = [.int .i64 ((An (l_g i)).x),.int .i64 ((An (l_g i)).y)])/\FD p/\Ui (⟨l_n,fun i=>An (l_g i)⟩:(L.Sq L.Pt)) p,Uj (⟨l_n,fun i=>An (l_g i)⟩:(L.Sq L.Pt)) p)
 |_=>none
abbrev Ul:SE.Spec:=(AK Uk)
def qI:Ak:={ muts:=[],frz:=B2 [],specs:=AB [],loops:=fun _=>none,iters:=Bw [],rfs:=AT [],nils:=B3 [] }
theorem qJ (l:(L.Sq L.Pt)) (p:BV) (hp:Ui l p):vc Tryz.prog ({ qI with loops:=AV [(2,{ T:=Nat,keep:=[0,1,6,7],keepO:=[],chg:=fun i=>[(8,.p (.int .i64 i))],own:=fun _=>[],inv:=fun i=>i<=l.n/\(∀j,j<i->Bt p [(.agg [.int .i64 ((l.g j).x),.int .i64 ((l.g j).y)])]=false),mu:=fun i=>l.n-i })],rfs:=AT [] }) (Ah Tryz.f153) (Ap Tryz.f153 [.p (.sl 2 l.n (fun i=>[.int .i64 ((l.g i).x),.int .i64 ((l.g i).y)])),.fn ⟨p.pre,fun xs=>.bool (Bt p xs)⟩]) (AJ Tryz.prog Tryz.f153 (Uj l p)):=
 @Eq.mpr _ (let I:=SV.int .i64;let T:=Af1;let A4:=(↑l.n:Int);let A2:=(l.n=l.n/\∀(i:Nat),let A5:=[I (l.g i).x,I (l.g i).y];i<l.n->A5=A5);(∃(g:Nat),(0:Int)=(↑g:Int)/\g<=l.n/\∀(j:Nat),j<g->Bt p [SV.agg [I (l.g j).x,I (l.g j).y]]=false)/\∀(g:Nat),let A3:=(↑g:Int);let A1:=[SV.agg [I (l.g (T A3)).x,I (l.g (T A3)).y]];(g<=l.n/\∀(j:Nat),j<g->Bt p [SV.agg [I (l.g j).x,I (l.g j).y]]=false)->(decide (A3<A4)=true->((0:Int)<=A3/\A3<A4)/\p.1 A1/\(Bt p A1=true->A3=Cw l.n fun(i:Nat)=>Bt p [SV.agg [I (l.g i).x,I (l.g i).y]])/\(Bt p A1=false->Ad .i64 (A3+(1:Int))/\∃(g':Nat),A3+(1:Int)=(↑g':Int)/\A4=A4/\A2/\A2/\((BV.mk p.pre fun(xs:List SV)=>SV.bool (Bt p xs))=BV.mk p.pre fun(xs:List SV)=>SV.bool (Bt p xs))/\(g'<=l.n/\∀(j:Nat),j<g'->Bt p [SV.agg [I (l.g j).x,I (l.g j).y]]=false)/\l.n-g'<l.n-g))/\(decide (A3<A4)=false->(-1:Int)=Cw l.n fun(i:Nat)=>Bt p [SV.agg [I (l.g i).x,I (l.g i).y]])) (by kernel_rfl) (by
 conv=>zeta
 obtain⟨hn,hpre⟩:=hp;refine⟨⟨(0:Nat),rfl,Afg _,fun j hj=>by omega⟩,fun g hg=>⟨fun hlt=>?_,fun hge=>?_⟩⟩
 ·have hb:(g:Int)<(l.n:Int):=by simpa using hlt
  have e0:((g:Int)).toNat=g:=by omega
  rw[e0];refine⟨by omega,hpre g (by omega),fun h=>?_,fun h=>?_⟩
  ·exact(Kb hg.2 h (by omega)).symm
  ·exact⟨jK, g+1, by omega, rfl, ⟨rfl, fun _ _ =>rfl⟩, ⟨rfl, fun _ _ =>rfl⟩, rfl, ⟨by omega, fun j hj =>by
   rcases Aft.1 hj with h'|rfl
   ·exact hg.2 j h'
   ·exact h⟩,by omega⟩
 ·have hb:¬ (g:Int)<(l.n:Int):=by simpa using hge
  exact(Jf (fun j hj=>hg.2 j (by omega))).symm)
theorem qK:Av Tryz.prog 153 Ul:=AM Tryz.func153 (c:=Ah Tryz.f153) (by kernel_rfl) mixed (fun args p r hs hp=>by
 unfold Uk at hs;split at hs
 ·cases hs;exact⟨_,_,qJ _ _ hp.2.2,(.p (.sl hp.1) (.fn (fun xs h=>⟨h,(Ka hp.2.1 h).symm⟩) .nil)),⟨show Aa Tryz.prog _ from Aa.nil,rfl,⟨show Ag Tryz.prog _ from Ag.nil,(Aw.none (fun _=>rfl))⟩⟩⟩
 ·cases hs)
theorem qL:Ao Tryz.prog 153:=fun args w=>by kernel_rfl
def Um (l:(L.Sq L.Pt)) (p:BV):Prop:=l.n<=1000000/\∀i,i<l.n->p.pre [(.agg [.int .i64 ((l.g i).x),.int .i64 ((l.g i).y)])]
def Un (l:(L.Sq L.Pt)) (p:BV):SV:=.bool (Cl l.n (fun i=>Bt p [(.agg [.int .i64 ((l.g i).x),.int .i64 ((l.g i).y)])]))
def Uo:List EV->Option (Prop×SV)
 |[.p (.sl 2 l_n l_g),.fn p]=>some ((∀i,i<l_n->l_g i = [.int .i64 ((An (l_g i)).x),.int .i64 ((An (l_g i)).y)])/\FD p/\Um (⟨l_n,fun i=>An (l_g i)⟩:(L.Sq L.Pt)) p,Un (⟨l_n,fun i=>An (l_g i)⟩:(L.Sq L.Pt)) p)
 |_=>none
abbrev Up:SE.Spec:=(AK Uo)
def qM:Ak:={ cC with specs:=AB [(153,Ul)] }
theorem qN (l:(L.Sq L.Pt)) (p:BV) (hp:Um l p):vc Tryz.prog (qM) (Ah Tryz.f131) (Ap Tryz.f131 [.p (.sl 2 l.n (fun i=>[.int .i64 ((l.g i).x),.int .i64 ((l.g i).y)])),.fn ⟨p.pre,fun xs=>.bool (Bt p xs)⟩]) (AJ Tryz.prog Tryz.f131 (Un l p)):=
 @Eq.mpr _ (let I:=SV.int .i64;let A1:=(BV.mk p.pre fun(xs:List SV)=>SV.bool (Bt p xs));((∀(i:Nat),let A2:=[I (l.g i).x,I (l.g i).y];i<l.n->A2=A2)/\FD A1/\l.n<=(1000000:Nat)/\∀(i:Nat),i<l.n->p.1 [SV.agg [I (l.g i).x,I (l.g i).y]])/\decide ((0:Int)<=Cw l.n fun(i:Nat)=>Bt A1 [SV.agg [I (l.g i).x,I (l.g i).y]])=Cl l.n fun(i:Nat)=>Bt p [SV.agg [I (l.g i).x,I (l.g i).y]]) (by kernel_rfl) (by
 conv=>zeta
 refine⟨⟨fun _ _=>rfl,fun xs _=>⟨_,rfl⟩,hp⟩,L0⟩)
theorem qO:Av Tryz.prog 131 Up:=AM Tryz.func131 (c:=Ah Tryz.f131) (by kernel_rfl) mixed (fun args p r hs hp=>by
 unfold Uo at hs;split at hs
 ·cases hs;exact⟨_,_,qN _ _ hp.2.2,(.p (.sl hp.1) (.fn (fun xs h=>⟨h,(Ka hp.2.1 h).symm⟩) .nil)),⟨show Aa Tryz.prog _ from(Aa.cons qK qL Aa.nil),rfl,⟨show Ag Tryz.prog _ from Ag.nil,(Aw.none (fun _=>rfl))⟩⟩⟩
 ·cases hs)
theorem qP:Ao Tryz.prog 131:=fun args w=>by kernel_rfl
end
section
set_option maxRecDepth 100000
set_option maxHeartbeats 4000000
set_option linter.unusedVariables false
attribute [local irreducible] vc
def B4 (a b c:L.Pt):Int:=(b.x-a.x)*(c.y-a.y)-(b.y-a.y)*(c.x-a.x)
def AF (p:L.Pt):Prop:=-4000000<=p.x/\p.x<=4000000 /\ -4000000<=p.y/\p.y<=4000000
def C2 (p:L.Pt):Bool:=Ay p.x 0 4096&&Ay p.y 0 4096
theorem qQ {p:L.Pt} (h:C2 p=true):AF p:=by
 simp only[C2,Ay,nT,decide_eq_true_eq]at h;unfold AF;omega
def C9 (a b:L.Pt):Int:=HG (Br a.x b.x) (Br a.y b.y)
def CL (a b p:L.Pt):Bool:=decide (B4 a b p=0)&&Ay p.x (min a.x b.x) (max a.x b.x)&&Ay p.y (min a.y b.y) (max a.y b.y)
def GN (a b c d:L.Pt):Bool:=decide (Br (B4 a b c) 0*Br (B4 a b d) 0<0)
theorem Uq {f:Nat->Bool}:∀{n:Nat},(!Cl n f)=CD n (fun i=>!f i)
 |0=>rfl
 |n+1=>by simp[Cl,CD,<- Uq (n:=n)]
theorem Kd (a b:Int): -1<=Br a b/\Br a b<=1:=by
 unfold Br
 by_cases h:a<b<;>by_cases k:b<a<;>simp[h,k]
def Ur (a:L.Pt) (b:L.Pt) (c:L.Pt):Prop:=AF a/\AF b/\AF c
def Us (a:L.Pt) (b:L.Pt) (c:L.Pt):SV:=.int .i64 (B4 a b c)
def Ut:List EV->Option (Prop×SV)
 |[.p (.agg [.int .i64 a_x,.int .i64 a_y]),.p (.agg [.int .i64 b_x,.int .i64 b_y]),.p (.agg [.int .i64 c_x,.int .i64 c_y])]=>some (Ur (⟨a_x,a_y⟩:L.Pt) (⟨b_x,b_y⟩:L.Pt) (⟨c_x,c_y⟩:L.Pt),Us (⟨a_x,a_y⟩:L.Pt) (⟨b_x,b_y⟩:L.Pt) (⟨c_x,c_y⟩:L.Pt))
 |_=>none
abbrev Ke:SE.Spec:=(AK Ut)
def qR:Ak:={ muts:=[],frz:=B2 [],specs:=AB [],loops:=AV [],iters:=Bw [],rfs:=AT [],nils:=B3 [] }
theorem qS (a:L.Pt) (b:L.Pt) (c:L.Pt) (hp:Ur a b c):vc Tryz.prog (qR) (Ah Tryz.f103) (Ap Tryz.f103 [.p (.agg [.int .i64 a.x,.int .i64 a.y]),.p (.agg [.int .i64 b.x,.int .i64 b.y]),.p (.agg [.int .i64 c.x,.int .i64 c.y])]) (AJ Tryz.prog Tryz.f103 (Us a b c)):=
 @Eq.mpr _ (let A4:=(c.x-a.x);let A3:=(b.y-a.y);let A2:=(c.y-a.y);let A1:=(b.x-a.x);Ad .i64 A1/\Ad .i64 A2/\Ad .i64 (A1*A2)/\Ad .i64 A3/\Ad .i64 A4/\Ad .i64 (A3*A4)/\Ad .i64 (A1*A2-A3*A4)/\A1*A2-A3*A4=B4 a b c) (by kernel_rfl) (by
 conv=>zeta
 obtain⟨h1,h2,h3⟩:=hp;unfold AF at h1 h2 h3;have m1:=Ez (a:=b.x-a.x) (b:=c.y-a.y) (m:=8000000) (n:=8000000) (by omega) (by omega) (by omega) (by omega);have m2:=Ez (a:=b.y-a.y) (b:=c.x-a.x) (m:=8000000) (n:=8000000) (by omega) (by omega) (by omega) (by omega);exact⟨jK,jK,jK,jK,jK,jK,jK,rfl⟩)
theorem L3:Av Tryz.prog 103 Ke:=AM Tryz.func103 (c:=Ah Tryz.f103) (by kernel_rfl) mixed (fun args p r hs hp=>by
 unfold Ut at hs;split at hs
 ·cases hs;exact⟨_,_,qS _ _ _ hp,(.same _ (.same _ (.same _ .nil))),⟨show Aa Tryz.prog _ from Aa.nil,rfl,⟨show Ag Tryz.prog _ from Ag.nil,(Aw.none (fun _=>rfl))⟩⟩⟩
 ·cases hs)
theorem L4:Ao Tryz.prog 103:=fun args w=>by kernel_rfl
def Uu (p:L.Pt):Prop:=True
def Uv (p:L.Pt):SV:=.bool (C2 p)
def Uw:List EV->Option (Prop×SV)
 |[.p (.agg [.int .i64 p_x,.int .i64 p_y])]=>some (Uu (⟨p_x,p_y⟩:L.Pt),Uv (⟨p_x,p_y⟩:L.Pt))
 |_=>none
abbrev Ux:SE.Spec:=(AK Uw)
def qT:Ak:={ cC with specs:=AB [(100,Nf)] }
theorem qU (p:L.Pt) (hp:Uu p):vc Tryz.prog (qT) (Ah Tryz.f69) (Ap Tryz.f69 [.p (.agg [.int .i64 p.x,.int .i64 p.y])]) (AJ Tryz.prog Tryz.f69 (Uv p)):=
 @Eq.mpr _ (True/\(Ay p.x (0:Int) (4096:Int)=true->True)/\(bif Ay p.x (0:Int) (4096:Int)then Ay p.y (0:Int) (4096:Int)else false)=C2 p) (by kernel_rfl) (by
 refine⟨trivial,fun _=>trivial,?_⟩;unfold C2;cases Ay p.x 0 4096<;>rfl)
theorem qV:Av Tryz.prog 69 Ux:=AM Tryz.func69 (c:=Ah Tryz.f69) (by kernel_rfl) mixed (fun args p r hs hp=>by
 unfold Uw at hs;split at hs
 ·cases hs;exact⟨_,_,qU _ hp,(.same _ .nil),⟨show Aa Tryz.prog _ from(Aa.cons Pu Pv Aa.nil),rfl,⟨show Ag Tryz.prog _ from Ag.nil,(Aw.none (fun _=>rfl))⟩⟩⟩
 ·cases hs)
theorem qW:Ao Tryz.prog 69:=fun args w=>by kernel_rfl
def Uy (p:L.Pt):Prop:=True
def Uz (p:L.Pt):SV:=.bool (!C2 p)
def Kf:List EV->Option (Prop×SV)
 |[.p (.agg [.int .i64 p_x,.int .i64 p_y])]=>some (Uy (⟨p_x,p_y⟩:L.Pt),Uz (⟨p_x,p_y⟩:L.Pt))
 |_=>none
abbrev U0:SE.Spec:=(AK Kf)
def qX:Ak:={ cC with specs:=AB [(69,Ux)] }
theorem qY (p:L.Pt) (hp:Uy p):vc Tryz.prog (qX) (Ah Tryz.f132) (Ap Tryz.f132 [.p (.agg [.int .i64 p.x,.int .i64 p.y])]) (AJ Tryz.prog Tryz.f132 (Uz p)):=
 @Eq.mpr _ (True/\(!C2 p)= !C2 p) (by kernel_rfl) (by
 exact⟨trivial,rfl⟩)
theorem qZ:Av Tryz.prog 132 U0:=AM Tryz.func132 (c:=Ah Tryz.f132) (by kernel_rfl) mixed (fun args p r hs hp=>by
 unfold Kf at hs;split at hs
 ·cases hs;exact⟨_,_,qY _ hp,(.same _ .nil),⟨show Aa Tryz.prog _ from(Aa.cons qV qW Aa.nil),rfl,⟨show Ag Tryz.prog _ from Ag.nil,(Aw.none (fun _=>rfl))⟩⟩⟩
 ·cases hs)
theorem rA:Ao Tryz.prog 132:=fun args w=>by kernel_rfl
theorem rB:∀args p r,Kf args=some (p,r)->∃b,r=.bool b:=by
 intro args p r h;unfold Kf at h;split at h
 ·cases h;exact⟨_,rfl⟩
 ·cases h
def U1 (l:(L.Sq L.Pt)):Prop:=l.n<=1000000
def U2 (l:(L.Sq L.Pt)):SV:=.bool (CD l.n (fun i=>C2 (l.g i)))
def U3:List EV->Option (Prop×SV)
 |[.p (.sl 2 l_n l_g)]=>some ((∀i,i<l_n->l_g i = [.int .i64 ((An (l_g i)).x),.int .i64 ((An (l_g i)).y)])/\U1 (⟨l_n,fun i=>An (l_g i)⟩:(L.Sq L.Pt)),U2 (⟨l_n,fun i=>An (l_g i)⟩:(L.Sq L.Pt)))
 |_=>none
abbrev U4:SE.Spec:=(AK U3)
def rC:Ak:={ cC with specs:=AB [(131,Up),(132,U0)] }
theorem rD (l:(L.Sq L.Pt)) (hp:U1 l):vc Tryz.prog (rC) (Ah Tryz.f101) (Ap Tryz.f101 [.p (.sl 2 l.n (fun i=>[.int .i64 ((l.g i).x),.int .i64 ((l.g i).y)]))]) (AJ Tryz.prog Tryz.f101 (U2 l)):=
 @Eq.mpr _ (let I:=SV.int .i64;let A1:=(BV.mk (fun(«as»:List SV)=>Fw Kf (Ago EV.p «as» ++ Ago EV.p [])) fun(«as»:List SV)=>GI Kf (Ago EV.p «as» ++ Ago EV.p []));((∀(i:Nat),let A2:=[I (l.g i).x,I (l.g i).y];i<l.n->A2=A2)/\FD A1/\l.n<=(1000000:Nat)/\∀(i:Nat),i<l.n->True)/\(!Cl l.n fun(i:Nat)=>Bt A1 [SV.agg [I (l.g i).x,I (l.g i).y]])=CD l.n fun(i:Nat)=>C2 (l.g i)) (by kernel_rfl) (by
 conv=>zeta
 refine⟨⟨fun _ _=>rfl,Pl rB _,hp,fun _ _=>trivial⟩,?_⟩;rw[Uq];exact congrArg (CD l.n) (funext fun i=>Bool.not_not (C2 (l.g i))))
theorem rF:Av Tryz.prog 101 U4:=AM Tryz.func101 (c:=Ah Tryz.f101) (by kernel_rfl) mixed (fun args p r hs hp=>by
 unfold U3 at hs;split at hs
 ·cases hs;exact⟨_,_,rD _ hp.2,(.p (.sl hp.1) .nil),⟨show Aa Tryz.prog _ from(Aa.cons qO qP (Aa.cons qZ rA Aa.nil)),rfl,⟨show Ag Tryz.prog _ from Ag.nil,(Aw.none (fun _=>rfl))⟩⟩⟩
 ·cases hs)
theorem rG:Ao Tryz.prog 101:=fun args w=>by kernel_rfl
def U5 (a:L.Pt) (b:L.Pt):Prop:=True
def U6 (a:L.Pt) (b:L.Pt):SV:=.int .i64 (C9 a b)
def P3:List EV->Option (Prop×SV)
 |[.p (.agg [.int .i64 a_x,.int .i64 a_y]),.p (.agg [.int .i64 b_x,.int .i64 b_y])]=>some (U5 (⟨a_x,a_y⟩:L.Pt) (⟨b_x,b_y⟩:L.Pt),U6 (⟨a_x,a_y⟩:L.Pt) (⟨b_x,b_y⟩:L.Pt))
 |_=>none
abbrev P4:SE.Spec:=(AK P3)
def rH:Ak:={ cC with specs:=AB [(111,Kc),(122,P2)] }
theorem rI (a:L.Pt) (b:L.Pt) (hp:U5 a b):vc Tryz.prog (rH) (Ah Tryz.f104) (Ap Tryz.f104 [.p (.agg [.int .i64 a.x,.int .i64 a.y]),.p (.agg [.int .i64 b.x,.int .i64 b.y])]) (AJ Tryz.prog Tryz.f104 (U6 a b)):=
 @Eq.mpr _ (let I:=SV.int .i64;let A1:=[I (Br a.x b.x),I (Br a.y b.y)];True/\True/\((∀(i:Nat),i<nat_lit 2->BX A1 (nat_lit 1) i = [I (DK (BX A1 (nat_lit 1) i))])/\nat_lit 2<=(1000000:Nat))/\GM (fun(i:Nat)=>DK (BX A1 (nat_lit 1) i)) (2:Nat)=C9 a b) (by kernel_rfl) (by
 conv=>zeta
 exact⟨trivial,trivial,⟨fun i hi=>by match i,hi with|0,_=>rfl|1,_=>rfl,by decide⟩,rfl⟩)
theorem P5:Av Tryz.prog 104 P4:=AM Tryz.func104 (c:=Ah Tryz.f104) (by kernel_rfl) mixed (fun args p r hs hp=>by
 unfold P3 at hs;split at hs
 ·cases hs;exact⟨_,_,rI _ _ hp,(.same _ (.same _ .nil)),⟨show Aa Tryz.prog _ from(Aa.cons L1 L2 (Aa.cons TY TZ Aa.nil)),rfl,⟨show Ag Tryz.prog _ from Ag.nil,(Aw.none (fun _=>rfl))⟩⟩⟩
 ·cases hs)
theorem P6:Ao Tryz.prog 104:=fun args w=>by kernel_rfl
def U7 (a:L.Pt) (b:L.Pt) (p:L.Pt):Prop:=AF a/\AF b/\AF p
def U8 (a:L.Pt) (b:L.Pt) (p:L.Pt):SV:=.bool (CL a b p)
def U9:List EV->Option (Prop×SV)
 |[.p (.agg [.int .i64 a_x,.int .i64 a_y]),.p (.agg [.int .i64 b_x,.int .i64 b_y]),.p (.agg [.int .i64 p_x,.int .i64 p_y])]=>some (U7 (⟨a_x,a_y⟩:L.Pt) (⟨b_x,b_y⟩:L.Pt) (⟨p_x,p_y⟩:L.Pt),U8 (⟨a_x,a_y⟩:L.Pt) (⟨b_x,b_y⟩:L.Pt) (⟨p_x,p_y⟩:L.Pt))
 |_=>none
abbrev UA:SE.Spec:=(AK U9)
def rJ:Ak:={ cC with specs:=AB [(103,Ke),(100,Nf)] }
theorem rK (a:L.Pt) (b:L.Pt) (p:L.Pt) (hp:U7 a b p):vc Tryz.prog (rJ) (Ah Tryz.f154) (Ap Tryz.f154 [.p (.agg [.int .i64 a.x,.int .i64 a.y]),.p (.agg [.int .i64 b.x,.int .i64 b.y]),.p (.agg [.int .i64 p.x,.int .i64 p.y])]) (AJ Tryz.prog Tryz.f154 (U8 a b p)):=
 @Eq.mpr _ ((AF a/\AF b/\AF p)/\(decide (B4 a b p=(0:Int))=true->True)/\((bif decide (B4 a b p=(0:Int))then Ay p.x (Min.min a.x b.x) (Max.max a.x b.x)else false)=true->True)/\(bif bif decide (B4 a b p=(0:Int))then Ay p.x (Min.min a.x b.x) (Max.max a.x b.x)else false then Ay p.y (Min.min a.y b.y) (Max.max a.y b.y)else false)=CL a b p) (by kernel_rfl) (by
 refine⟨hp,fun _=>trivial,fun _=>trivial,?_⟩;unfold CL;cases decide (B4 a b p=0)<;>cases Ay p.x (min a.x b.x) (max a.x b.x)<;>rfl)
theorem rL:Av Tryz.prog 154 UA:=AM Tryz.func154 (c:=Ah Tryz.f154) (by kernel_rfl) mixed (fun args p r hs hp=>by
 unfold U9 at hs;split at hs
 ·cases hs;exact⟨_,_,rK _ _ _ hp,(.same _ (.same _ (.same _ .nil))),⟨show Aa Tryz.prog _ from(Aa.cons L3 L4 (Aa.cons Pu Pv Aa.nil)),rfl,⟨show Ag Tryz.prog _ from Ag.nil,(Aw.none (fun _=>rfl))⟩⟩⟩
 ·cases hs)
theorem rM:Ao Tryz.prog 154:=fun args w=>by kernel_rfl
def UB (a:L.Pt) (b:L.Pt) (c:L.Pt) (d:L.Pt):Prop:=AF a/\AF b/\AF c/\AF d
def UC (a:L.Pt) (b:L.Pt) (c:L.Pt) (d:L.Pt):SV:=.bool (GN a b c d)
def UD:List EV->Option (Prop×SV)
 |[.p (.agg [.int .i64 a_x,.int .i64 a_y]),.p (.agg [.int .i64 b_x,.int .i64 b_y]),.p (.agg [.int .i64 c_x,.int .i64 c_y]),.p (.agg [.int .i64 d_x,.int .i64 d_y])]=>some (UB (⟨a_x,a_y⟩:L.Pt) (⟨b_x,b_y⟩:L.Pt) (⟨c_x,c_y⟩:L.Pt) (⟨d_x,d_y⟩:L.Pt),UC (⟨a_x,a_y⟩:L.Pt) (⟨b_x,b_y⟩:L.Pt) (⟨c_x,c_y⟩:L.Pt) (⟨d_x,d_y⟩:L.Pt))
 |_=>none
abbrev UE:SE.Spec:=(AK UD)
def rO:Ak:={ cC with specs:=AB [(103,Ke),(111,Kc)] }
theorem rP (a:L.Pt) (b:L.Pt) (c:L.Pt) (d:L.Pt) (hp:UB a b c d):vc Tryz.prog (rO) (Ah Tryz.f155) (Ap Tryz.f155 [.p (.agg [.int .i64 a.x,.int .i64 a.y]),.p (.agg [.int .i64 b.x,.int .i64 b.y]),.p (.agg [.int .i64 c.x,.int .i64 c.y]),.p (.agg [.int .i64 d.x,.int .i64 d.y])]) (AJ Tryz.prog Tryz.f155 (UC a b c d)):=
 @Eq.mpr _ ((AF a/\AF b/\AF c)/\True/\(AF a/\AF b/\AF d)/\True/\Ad .i64 (Br (B4 a b c) (0:Int)*Br (B4 a b d) (0:Int))/\decide (Br (B4 a b c) (0:Int)*Br (B4 a b d) (0:Int)<(0:Int))=GN a b c d) (by kernel_rfl) (by
 obtain⟨h1,h2,h3,h4⟩:=hp;have c1:=Kd (B4 a b c) 0;have c2:=Kd (B4 a b d) 0;have m:=Ez (m:=1) (n:=1) (by omega) c1.2 (by omega) c2.2;exact⟨⟨h1,h2,h3⟩,trivial,⟨h1,h2,h4⟩,trivial,jK,rfl⟩)
theorem rQ:Av Tryz.prog 155 UE:=AM Tryz.func155 (c:=Ah Tryz.f155) (by kernel_rfl) mixed (fun args p r hs hp=>by
 unfold UD at hs;split at hs
 ·cases hs;exact⟨_,_,rP _ _ _ _ hp,(.same _ (.same _ (.same _ (.same _ .nil)))),⟨show Aa Tryz.prog _ from(Aa.cons L3 L4 (Aa.cons L1 L2 Aa.nil)),rfl,⟨show Ag Tryz.prog _ from Ag.nil,(Aw.none (fun _=>rfl))⟩⟩⟩
 ·cases hs)
theorem rR:Ao Tryz.prog 155:=fun args w=>by kernel_rfl
end
section
set_option maxRecDepth 100000
set_option maxHeartbeats 4000000
set_option linter.unusedVariables false
attribute [local irreducible] vc
def C3 (p q:L.Pt):Bool:=decide (p.x=q.x)&&decide (p.y=q.y)
def Kg (ks:L.Sq L.Pt) (p:L.Pt):Bool:=Cl ks.n (fun i=>C3 p (ks.g i))
def Ga (ks:L.Sq L.Pt) (p:L.Pt):L.Sq L.Pt:=bif Kg ks p then ks else⟨ks.n+1,fun i=>if i<ks.n then ks.g i else p⟩
def HH (c:Bool) (ks:L.Sq L.Pt) (p:L.Pt):L.Sq L.Pt:=bif c then Ga ks p else ks
def P7:L.Sq L.Pt:=⟨0,fun _=>⟨0,0⟩⟩
def DU (a b:L.Pt) (i:Nat):L.Pt:=bif decide (i=0)then a else b
def DV (a b c d:L.Pt):Nat->L.Sq L.Pt
 |0=>P7
 |n+1=>HH (CL c d (DU a b n)) (DV a b c d n) (DU a b n)
def DC (a b c d:L.Pt):Nat->L.Sq L.Pt
 |0=>DV a b c d 2
 |n+1=>HH (CL a b (DU c d n)) (DC a b c d n) (DU c d n)
def CU (a b c d:L.Pt):Int:=bif decide (1<((DC a b c d 2).n:Int))then 3 else bif decide (((DC a b c d 2).n:Int)=1)then 1 else bif (bif GN a b c d then GN c d a b else false)then 2 else 0
def DW (ks:L.Sq L.Pt):Nat->List SV:=fun i=>[.int .i64 (ks.g i).x,.int .i64 (ks.g i).y]
theorem UF {a b:L.Pt} (ha:AF a) (hb:AF b) (i:Nat):AF (DU a b i):=by
 unfold DU;cases decide (i=0)<;>assumption
theorem Ig {ks:L.Sq L.Pt} {p:L.Pt} (h:∃i,i<ks.n/\(decide (p.x=(ks.g i).x)&&decide (p.y=(ks.g i).y))=true):Ga ks p=ks:=by
 have:Kg ks p=true:=Fc.2 h;simp[Ga,this]
theorem JN {ks:L.Sq L.Pt} {p:L.Pt} (h:∀i,i<ks.n->(decide (p.x=(ks.g i).x)&&decide (p.y=(ks.g i).y))=false) :
  ks.n+1=(Ga ks p).n/\∀i,i<ks.n+1->AU ks.n (DW ks) (fun _=>[.int .i64 p.x,.int .i64 p.y]) i=DW (Ga ks p) i:=by
 have hn:Kg ks p=false:=by
  cases hb:Kg ks p with
  |false=>rfl
  |true =>
    obtain⟨i,hi,hq⟩:=Fc.1 hb;rw[show C3 p (ks.g i)=false from h i hi]at hq;cases hq
 simp only[Ga,hn,cond_false,true_and];intro i hi;unfold AU DW
 by_cases hlt:i<ks.n<;>simp[hlt]
theorem Kh {ks:L.Sq L.Pt} {p:L.Pt}:(HH false ks p=ks)/\HH true ks p=Ga ks p:=⟨rfl,rfl⟩
def UG (a:L.Pt) (b:L.Pt) (c:L.Pt) (d:L.Pt):Prop:=AF a/\AF b/\AF c/\AF d
def UH (a:L.Pt) (b:L.Pt) (c:L.Pt) (d:L.Pt):SV:=.int .i64 (CU a b c d)
def UI:List EV->Option (Prop×SV)
 |[.p (.agg [.int .i64 a_x,.int .i64 a_y]),.p (.agg [.int .i64 b_x,.int .i64 b_y]),.p (.agg [.int .i64 c_x,.int .i64 c_y]),.p (.agg [.int .i64 d_x,.int .i64 d_y])]=>some (UG (⟨a_x,a_y⟩:L.Pt) (⟨b_x,b_y⟩:L.Pt) (⟨c_x,c_y⟩:L.Pt) (⟨d_x,d_y⟩:L.Pt),UH (⟨a_x,a_y⟩:L.Pt) (⟨b_x,b_y⟩:L.Pt) (⟨c_x,c_y⟩:L.Pt) (⟨d_x,d_y⟩:L.Pt))
 |_=>none
abbrev UJ:SE.Spec:=(AK UI)
def rS:Ak:={ cC with specs:=AB [(154,UA),(155,UE)] }
theorem rT (a:L.Pt) (b:L.Pt) (c:L.Pt) (d:L.Pt) (hp:UG a b c d):vc Tryz.prog ({ rS with loops:=AV [(3,{ T:=Nat,keep:=[4,5,6,7,8,9,20],keepO:=[],chg:=fun i=>[(21,.p (.int .i64 (i:Int))),(19,.p (.sl 2 2 (fun i=>[.int .i64 ((DU a b i).x),.int .i64 ((DU a b i).y)])))],own:=fun i=>[(16,.mp 66 (DV a b c d i).n (DW (DV a b c d i)))],inv:=fun i=>i<=2,mu:=fun i=>2-i }),(9,{ T:=Nat,keep:=[4,5,6,7,8,9,35],keepO:=[],chg:=fun i=>[(36,.p (.int .i64 (i:Int))),(34,.p (.sl 2 2 (fun i=>[.int .i64 ((DU c d i).x),.int .i64 ((DU c d i).y)])))],own:=fun i=>[(16,.mp 66 (DC a b c d i).n (DW (DC a b c d i)))],inv:=fun i=>i<=2,mu:=fun i=>2-i })],rfs:=AT [] }) (Ah Tryz.f134) (Ap Tryz.f134 [.p (.agg [.int .i64 a.x,.int .i64 a.y]),.p (.agg [.int .i64 b.x,.int .i64 b.y]),.p (.agg [.int .i64 c.x,.int .i64 c.y]),.p (.agg [.int .i64 d.x,.int .i64 d.y])]) (AJ Tryz.prog Tryz.f134 (UH a b c d)):=
 @Eq.mpr _ (let I:=SV.int .i64;let T:=Af1;let A24:=(1:Nat);let A20:=(bif GN a b c d then GN c d a b else false);let A15:=(1:Int);let A14:=(0:Int);let A13:=[I a.x,I a.y];let A12:=[I b.x,I b.y];let A11:=[I c.x,I c.y];let A10:=[I d.x,I d.y];let A9:=(2:Nat);let A8:=(nat_lit 2=A9/\∀(i:Nat),let A21:=[I (DU c d i).x,I (DU c d i).y];i<nat_lit 2->A21=A21);let A7:=(nat_lit 2=A9/\∀(i:Nat),let A22:=[I (DU a b i).x,I (DU a b i).y];i<nat_lit 2->A22=A22);let A5:=(↑(nat_lit 2):Int);let A1:=(nat_lit 0);(∃(g:Nat),A14=(↑g:Int)/\(nat_lit 2=A9/\∀(i:Nat),i<nat_lit 2->BX [I a.x,I a.y,I b.x,I b.y] (nat_lit 2) i = [I (DU a b i).x,I (DU a b i).y])/\(nat_lit 0=(DV a b c d g).n/\∀(i:Nat),i<nat_lit 0 -> []=DW (DV a b c d g) i)/\g<=A9)/\∀(g:Nat),let A19:=(↑g:Int);let A6:=(DU a b (T A19));let A4:=(DV a b c d g);g<=A9->(decide (A19<A5)=true->(A14<=A19/\A19<A5)/\(AF c/\AF d/\AF A6)/\(CL c d A6=true->(∀(i:Nat),let A17:=(decide (A6.x=(A4.g i).x)&&decide (A6.y=(A4.g i).y));i<A4.n->A17=A17)/\((∃(i:Nat),i<A4.n/\(decide (A6.x=(A4.g i).x)&&decide (A6.y=(A4.g i).y))=true)->Ad .i64 (A19+A15)/\∃(g':Nat),A19+A15=(↑g':Int)/\A7/\A5=A5/\A14=A14/\SV.ref A10 A1=SV.ref A10 A1/\SV.ref A11 A1=SV.ref A11 A1/\SV.ref A12 A1=SV.ref A12 A1/\SV.ref A13 A1=SV.ref A13 A1/\(A4.n=(DV a b c d g').n/\∀(i:Nat),i<A4.n->DW A4 i=DW (DV a b c d g') i)/\g'<=A9/\A9-g'<A9-g)/\((∀(i:Nat),i<A4.n->(decide (A6.x=(A4.g i).x)&&decide (A6.y=(A4.g i).y))=false)->Ad .i64 (A19+A15)/\∃(g':Nat),A19+A15=(↑g':Int)/\A7/\A5=A5/\A14=A14/\SV.ref A10 A1=SV.ref A10 A1/\SV.ref A11 A1=SV.ref A11 A1/\SV.ref A12 A1=SV.ref A12 A1/\SV.ref A13 A1=SV.ref A13 A1/\(A4.n+A24=(DV a b c d g').n/\∀(i:Nat),i<A4.n+A24->AU A4.n (DW A4) (fun(x:Nat)=>[I A6.x,I A6.y]) i=DW (DV a b c d g') i)/\g'<=A9/\A9-g'<A9-g))/\(CL c d A6=false->Ad .i64 (A19+A15)/\∃(g':Nat),A19+A15=(↑g':Int)/\A7/\A5=A5/\A14=A14/\SV.ref A10 A1=SV.ref A10 A1/\SV.ref A11 A1=SV.ref A11 A1/\SV.ref A12 A1=SV.ref A12 A1/\SV.ref A13 A1=SV.ref A13 A1/\(A4.n=(DV a b c d g').n/\∀(i:Nat),i<A4.n->DW A4 i=DW (DV a b c d g') i)/\g'<=A9/\A9-g'<A9-g))/\(decide (A19<A5)=false->(∃(g_1:Nat),A14=(↑g_1:Int)/\(nat_lit 2=A9/\∀(i:Nat),i<nat_lit 2->BX [I c.x,I c.y,I d.x,I d.y] (nat_lit 2) i = [I (DU c d i).x,I (DU c d i).y])/\(A4.n=(DC a b c d g_1).n/\∀(i:Nat),i<A4.n->DW A4 i=DW (DC a b c d g_1) i)/\g_1<=A9)/\∀(g_1:Nat),let A16:=(↑g_1:Int);let A3:=(DU c d (T A16));let A2:=(DC a b c d g_1);let A23:=(↑A2.n:Int);g_1<=A9->(decide (A16<A5)=true->(A14<=A16/\A16<A5)/\(AF a/\AF b/\AF A3)/\(CL a b A3=true->(∀(i:Nat),let A18:=(decide (A3.x=(A2.g i).x)&&decide (A3.y=(A2.g i).y));i<A2.n->A18=A18)/\((∃(i:Nat),i<A2.n/\(decide (A3.x=(A2.g i).x)&&decide (A3.y=(A2.g i).y))=true)->Ad .i64 (A16+A15)/\∃(g':Nat),A16+A15=(↑g':Int)/\A8/\A5=A5/\A14=A14/\SV.ref A10 A1=SV.ref A10 A1/\SV.ref A11 A1=SV.ref A11 A1/\SV.ref A12 A1=SV.ref A12 A1/\SV.ref A13 A1=SV.ref A13 A1/\(A2.n=(DC a b c d g').n/\∀(i:Nat),i<A2.n->DW A2 i=DW (DC a b c d g') i)/\g'<=A9/\A9-g'<A9-g_1)/\((∀(i:Nat),i<A2.n->(decide (A3.x=(A2.g i).x)&&decide (A3.y=(A2.g i).y))=false)->Ad .i64 (A16+A15)/\∃(g':Nat),A16+A15=(↑g':Int)/\A8/\A5=A5/\A14=A14/\SV.ref A10 A1=SV.ref A10 A1/\SV.ref A11 A1=SV.ref A11 A1/\SV.ref A12 A1=SV.ref A12 A1/\SV.ref A13 A1=SV.ref A13 A1/\(A2.n+A24=(DC a b c d g').n/\∀(i:Nat),i<A2.n+A24->AU A2.n (DW A2) (fun(x:Nat)=>[I A3.x,I A3.y]) i=DW (DC a b c d g') i)/\g'<=A9/\A9-g'<A9-g_1))/\(CL a b A3=false->Ad .i64 (A16+A15)/\∃(g':Nat),A16+A15=(↑g':Int)/\A8/\A5=A5/\A14=A14/\SV.ref A10 A1=SV.ref A10 A1/\SV.ref A11 A1=SV.ref A11 A1/\SV.ref A12 A1=SV.ref A12 A1/\SV.ref A13 A1=SV.ref A13 A1/\(A2.n=(DC a b c d g').n/\∀(i:Nat),i<A2.n->DW A2 i=DW (DC a b c d g') i)/\g'<=A9/\A9-g'<A9-g_1))/\(decide (A16<A5)=false->(decide (A15<A23)=true->(3:Int)=CU a b c d)/\(decide (A15<A23)=false->(decide (A23=A15)=true->A15=CU a b c d)/\(decide (A23=A15)=false->(AF a/\AF b/\AF c/\AF d)/\(GN a b c d=true->AF c/\AF d/\AF a/\AF b)/\(A20=true->(2:Int)=CU a b c d)/\(A20=false->A14=CU a b c d)))))) (by kernel_rfl) (by
 conv=>zeta
 obtain⟨ha,hb,hc,hd⟩:=hp;refine⟨⟨(0:Nat),rfl,⟨rfl,fun i hi=>by match i,hi with|0,_=>rfl|1,_=>rfl⟩,⟨rfl,fun i hi=>absurd hi (Rc _)⟩,by decide⟩,fun g hg=>⟨fun hlt=>?_,fun hge=>?_⟩⟩
 ·have hb1:(g:Int)<2:=by simpa using hlt
  have e0:((g:Int)).toNat=g:=by omega
  rw[e0];refine⟨⟨by omega,hb1⟩,⟨hc,hd,UF ha hb g⟩,fun hon=>⟨fun _ _=>rfl,fun hex=>⟨jK,g+1,by omega,⟨rfl,fun _ _=>rfl⟩,rfl,rfl,rfl,rfl,rfl,rfl,?_,by omega,by omega⟩,fun hnx=>⟨jK,g+1,by omega,⟨rfl,fun _ _=>rfl⟩,rfl,rfl,rfl,rfl,rfl,rfl,?_,by omega,by omega⟩⟩,fun hon=>⟨jK,g+1,by omega,⟨rfl,fun _ _=>rfl⟩,rfl,rfl,rfl,rfl,rfl,rfl,?_,by omega,by omega⟩⟩
  ·rw[show DV a b c d (g+1)=DV a b c d g by rw[DV,hon,Kh.2,Ig hex]];exact⟨rfl,fun _ _=>rfl⟩
  ·rw[DV,hon,Kh.2];exact JN hnx
  ·rw[show DV a b c d (g+1)=DV a b c d g by rw[DV,hon,Kh.1]];exact⟨rfl,fun _ _=>rfl⟩
 ·have hb1:¬ (g:Int)<2:=by simpa using hge
  obtain rfl:g=2:=by omega
  refine⟨⟨(0:Nat),rfl,⟨rfl,fun i hi=>by match i,hi with|0,_=>rfl|1,_=>rfl⟩,⟨rfl,fun i hi=>rfl⟩,by decide⟩,fun g hg=>⟨fun hlt=>?_,fun hge=>?_⟩⟩
  ·have hb1:(g:Int)<2:=by simpa using hlt
   have e0:((g:Int)).toNat=g:=by omega
   rw[e0];refine⟨⟨by omega,hb1⟩,⟨ha,hb,UF hc hd g⟩,fun hon=>⟨fun _ _=>rfl,fun hex=>⟨jK,g+1,by omega,⟨rfl,fun _ _=>rfl⟩,rfl,rfl,rfl,rfl,rfl,rfl,?_,by omega,by omega⟩,fun hnx=>⟨jK,g+1,by omega,⟨rfl,fun _ _=>rfl⟩,rfl,rfl,rfl,rfl,rfl,rfl,?_,by omega,by omega⟩⟩,fun hon=>⟨jK,g+1,by omega,⟨rfl,fun _ _=>rfl⟩,rfl,rfl,rfl,rfl,rfl,rfl,?_,by omega,by omega⟩⟩
   ·rw[show DC a b c d (g+1)=DC a b c d g by rw[DC,hon,Kh.2,Ig hex]];exact⟨rfl,fun _ _=>rfl⟩
   ·rw[DC,hon,Kh.2];exact JN hnx
   ·rw[show DC a b c d (g+1)=DC a b c d g by rw[DC,hon,Kh.1]];exact⟨rfl,fun _ _=>rfl⟩
  ·have hb1:¬ (g:Int)<2:=by simpa using hge
   obtain rfl:g=2:=by omega
   unfold CU;refine⟨fun h=>by rw[h];rfl,fun h=>⟨fun h'=>by rw[h,h'];rfl,fun h'=>⟨⟨ha,hb,hc,hd⟩,fun _=>⟨hc,hd,ha,hb⟩,fun q=>by rw[h,h',q];rfl,fun q=>by rw[h,h',q];rfl⟩⟩⟩)
theorem rU:Av Tryz.prog 134 UJ:=AM Tryz.func134 (c:=Ah Tryz.f134) (by kernel_rfl) mixed (fun args p r hs hp=>by
 unfold UI at hs;split at hs
 ·cases hs;exact⟨_,_,rT _ _ _ _ hp,(.same _ (.same _ (.same _ (.same _ .nil)))),⟨show Aa Tryz.prog _ from(Aa.cons rL rM (Aa.cons rQ rR Aa.nil)),rfl,⟨show Ag Tryz.prog _ from Ag.nil,(Aw.none (fun _=>rfl))⟩⟩⟩
 ·cases hs)
theorem rV:Ao Tryz.prog 134:=fun args w=>by kernel_rfl
end
section
set_option maxRecDepth 100000
set_option maxHeartbeats 4000000
set_option linter.unusedVariables false
attribute [local irreducible] vc
def P8 (l:L.Sq L.Pt) (i k:Nat):Bool:=bif decide ((k:Int)=(i:Int)+1)then true else bif decide ((i:Int)=0)then decide ((k:Int)=(l.n:Int)-1)else false
def Nk (l:L.Sq L.Pt) (i k:Nat):Int:=CU (l.g i) (l.g (i+1)) (l.g k) (l.g (Cf l.n k))
def Cm (l:L.Sq L.Pt) (i k:Nat):Bool:=bif P8 l i k then decide (Nk l i k=1)else decide (Nk l i k=0)
def Em (l:L.Sq L.Pt):Bool:=CD l.n (fun i=>CD l.n (fun k=>!decide (i<k)||Cm l i k))
def Io (l:L.Sq L.Pt):Prop:=l.n<=1000/\∀i,i<l.n->AF (l.g i)
def UK (l:(L.Sq L.Pt)):Prop:=Io l
def UL (l:(L.Sq L.Pt)):SV:=.bool (Em l)
def UM:List EV->Option (Prop×SV)
 |[.p (.sl 2 l_n l_g)]=>some ((∀i,i<l_n->l_g i = [.int .i64 ((An (l_g i)).x),.int .i64 ((An (l_g i)).y)])/\UK (⟨l_n,fun i=>An (l_g i)⟩:(L.Sq L.Pt)),UL (⟨l_n,fun i=>An (l_g i)⟩:(L.Sq L.Pt)))
 |_=>none
abbrev UN:SE.Spec:=(AK UM)
def rW:Ak:={ cC with specs:=AB [(134,UJ)] }
theorem rX (l:(L.Sq L.Pt)) (hp:UK l):vc Tryz.prog ({ rW with loops:=AV [(3,{ T:=Nat,keep:=[0,3,11],keepO:=[],chg:=fun i=>[(12,.p (.int .i64 (i:Int)))],own:=fun _=>[],inv:=fun i=>i<=l.n/\∀j,j<i->∀k,j<k->k<l.n->Cm l j k=true,mu:=fun i=>l.n-i }),(6,{ T:=Nat×Nat,keep:=[0,3,4,11,12],keepO:=[],tie:=fun i=>[(4,.int .i64 (i.1:Int)),(12,.int .i64 (i.1:Int))],chg:=fun i=>[(5,.p (.int .i64 (i.2:Int)))],own:=fun _=>[],inv:=fun i=>i.1<i.2/\i.2<=l.n/\(∀j,j<i.1->∀k,j<k->k<l.n->Cm l j k=true)/\∀k,i.1<k->k<i.2->Cm l i.1 k=true,mu:=fun i=>l.n-i.2 })],rfs:=AT [] }) (Ah Tryz.f105) (Ap Tryz.f105 [.p (.sl 2 l.n (fun i=>[.int .i64 ((l.g i).x),.int .i64 ((l.g i).y)]))]) (AJ Tryz.prog Tryz.f105 (UL l)):=
 @Eq.mpr _ (let I:=SV.int .i64;let T:=Af1;let M:=AfF;let A7:=(0:Int);let A6:=(l.n=l.n/\∀(i:Nat),let A11:=[I (l.g i).x,I (l.g i).y];i<l.n->A11=A11);let A5:=(1:Int);let A3:=(↑l.n:Int);(∃(g:Nat),A7=(↑g:Int)/\g<=l.n/\∀(j:Nat),j<g->∀(k:Nat),j<k->k<l.n->Cm l j k=true)/\∀(g:Nat),let A2:=(↑g:Int);let A12:=(l.g (T A2));let A9:=(A2+A5);let A13:=(l.g (T A9));(g<=l.n/\∀(j:Nat),j<g->∀(k:Nat),j<k->k<l.n->Cm l j k=true)->(decide (A2<A3)=true->Ad .i64 A9/\(∃(g_1:Nat×Nat),A2+A5=(↑g_1.2:Int)/\A2=(↑g_1.1:Int)/\A2=(↑g_1.1:Int)/\g_1.1<g_1.2/\g_1.2<=l.n/\(∀(j:Nat),j<g_1.1->∀(k:Nat),j<k->k<l.n->Cm l j k=true)/\∀(k:Nat),g_1.1<k->k<g_1.2->Cm l g_1.1 k=true)/\∀(g_1:Nat×Nat),let A4:=(↑g_1.2:Int);let A14:=(l.g (T A4));let A10:=(A4+A5);let A8:=(l.g (T (M A10 A3)));let A1:=(bif bif bif decide (A4=A2+A5)then true else bif decide (A2=A7)then decide (A4=A3-A5)else false then !decide (CU A12 A13 A14 A8=A5)else false then true else bif !bif decide (A4=A2+A5)then true else bif decide (A2=A7)then decide (A4=A3-A5)else false then !decide (CU A12 A13 A14 A8=A7)else false);(A2=(↑g_1.1:Int)/\A2=(↑g_1.1:Int)/\g_1.1<g_1.2/\g_1.2<=l.n/\(∀(j:Nat),j<g_1.1->∀(k:Nat),j<k->k<l.n->Cm l j k=true)/\∀(k:Nat),g_1.1<k->k<g_1.2->Cm l g_1.1 k=true)->(decide (A4<A3)=true->(A7<=A2/\A2<A3)/\Ad .i64 A9/\(A7<=A2+A5/\A2+A5<A3)/\(A7<=A4/\A4<A3)/\Ad .i64 A10/\A3≠A7/\(A7<=M A10 A3/\M A10 A3<A3)/\(AF A12/\AF A13/\AF A14/\AF A8)/\Ad .i64 A9/\((!decide (A4=A2+A5)&&decide (A2=A7))=true->Ad .i64 (A3-A5))/\(A1=true->false=Em l)/\(A1=false->Ad .i64 A10/\∃(g':Nat×Nat),A4+A5=(↑g'.2:Int)/\A2=A2/\A2=A2/\A3=A3/\A3=A3/\A6/\(A2=(↑g'.1:Int)/\A2=(↑g'.1:Int)/\g'.1<g'.2/\g'.2<=l.n/\(∀(j:Nat),j<g'.1->∀(k:Nat),j<k->k<l.n->Cm l j k=true)/\∀(k:Nat),g'.1<k->k<g'.2->Cm l g'.1 k=true)/\l.n-g'.2<l.n-g_1.2))/\(decide (A4<A3)=false->Ad .i64 A9/\∃(g':Nat),A2+A5=(↑g':Int)/\A3=A3/\A3=A3/\A6/\(g'<=l.n/\∀(j:Nat),j<g'->∀(k:Nat),j<k->k<l.n->Cm l j k=true)/\l.n-g'<l.n-g))/\(decide (A2<A3)=false->true=Em l)) (by kernel_rfl) (by
 conv=>zeta
 obtain⟨hn,hb⟩:=hp;have fin0:∀{i k:Nat},i<k->k<l.n->Cm l i k=false->false=Em l:=fun {i k} hik hk h=>by
  unfold Em;rw[FF (i:=i) (by omega) (FF (i:=k) hk (by simp[hik,h]))]
 refine⟨⟨(0:Nat),rfl,Afg _,fun j hj=>absurd hj (Rc _)⟩,fun g hg=>⟨fun hlt=>?_,fun hge=>?_⟩⟩
 ·have hb1:(g:Int)<(l.n:Int):=by simpa using hlt
  refine⟨jK,⟨(g,g+1),by simp,rfl,rfl,by simp,by simp;omega,hg.2,fun k h1 h2=>by simp at h1 h2;omega⟩,?_⟩;rintro⟨i,k⟩ ⟨e1,e2,hik,hkn,h0,h1⟩;simp only at e1 e2 hik hkn h0 h1;obtain rfl:i=g:=by omega
  refine⟨fun hlt2=>?_,fun hge2=>?_⟩
  ·have hk:(k:Int)<(l.n:Int):=by simpa using hlt2
   have t3:=Agr (l.n:Int) (show 0<=(k:Int)+1 by omega);have t4:=AfY ((k:Int)+1) (show 0<(l.n:Int)by omega);have c1:((i:Int)).toNat=i:=by omega
   have c2:((i:Int)+1).toNat=i+1:=by omega
   have c3:((k:Int)).toNat=k:=by omega
   have c4:(AfF ((k:Int)+1) (l.n:Int)).toNat=Cf l.n k:=rfl;have c5:Cf l.n k<l.n:=In (by omega);dsimp only;rw[c1,c2,c3,c4];have key:(bif (bif (bif decide ((k:Int)=(i:Int)+1)then true else bif decide ((i:Int)=0)then decide ((k:Int)=(l.n:Int)-1)else false)then !decide (CU (l.g i) (l.g (i+1)) (l.g k) (l.g (Cf l.n k))=1)else false)then true else bif !(bif decide ((k:Int)=(i:Int)+1)then true else bif decide ((i:Int)=0)then decide ((k:Int)=(l.n:Int)-1)else false)then !decide (CU (l.g i) (l.g (i+1)) (l.g k) (l.g (Cf l.n k))=0)else false)= !Cm l i k:=by
    unfold Cm P8 Nk;generalize (bif decide ((k:Int)=(i:Int)+1)then true else bif decide ((i:Int)=0)then decide ((k:Int)=(l.n:Int)-1)else false)=q;generalize decide (CU (l.g i) (l.g (i+1)) (l.g k) (l.g (Cf l.n k))=1)=q1;generalize decide (CU (l.g i) (l.g (i+1)) (l.g k) (l.g (Cf l.n k))=0)=q2;cases q<;>cases q1<;>cases q2<;>rfl
   rw[key];refine⟨by omega,jK,by omega,by omega,jK,by omega,⟨t3,t4⟩,⟨hb i (by omega),hb (i+1) (by omega),hb k (by omega),hb _ c5⟩,jK,fun _=>jK,fun h=>fin0 hik (by omega) (by simpa using h),fun h=>?_⟩;have hok:Cm l i k=true:=by simpa using h
   refine⟨jK,(i,k+1),by simp,rfl,rfl,rfl,rfl,⟨rfl,fun _ _=>rfl⟩,⟨rfl,rfl,by simp;omega,by simp;omega,h0,fun m hm1 hm2=>?_⟩,by simp;omega⟩;dsimp only at hm1 hm2 ⊢;rcases Aft.1 hm2 with h'|rfl
   ·exact h1 m hm1 h'
   ·exact hok
  ·have hk:¬ (k:Int)<(l.n:Int):=by simpa using hge2
   refine⟨jK,i+1,by omega,rfl,rfl,⟨rfl,fun _ _=>rfl⟩,⟨by omega,fun j hj m hm1 hm2=>?_⟩,by omega⟩;rcases Aft.1 hj with h'|rfl
   ·exact h0 j h' m hm1 hm2
   ·exact h1 m hm1 (by omega)
 ·have hb1:¬ (g:Int)<(l.n:Int):=by simpa using hge
  unfold Em;rw[CQ.2 (fun i hi=>CQ.2 (fun k hk=>?_))]
  by_cases hik:i<k
  ·simp[hik,hg.2 i (by omega) k hik hk]
  ·simp[hik])
theorem rY:Av Tryz.prog 105 UN:=AM Tryz.func105 (c:=Ah Tryz.f105) (by kernel_rfl) mixed (fun args p r hs hp=>by
 unfold UM at hs;split at hs
 ·cases hs;exact⟨_,_,rX _ hp.2,(.p (.sl hp.1) .nil),⟨show Aa Tryz.prog _ from(Aa.cons rU rV Aa.nil),rfl,⟨show Ag Tryz.prog _ from Ag.nil,(Aw.none (fun _=>rfl))⟩⟩⟩
 ·cases hs)
theorem rZ:Ao Tryz.prog 105:=fun args w=>by kernel_rfl
end
section
set_option maxRecDepth 100000
set_option maxHeartbeats 4000000
set_option linter.unusedVariables false
attribute [local irreducible] vc
def E0 (l:L.Sq L.Pt) (k:Nat):Bool:=!(bif decide (B4 (l.g (FG l.n k)) (l.g k) (l.g (Cf l.n k))=0)then true else bif decide (0<(k:Int))then decide (0<=C9 (l.g 0) (l.g k))else false)
def EN (l:L.Sq L.Pt):Bool:=CD l.n (fun i=>C2 (l.g i))
def Gx (l:L.Sq L.Pt):Bool:=bif (bif !Ay (l.n:Int) 3 24 then true else !EN l)then false else decide (0<Cq l l.n)
def AP (l:L.Sq L.Pt):Bool:=Gx l&&(CD l.n (E0 l)&&Em l)
def Gb (l:L.Sq L.Pt) (k:Nat):Int:=Br (B4 (l.g (FG l.n k)) (l.g k) (l.g (Cf l.n k))) 0
theorem P9 {n k:Nat} (h:0<n):FG n k<n:=by
 have t3:=Agr (n:Int) (show 0<=(k:Int)+(n:Int)-1 by omega);have t4:=AfY ((k:Int)+(n:Int)-1) (show 0<(n:Int)by omega);unfold FG;omega
theorem Jg {n a b:Int}:Ay n a b=true↔a<=n/\n<=b:=by simp[Ay]
theorem PA {l:L.Sq L.Pt} (h:Ay (l.n:Int) 3 24=true) (h':EN l=true):3<=l.n/\l.n<=24/\Fy l/\Io l:=by
 obtain⟨h1,h2⟩:=Jg.1 h;have hb:∀i,i<l.n->AF (l.g i):=fun i hi=>qQ (CQ.1 h' i hi);exact⟨by omega,by omega,⟨by omega,hb⟩,⟨by omega,hb⟩⟩
theorem sC (l:L.Sq L.Pt):(bif (bif !Ay (l.n:Int) 3 24 then true else !(CD l.n fun i=>C2 (l.g i)))then true else decide (Cq l l.n<=0))= !Gx l:=by
 unfold Gx EN;have:decide (0<Cq l l.n)= !decide (Cq l l.n<=0):=by
  by_cases h:Cq l l.n<=0<;>simp[h]<;>omega
 rw[this];generalize decide (Cq l l.n<=0)=q;cases Ay (l.n:Int) 3 24<;>cases(CD l.n fun i=>C2 (l.g i))<;>cases q<;>rfl
theorem UO {l:L.Sq L.Pt} (h:Gx l=true):3<=l.n/\l.n<=24/\Fy l/\Io l:=by
 unfold Gx at h;cases h1:Ay (l.n:Int) 3 24 with
 |false=>simp[h1]at h
 |true=>cases h2:EN l with
   |false=>simp[h1,h2]at h
   |true=>exact PA h1 h2
theorem Gy {l:L.Sq L.Pt} (h:AP l=true):3<=l.n/\l.n<=24/\Fy l/\Io l:=UO (Bool.and_eq_true_iff.1 h).1
theorem Cx {b:Bool} (h:(!b)=true):b=false:=by cases b with|false=>rfl|true=>cases h
theorem Ca {b:Bool} (h:(!b)=false):b=true:=by cases b with|true=>rfl|false=>cases h
theorem sD {n:Nat} {f g:Nat->Bool} (h:∀i,i<n->f i=g i):Cl n f=Cl n g:=by
 rw[Bool.eq_iff_iff,Fc,Fc];exact⟨fun⟨i,hi,e⟩=>⟨i,hi,by rw[<- h i hi];exact e⟩,fun⟨i,hi,e⟩=>⟨i,hi,by rw[h i hi];exact e⟩⟩
def UP (l:(L.Sq L.Pt)):Prop:=l.n<=1000000
def UQ (l:(L.Sq L.Pt)):SV:=.bool (AP l)
def UR:List EV->Option (Prop×SV)
 |[.p (.sl 2 l_n l_g)]=>some ((∀i,i<l_n->l_g i = [.int .i64 ((An (l_g i)).x),.int .i64 ((An (l_g i)).y)])/\UP (⟨l_n,fun i=>An (l_g i)⟩:(L.Sq L.Pt)),UQ (⟨l_n,fun i=>An (l_g i)⟩:(L.Sq L.Pt)))
 |_=>none
abbrev L5:SE.Spec:=(AK UR)
def sE:Ak:={ cC with specs:=AB [(100,Nf),(101,U4),(95,Pz),(102,Lz),(103,Ke),(104,P4),(105,UN)],iters:=Bw [(133,Ly)] }
theorem sF (l:(L.Sq L.Pt)) (hp:UP l):vc Tryz.prog ({ sE with loops:=AV [],rfs:=AT [(4,{ T:=Nat,keep:=[1,2],keepO:=[2],own:=fun k _=>[],inv:=fun k _=>∀j,j<k->E0 l j=true })] }) (Ah Tryz.f64) (Ap Tryz.f64 [.p (.sl 2 l.n (fun i=>[.int .i64 ((l.g i).x),.int .i64 ((l.g i).y)]))]) (AJ Tryz.prog Tryz.f64 (UQ l)):=
 @Eq.mpr _ (let I:=SV.int .i64;let T:=Af1;let M:=AfF;let A17:=(nat_lit 1);let A16:=(nat_lit 0);let A14:=(1:Int);let A13:=(nat_lit 2);let A12:=(↑(3:Nat):Int);let A10:=(↑l.n:Int);let A9:=(L.Sq.mk l.n fun(i:Nat)=>l.g i);let A8:=(0:Int);let A5:=[SV.sl A13 l.n fun(i:Nat)=>[I (l.g i).x,I (l.g i).y]];let A4:=(bif bif !Ay A10 (3:Int) (24:Int)then true else !CD l.n fun(i:Nat)=>C2 (l.g i)then true else decide (Cq (L.Sq.mk l.n fun(i:Nat)=>l.g i) l.n<=A8));let A3:=(∀(i:Nat),let A18:=[I (l.g i).x,I (l.g i).y];i<l.n->A18=A18);let A19:=(A3/\l.n<=(1000:Nat));True/\((!!Ay A10 (3:Int) (24:Int))=true->A3/\l.n<=(1000000:Nat))/\((!bif !Ay A10 (3:Int) (24:Int)then true else !CD l.n fun(i:Nat)=>C2 (l.g i))=true->A3/\Fy A9)/\(A4=true->false=AP l)/\(A4=false->A19/\(A19/\∃(t:Nat),false=false/\∀(j:Nat),j<(0:Nat)->E0 l j=true)/\(∀(k t:Nat) (vk:Nat->Go.Value),let A15:=(↑k:Int);let A11:=(l.g (T A15));let A7:=(l.g (T (M (A15+A14) A10)));let A6:=(l.g (T (M (A15+A10-A14) A10)));let A2:=(bif decide (B4 A6 A11 A7=A8)then true else bif decide (A8<A15)then decide (A8<=C9 (l.g (T A8)) A11)else false);let A1:=(!decide (B4 A6 A11 A7=A8)&&decide (A8<A15));k<l.n->(∀(j:Nat),j<k->E0 l j=true)->(A8<=A8/\A8<A12)/\(A8<=A14/\A14<A12)/\(A8<=(2:Int)/\(2:Int)<A12)/\(AF A6/\AF A11/\AF A7)/\(A1=true->A8<=A8/\A8<A10)/\(A1=true->A8<=A14/\A14<A12)/\(A1=true->True)/\(A2=true->nat_lit 0=nat_lit 0/\SV.ref A5 A16=SV.ref A5 A16/\vk A13=vk A13/\vk A17=vk A17/\false=AP l)/\(A2=false->∃(t':Nat),nat_lit 0=nat_lit 0/\SV.ref A5 A16=SV.ref A5 A16/\vk A13=vk A13/\vk A17=vk A17/\false=false/\∀(j:Nat),j<k+(1:Nat)->E0 l j=true))/\∀(t:Nat),(∀(j:Nat),j<l.n->E0 l j=true)->(A3/\Io A9)/\Em A9=AP l)) (by kernel_rfl) (by
 conv=>zeta
 have hn:l.n<=1000000:=hp;have e3:=sC l;refine⟨trivial,fun _=>⟨fun _ _=>rfl,hn⟩,fun h=>⟨fun _ _=>rfl,?_⟩,fun h=>?_,fun h=>?_⟩
 ·cases h1:Ay (l.n:Int) 3 24 with
  |false=>simp[h1]at h
  |true=>cases h2:EN l with
    |false=>rw[h1]at h;rw[show(CD l.n fun i=>C2 (l.g i))=false from h2]at h;simp at h
    |true=>exact(PA h1 h2).2.2.1
 ·have h:=e3.symm.trans h;have:Gx l=false:=by simpa using h
  unfold AP;rw[this];rfl
 ·have h:=e3.symm.trans h;have hv:Gx l=true:=by simpa using h
  obtain⟨n3,n24,hsm,hbd⟩:=UO hv;refine⟨⟨fun _ _=>rfl,by omega⟩,⟨⟨fun _ _=>rfl,by omega⟩,(0:Nat),rfl,fun j hj=>absurd hj (Rc _)⟩,fun k t vk hk hi=>?_,fun t hi=>?_⟩
  ·have c1:(AfF ((k:Int)+(l.n:Int)-1) (l.n:Int)).toNat=FG l.n k:=rfl;have c2:((k:Int)).toNat=k:=by omega
   have c3:(AfF ((k:Int)+1) (l.n:Int)).toNat=Cf l.n k:=rfl;rw[c1,c2,c3];have key:(bif decide (B4 (l.g (FG l.n k)) (l.g k) (l.g (Cf l.n k))=0)then true else bif decide (0<(k:Int))then decide (0<=C9 (l.g (Af1 0)) (l.g k))else false)= !E0 l k:=by
    unfold E0;rw[Bool.not_not];rfl
   rw[key];refine⟨by omega,by omega,by omega,⟨hbd.2 _ (P9 (by omega)),hbd.2 _ hk,hbd.2 _ (In (by omega))⟩,fun _=>by omega,fun _=>by omega,fun _=>trivial,fun h=>⟨rfl,rfl,rfl,rfl,?_⟩,fun h=>⟨t,rfl,rfl,rfl,rfl,rfl,fun j hj=>?_⟩⟩
   ·have:E0 l k=false:=by simpa using h
    unfold AP;rw[FF hk this];simp
   ·rcases Aft.1 hj with h'|rfl
    ·exact hi j h'
    ·simpa using h
  ·refine⟨⟨fun _ _=>rfl,hbd⟩,?_⟩;unfold AP;rw[hv,CQ.2 hi];rfl)
theorem Nl:Av Tryz.prog 64 L5:=AM Tryz.func64 (c:=Ah Tryz.f64) (by kernel_rfl) mixed (fun args p r hs hp=>by
 unfold UR at hs;split at hs
 ·cases hs;exact⟨_,_,sF _ hp.2,(.p (.sl hp.1) .nil),⟨show Aa Tryz.prog _ from(Aa.cons Pu Pv (Aa.cons rF rG (Aa.cons TK TL (Aa.cons Ni Nj (Aa.cons L3 L4 (Aa.cons P5 P6 (Aa.cons rY rZ Aa.nil))))))),rfl,⟨show Ag Tryz.prog _ from(Ag.cons Ng Nh Ag.nil),(Aw.none (fun _=>rfl))⟩⟩⟩
 ·cases hs)
theorem Nm:Ao Tryz.prog 64:=fun args w=>by kernel_rfl
def US (l:(L.Sq L.Pt)):Prop:=l.n<=1000000
def UT (l:(L.Sq L.Pt)):SV:=.tup [.sl 1 (bif AP l then l.n else 0) (fun k=>[.int .i64 (Gb l k)]),.int .i64 (bif AP l then 0 else 1)]
def UU:List EV->Option (Prop×SV)
 |[.p (.sl 2 l_n l_g)]=>some ((∀i,i<l_n->l_g i = [.int .i64 ((An (l_g i)).x),.int .i64 ((An (l_g i)).y)])/\US (⟨l_n,fun i=>An (l_g i)⟩:(L.Sq L.Pt)),UT (⟨l_n,fun i=>An (l_g i)⟩:(L.Sq L.Pt)))
 |_=>none
abbrev UV:SE.Spec:=(AK UU)
def sG:Ak:={ cC with specs:=AB [(64,L5),(102,Lz),(103,Ke),(111,Kc)],iters:=Bw [(133,Ly)] }
theorem sH (l:(L.Sq L.Pt)) (hp:US l):vc Tryz.prog ({ sG with loops:=AV [],rfs:=AT [(5,{ T:=Nat,keep:=[0,2,3,4],keepO:=[],own:=fun k _=>[(4,.blk 42 [.row 12]),(12,.row 3 1 l.n (fun i=>[.int .i64 (bif decide (i<k)then Gb l i else 0)]))],inv:=fun k _=>True })] }) (Ah Tryz.f144) (Ap Tryz.f144 [.p (.sl 2 l.n (fun i=>[.int .i64 ((l.g i).x),.int .i64 ((l.g i).y)]))]) (AJ Tryz.prog Tryz.f144 (UT l)):=
 @Eq.mpr _ (let I:=SV.int .i64;let T:=Af1;let A9:=(↑(3:Nat):Int);let A7:=(0:Nat);let A6:=(1:Int);let A5:=(!AP (L.Sq.mk l.n fun(i:Nat)=>l.g i));let A3:=(0:Int);let A2:=(↑l.n:Int);let A1:=(∀(i:Nat),let A11:=[I (l.g i).x,I (l.g i).y];i<l.n->A11=A11);let A13:=(A1/\l.n<=(1000:Nat));(A1/\l.n<=(1000000:Nat))/\(A5=true->(bif AP l then l.n else A7)=A7/\A6=bif AP l then A3 else A6)/\(A5=false->(A3<=A2/\A2<=A2/\A2*(↑(nat_lit 8):Int)<=(140737488355328:Int))/\A13/\(A13/\∃(t:Nat),(T A2=l.n/\∀(i:Nat),i<T A2 -> [I A3]= [I (bif decide (i<A7)then Gb l i else A3)])/\True)/\(∀(k t:Nat) (vk:Nat->Go.Value),let A4:=(↑k:Int);let A10:=(l.g (T (AfF (A4+A6) A2)));let A8:=(l.g (T (AfF (A4+A2-A6) A2)));k<l.n->True->(A3<=A3/\A3<A9)/\(A3<=A6/\A6<A9)/\(A3<=(2:Int)/\(2:Int)<A9)/\(AF A8/\AF (l.g (T A4))/\AF A10)/\True/\(A3<=A4/\A4<A2)/\T A4<l.n/\∃(t':Nat),nat_lit 0=nat_lit 0/\A3=A3/\Value.slice Option.none A7 A7=Value.slice Option.none A7 A7/\(l.n=l.n/\∀(i:Nat),let A12:=[I (l.g i).x,I (l.g i).y];i<l.n->A12=A12)/\vk (nat_lit 4)=vk (nat_lit 4)/\vk (nat_lit 3)=vk (nat_lit 3)/\vk (nat_lit 2)=vk (nat_lit 2)/\vk (nat_lit 0)=vk (nat_lit 0)/\(l.n=l.n/\∀(i:Nat),i<l.n->setRow (fun(i:Nat)=>[I (bif decide (i<k)then Gb l i else A3)]) (T A4) (nat_lit 0) [I (Br (B4 A8 (l.g (T A4)) A10) A3)] i = [I (bif decide (i<k+(1:Nat))then Gb l i else A3)])/\True)/\∀(t:Nat),True->((l.n=bif AP l then l.n else A7)/\∀(i:Nat),i<l.n -> [I (bif decide (i<l.n)then Gb l i else A3)]= [I (Gb l i)])/\A3=bif AP l then A3 else A6)) (by kernel_rfl) (by
 conv=>zeta
 have hn:l.n<=1000000:=hp;refine⟨⟨fun _ _=>rfl,hn⟩,fun h=>?_,fun h=>?_⟩
 ·have hv:AP l=false:=by simpa using (show(!AP l)=true from h)
  rw[hv];exact⟨rfl,rfl⟩
 ·have hv:AP l=true:=by simpa using (show(!AP l)=false from h)
  obtain⟨n3,n24,hsm,hbd⟩:=Gy hv;refine⟨⟨by omega,by omega,show(l.n:Int)*8<=140737488355328 by omega⟩,⟨fun _ _=>rfl,by omega⟩,⟨⟨fun _ _=>rfl,by omega⟩,(0:Nat),⟨by omega,fun i hi=>rfl⟩,trivial⟩,fun k t vk hk _=>?_,fun t _=>?_⟩
  ·have c1:(AfF ((k:Int)+(l.n:Int)-1) (l.n:Int)).toNat=FG l.n k:=rfl;have c2:((k:Int)).toNat=k:=by omega
   have c3:(AfF ((k:Int)+1) (l.n:Int)).toNat=Cf l.n k:=rfl;rw[c1,c2,c3];refine⟨by omega,by omega,by omega,⟨hbd.2 _ (P9 (by omega)),hbd.2 _ hk,hbd.2 _ (In (by omega))⟩,trivial,by omega,hk,t,rfl,rfl,rfl,⟨rfl,fun _ _=>rfl⟩,rfl,rfl,rfl,rfl,⟨rfl,fun i hi=>?_⟩,trivial⟩;unfold setRow
   by_cases hik:i=k
   ·subst hik;simp[Gb,G8]
   ·have e : decide (i<k+1)= decide (i<k):=by
     by_cases h':i<k<;>simp[h']<;>omega
    simp[hik,e]
  ·rw[hv];refine⟨⟨rfl,fun i hi=>?_⟩,rfl⟩;simp[hi])
theorem sI:Av Tryz.prog 144 UV:=AM Tryz.func144 (c:=Ah Tryz.f144) (by kernel_rfl) mixed (fun args p r hs hp=>by
 unfold UU at hs;split at hs
 ·cases hs;exact⟨_,_,sH _ hp.2,(.p (.sl hp.1) .nil),⟨show Aa Tryz.prog _ from(Aa.cons Nl Nm (Aa.cons Ni Nj (Aa.cons L3 L4 (Aa.cons L1 L2 Aa.nil)))),rfl,⟨show Ag Tryz.prog _ from(Ag.cons Ng Nh Ag.nil),(Aw.none (fun _=>rfl))⟩⟩⟩
 ·cases hs)
theorem sJ:Ao Tryz.prog 144:=fun args w=>by kernel_rfl
end
section
set_option maxRecDepth 100000
set_option maxHeartbeats 4000000
set_option linter.unusedVariables false
attribute [local irreducible] vc
def DX:List SV->L.Sq L.Pt
 |[.sl _ n g]=>⟨n,fun i=>An (g i)⟩
 |_=>⟨0,fun _=>⟨0,0⟩⟩
def Jh:List SV->Prop
 |[.sl 2 n g]=>∀i,i<n->g i = [.int .i64 (An (g i)).x,.int .i64 (An (g i)).y]
 |_=>False
theorem PB {l:List SV} (h:Jh l):l.length=1/\AX (SV.at l 0) (.sl 2 (DX l).n (fun k=>[.int .i64 ((DX l).g k).x,.int .i64 ((DX l).g k).y])):=by
 unfold Jh at h;split at h
 ·rename_i n g;exact⟨rfl,.sl h⟩
 ·exact h.elim
def FH (a b:L.Sq L.Pt) (i:Nat):L.Sq L.Pt:=bif decide (i=0)then a else b
theorem sK {g:Nat->List SV} (h:Jh (g 0)/\Jh (g 1)):AX (.sl 1 2 g) (.sl 1 2 (fun i=>[.sl 2 (FH (DX (g 0)) (DX (g 1)) i).n (fun k=>[.int .i64 ((FH (DX (g 0)) (DX (g 1)) i).g k).x,.int .i64 ((FH (DX (g 0)) (DX (g 1)) i).g k).y])])):=by
 have key:∀i,i<2->Jh (g i)/\FH (DX (g 0)) (DX (g 1)) i=DX (g i):=fun i hi=>by
  match i,hi with
  |0,_=>exact⟨h.1,rfl⟩
  |1,_=>exact⟨h.2,rfl⟩
 refine .sl2 (fun i hi=>(PB (key i hi).1).1.symm) (fun i hi j hj=>?_);rw[(PB (key i hi).1).1]at hj;obtain rfl:j=0:=by omega
 rw[(key i hi).2];exact(PB (key i hi).1).2
def Cy (c:Nat->L.Sq L.Pt):Nat->L.Sq L.Pt
 |0=>⟨0,fun _=>⟨0,0⟩⟩
 |i+1=>⟨(Cy c i).n+(c i).n,fun k=>bif decide (k<(Cy c i).n)then(Cy c i).g k else(c i).g (k-(Cy c i).n)⟩
def Dx (l:L.Sq L.Pt) (i k:Nat):L.Pt:=bif decide (k<i)||decide (l.n<=k+i)then l.g (l.n-1-k)else l.g k
def CE (l:L.Sq L.Pt) (v:L.Pt):Int:=Cw l.n (fun i=>C3 v (l.g i))
theorem sL {a b:L.Pt} (h:C3 a b=true):a=b:=by
 unfold C3 at h;rw[nT,decide_eq_true_eq,decide_eq_true_eq]at h;cases a;cases b;simp only at h;rw[h.1,h.2]
theorem PC (a:L.Pt):C3 a a=true:=by simp[C3]
theorem sM {l:L.Sq L.Pt} {j:Nat} (hj:j<l.n):∃i,i<=j/\CE l (l.g j)=(i:Int)/\l.g i=l.g j/\∀k,k<i->l.g k≠l.g j:=by
 unfold CE;rcases TN (f:=fun i=>C3 (l.g j) (l.g i)) (n:=l.n)with ⟨_,h2⟩|⟨i,h1,h2,h3,h4⟩
 ·have:=h2 j hj;rw[PC]at this;cases this
 ·refine⟨i,?_,h2,(sL h3).symm,fun k hk e=>?_⟩
  ·rcases Nat.lt_or_ge j i with h|h
   ·have:=h4 j h;rw[PC]at this;cases this
   ·exact h
  ·have:=h4 k hk;rw[e,PC]at this;cases this
theorem UW {a b:L.Pt}:C9 a b<0↔a.x<b.x\/(a.x=b.x/\a.y<b.y):=by
 unfold C9 HG Br
 by_cases h1:a.x<b.x
 ·simp[h1]
 ·by_cases h2:b.x<a.x
  ·simp[h1,h2];omega
  ·by_cases h3:a.y<b.y
   ·simp[h1,h2,h3];try omega
   ·by_cases h4:b.y<a.y
    ·simp[h1,h2,h3,h4]
    ·simp[h1,h2,h3,h4]
def UX (s:Nat) (n:Int):Prop:=1<=n/\n<=2000000
def UY (s:Nat) (n:Int):Nat->Prop:=fun _=>True
def UZ (s:Nat) (n:Int):Nat->Nat:=fun _=>0
def Va (s:Nat) (n:Int):Nat->Nat->List SV:=fun _ _=>[]
def Vb:List EV->Option (Prop×(Nat->Prop)×(Nat->Nat)×(Nat->Nat->List SV))
 |[.p (.raw (.slice none 0 0)),.p (.int .i64 n)]=>some (UX (0:Nat) n,UY (0:Nat) n,UZ (0:Nat) n,Va (0:Nat) n)
 |_=>none
abbrev Vc:SE.Spec:=(Gw Nat 0 66 2 Vb)
def sO:Ak:={ cC with muts:=[22],cuts:=[25] }
theorem sP (s:Nat) (n:Int) (hp:UX s n):vc Tryz.prog (sO) (Ah Tryz.f161) (Ap Tryz.f161 [.p (.raw (.slice none 0 0)),.p (.int .i64 n)]) (Fv Tryz.prog Tryz.f161 (Nat) (UY s n) 66 2 (UZ s n) (Va s n)):=
 @Eq.mpr _ (let A4:=(0:Nat);let A2:=(0:Int);let A1:=(↑A4:Int);let A3:=(A1-A1);(decide (n<A2)=true->False)/\(decide (n<A2)=false->Ad .i64 A3/\Ad .i64 (n-A3)/\(decide (A2<n-A3)=true->(A2<=A2/\A2<=A1/\A1<=A2)/\(A2<n-A3/\(n-A3)*(↑(nat_lit 16):Int)<=(140737488355328:Int))/\(A2<=A1/\A1<=(↑(Af1 (n-A3)):Int))/\∃(t:Nat),(nat_lit 0=A4/\∀(i:Nat),i<nat_lit 0 -> [SV.int .i64 A2,SV.int .i64 A2]= [])/\True)/\(decide (A2<n-A3)=false->∃(t:Nat),A4=A4/\True))) (by kernel_rfl) (by
 conv=>zeta
 obtain⟨h1,h2⟩:=hp;refine⟨fun h=>?_,fun _=>⟨jK,jK,fun h=>⟨⟨by omega,by omega,by omega⟩,⟨by omega,show(n-(((0:Nat):Int)-((0:Nat):Int)))*16<=140737488355328 by omega⟩,⟨by omega,by omega⟩,(0:Nat),⟨rfl,fun i hi=>absurd hi (Rc _)⟩,trivial⟩,fun h=>⟨(0:Nat),rfl,trivial⟩⟩⟩;have:=of_decide_eq_true h;omega)
theorem sQ:Av Tryz.prog 161 Vc:=GK Tryz.func161 (c:=Ah Tryz.f161) (by kernel_rfl) mixed (fun args p q n g hs hp=>by
 unfold Vb at hs;split at hs
 ·cases hs;exact⟨_,_,sP _ _ hp,(.same _ (.same _ .nil)),⟨show Aa Tryz.prog _ from Aa.nil,rfl,⟨show Ag Tryz.prog _ from Ag.nil,(Aw.none (fun _=>rfl))⟩⟩⟩
 ·cases hs)
theorem sR:Ao Tryz.prog 161:=fun args w=>by kernel_rfl
def Vd (c:(Nat->L.Sq L.Pt)):Prop:=1<=(c 0).n+(c 1).n/\(c 0).n<=1000000/\(c 1).n<=1000000
def Ve (c:(Nat->L.Sq L.Pt)):Nat->Prop:=fun _=>True
def Vf (c:(Nat->L.Sq L.Pt)):Nat->Nat:=fun _=>(Cy c 2).n
def Vg (c:(Nat->L.Sq L.Pt)):Nat->Nat->List SV:=fun _ k=>[.int .i64 (((Cy c 2).g k).x),.int .i64 (((Cy c 2).g k).y)]
def Vh:List EV->Option (Prop×(Nat->Prop)×(Nat->Nat)×(Nat->Nat->List SV))
 |[.p (.sl 1 2 c_g)]=>some ((Jh (c_g 0)/\Jh (c_g 1))/\Vd (FH (DX (c_g 0)) (DX (c_g 1))),Ve (FH (DX (c_g 0)) (DX (c_g 1))),Vf (FH (DX (c_g 0)) (DX (c_g 1))),Vg (FH (DX (c_g 0)) (DX (c_g 1))))
 |_=>none
abbrev Vi:SE.Spec:=(Gw Nat 0 66 2 Vh)
def sS:Ak:={ cC with muts:=[24],specs:=AB [(161,Vc)],raws:=[161] }
theorem sT (c:(Nat->L.Sq L.Pt)) (hp:Vd c):vc Tryz.prog ({ sS with loops:=AV [(3,{ T:=Nat,keep:=[0,9,10],keepO:=[],chg:=fun i=>[(3,.p (.int .i64 ((Cy c i).n:Int))),(11,.p (.int .i64 (i:Int)))],own:=fun _=>[],inv:=fun i=>i<=2,mu:=fun i=>2-i }),(11,{ T:=Nat,keep:=[0,6,25,26],keepO:=[],chg:=fun i=>[(27,.p (.int .i64 (i:Int)))],own:=fun i=>[(24,.row 66 2 (Cy c i).n (fun k=>[.int .i64 (((Cy c i).g k).x),.int .i64 (((Cy c i).g k).y)]))],inv:=fun i=>i<=2,mu:=fun i=>2-i })],rfs:=AT [] }) (Ah Tryz.f140) (Ap Tryz.f140 [.p (.sl 1 2 (fun i=>[.sl 2 (c i).n (fun k=>[.int .i64 ((c i).g k).x,.int .i64 ((c i).g k).y])]))]) (Fv Tryz.prog Tryz.f140 (Nat) (Ve c) 66 2 (Vf c) (Vg c)):=
 @Eq.mpr _ (let I:=SV.int .i64;let T:=Af1;let A11:=(1:Int);let A10:=(0:Int);let A5:=(2:Nat);let A13:=(Cy c A5);let A2:=(↑(nat_lit 2):Int);(∃(g:Nat),A10=(↑(Cy c g).n:Int)/\A10=(↑g:Int)/\g<=A5)/\∀(g:Nat),let A8:=(↑g:Int);let A15:=(↑(c (T A8)).n:Int);let A7:=(↑(Cy c g).n:Int);let A1:=(nat_lit 2=nat_lit 2/\∀(i:Nat),let A6:=[SV.sl A5 (c i).n fun(k:Nat)=>[I ((c i).g k).x,I ((c i).g k).y]];i<nat_lit 2->A6=A6);g<=A5->(decide (A8<A2)=true->(A10<=A8/\A8<A2)/\Ad .i64 (A7+A15)/\(false=true->False)/\(false=false->Ad .i64 (A8+A11)/\∃(g':Nat),A7+A15=(↑(Cy c g').n:Int)/\A8+A11=(↑g':Int)/\A2=A2/\A1/\A1/\g'<=A5/\A5-g'<A5-g))/\(decide (A8<A2)=false->(A11<=A7/\A7<=(2000000:Int))/\∀(t:Nat),True->(∃(g:Nat),let A14:=(Cy c g);A10=(↑g:Int)/\((0:Nat)=A14.n/\∀(i:Nat),i<(0:Nat) -> []= [I (A14.g i).x,I (A14.g i).y])/\g<=A5)/\∀(g_1:Nat),let A4:=(↑g_1:Int);let A9:=(c (T A4));let A3:=(Cy c g_1);g_1<=A5->(decide (A4<A2)=true->(A10<=A4/\A4<A2)/\(A3.n+A9.n)*nat_lit 16<=(140737488355328:Nat)/\Ad .i64 (A4+A11)/\∃(g':Nat),let A12:=(Cy c g');A4+A11=(↑g':Int)/\A2=A2/\A1/\A1/\(A3.n+A9.n=A12.n/\∀(i:Nat),i<A3.n+A9.n->AU A3.n (fun(k:Nat)=>[I (A3.g k).x,I (A3.g k).y]) (fun(k:Nat)=>[I (A9.g k).x,I (A9.g k).y]) i = [I (A12.g i).x,I (A12.g i).y])/\g'<=A5/\A5-g'<A5-g_1)/\(decide (A4<A2)=false->∃(t:Nat),(A3.n=A13.n/\∀(i:Nat),i<A3.n -> [I (A3.g i).x,I (A3.g i).y]= [I (A13.g i).x,I (A13.g i).y])/\True))) (by kernel_rfl) (by
 conv=>zeta
 obtain⟨h1,h2,h3⟩:=hp;have hc:∀i,i<2->(c i).n<=1000000:=fun i hi=>by
  match i,hi with
  |0,_=>exact h2
  |1,_=>exact h3
 have e1:(Cy c 1).n=0+(c 0).n:=rfl;have e2:(Cy c 2).n=0+(c 0).n+(c 1).n:=rfl;have ht:∀i,i<=2->(Cy c i).n<=2000000:=fun i hi=>by
  match i,hi with
  |0,_=>exact Afg _
  |1,_=>omega
  |2,_=>omega
 refine⟨⟨(0:Nat),rfl,rfl,Afg _⟩,fun g hg=>⟨fun hlt=>?_,fun hge=>?_⟩⟩
 ·have hb:(g:Int)<2:=of_decide_eq_true hlt;have e0:((g:Int)).toNat=g:=by omega
  have hcg:=hc g (by omega);have htg:=ht g hg;rw[e0];exact⟨⟨by omega,hb⟩,jK,fun h=>Bool.false_ne_true h,fun _=>⟨jK,g+1,by show((Cy c g).n:Int)+((c g).n:Int)=(((Cy c g).n+(c g).n:Nat):Int);omega,by omega,rfl,⟨rfl,fun _ _=>rfl⟩,⟨rfl,fun _ _=>rfl⟩,by omega,by omega⟩⟩
 ·have hb:¬ (g:Int)<2:=of_decide_eq_false hge;obtain rfl:g=2:=by omega
  refine⟨⟨by omega,by omega⟩,fun _ _=>⟨⟨(0:Nat),rfl,⟨rfl,fun i hi=>absurd hi (Rc _)⟩,Afg _⟩,fun k hk=>⟨fun hlt=>?_,fun hge=>?_⟩⟩⟩
  ·have hb:(k:Int)<2:=of_decide_eq_true hlt;have e0:((k:Int)).toNat=k:=by omega
   have hck:=hc k (by omega);have htk:=ht k hk;rw[e0];refine⟨⟨by omega,hb⟩,show((Cy c k).n+(c k).n)*16<=140737488355328 by omega,jK,k+1,by omega,rfl,⟨rfl,fun _ _=>rfl⟩,⟨rfl,fun _ _=>rfl⟩,⟨rfl,fun i hi=>?_⟩,by omega,by omega⟩;unfold AU
   by_cases h:i<(Cy c k).n
   ·have w : (Cy c (k+1)).g i = (Cy c k).g i :=by
     show(bif decide (i<(Cy c k).n)then _ else _)=_;rw[decide_eq_true h];rfl
    rw[if_pos h,w]
   ·have w : (Cy c (k+1)).g i = (c k).g (i-(Cy c k).n):=by
     show(bif decide (i<(Cy c k).n)then _ else _)=_;rw[decide_eq_false h];rfl
    rw[if_neg h,w]
  ·have hb:¬ (k:Int)<2:=of_decide_eq_false hge;obtain rfl:k=2:=by omega
   exact⟨(0:Nat),⟨rfl,fun _ _=>rfl⟩,trivial⟩)
theorem sU:Av Tryz.prog 140 Vi:=GK Tryz.func140 (c:=Ah Tryz.f140) (by kernel_rfl) mixed (fun args p q n g hs hp=>by
 unfold Vh at hs;split at hs
 ·cases hs;exact⟨_,_,sT _ hp.2,(.p (sK hp.1) .nil),⟨show Aa Tryz.prog _ from(Aa.cons sQ sR Aa.nil),rfl,⟨show Ag Tryz.prog _ from Ag.nil,(Aw.none (fun _=>rfl))⟩⟩⟩
 ·cases hs)
theorem sV:Ao Tryz.prog 140:=fun args w=>by kernel_rfl
abbrev Ki:Tr:={ T:=(L.Sq L.Pt),U:=Nat,args:=fun t=>(fun l=>[.row 1005]) t,own:=fun t=>(fun l=>[(1005,.row 66 2 l.n (fun k=>[.int .i64 ((l.g k).x),.int .i64 ((l.g k).y)]))]) t,pre:=fun t=>(fun l=>l.n<=1000000) t,post:=fun t u=>(fun l=>fun u=>True) t u,own':=fun t u=>(fun l=>fun u=>[(1005,.row 66 2 l.n (fun k=>[.int .i64 ((l.g (l.n-1-k)).x),.int .i64 ((l.g (l.n-1-k)).y)]))]) t u,res:=fun t u=>(fun l=>fun u=>.p (.tup [])) t u }
theorem sW (l:L.Sq L.Pt) (hp:Ki.pre l):vc Tryz.prog ({ muts:=[],frz:=B2 [],specs:=AB [],loops:=AV [(1,{ T:=Nat,keep:=[0],keepO:=[],chg:=fun i=>[(2,.p (.int .i64 (i:Int))),(3,.p (.int .i64 ((l.n:Int)-1-(i:Int))))],own:=fun i=>[(1005,.row 66 2 l.n (fun k=>[.int .i64 ((Dx l i k).x),.int .i64 ((Dx l i k).y)]))],inv:=fun i=>2*i<=l.n,mu:=fun i=>l.n-i })],iters:=Bw [],rfs:=AT [],nils:=B3 [] }) (Ah Tryz.f139) (D7 Tryz.f139 (Ki.args l) (Ki.own l)) (Pn Tryz.prog Tryz.f139 Ki l):=
 @Eq.mpr _ (let I:=SV.int .i64;let T:=Af1;let A3:=(1:Int);let A1:=(↑l.n:Int);Ad .i64 (A1-A3)/\(∃(g:Nat),(0:Int)=(↑g:Int)/\A1-A3=A1-A3-(↑g:Int)/\(l.n=l.n/\∀(i:Nat),i<l.n -> [I (l.g i).x,I (l.g i).y]= [I (Dx l g i).x,I (Dx l g i).y])/\(2:Nat)*g<=l.n)/\∀(g:Nat),let A2:=(↑g:Int);let A7:=((0:Int)<=A2/\A2<A1);let A5:=((0:Int)<=A1-A3-A2/\A1-A3-A2<A1);let A4:=(A1-A3-A2);(2:Nat)*g<=l.n->(decide (A2<A1-A3-A2)=true->A5/\T A4<l.n/\A7/\T A2<l.n/\A7/\T A2<l.n/\A5/\T A4<l.n/\Ad .i64 (A2+A3)/\Ad .i64 (A1-A3-A2-A3)/\∃(g':Nat),A2+A3=(↑g':Int)/\A1-A3-A2-A3=A1-A3-(↑g':Int)/\(l.n=l.n/\∀(i:Nat),i<l.n->setRow (setRow (fun(k:Nat)=>[I (Dx l g k).x,I (Dx l g k).y]) (T A2) (nat_lit 0) [I (Dx l g (T A4)).x,I (Dx l g (T A4)).y]) (T A4) (nat_lit 0) [I (Dx l g (T A2)).x,I (Dx l g (T A2)).y] i = [I (Dx l g' i).x,I (Dx l g' i).y])/\(2:Nat)*g'<=l.n/\l.n-g'<l.n-g)/\(decide (A2<A1-A3-A2)=false->∃(u:Nat),(l.n=l.n/\∀(i:Nat),let A6:=(l.g (l.n-(1:Nat)-i));i<l.n -> [I (Dx l g i).x,I (Dx l g i).y]= [I A6.x,I A6.y])/\True)) (by kernel_rfl) (by
 conv=>zeta
 have hn:l.n<=1000000:=hp;refine⟨jK,⟨(0:Nat),rfl,by omega,⟨rfl,fun i hi=>?_⟩,Afg _⟩,fun g hg=>⟨fun hlt=>?_,fun hge=>?_⟩⟩
 ·have hi:i<l.n:=hi;have w:Dx l 0 i=l.g i:=by unfold Dx;rw[decide_eq_false (Rc _),decide_eq_false (by omega)];rfl
  rw[w]
 ·have hb:(g:Int)<(l.n:Int)-1-(g:Int):=of_decide_eq_true hlt;have e0:((g:Int)).toNat=g:=by omega
  have e1:((l.n:Int)-1-(g:Int)).toNat=l.n-1-g:=by omega
  rw[e0,e1];refine⟨⟨by omega,by omega⟩,by omega,⟨by omega,by omega⟩,by omega,⟨by omega,by omega⟩,by omega,⟨by omega,by omega⟩,by omega,jK,jK,g+1,by omega,by omega,⟨rfl,fun i hi=>?_⟩,by omega,by omega⟩;have hi:i<l.n:=hi;have r0:∀k,¬ k<g->¬ l.n<=k+g->Dx l g k=l.g k:=fun k h1 h2=>by
   unfold Dx;rw[decide_eq_false h1,decide_eq_false h2];rfl
  have r1:∀j k,k<j\/l.n<=k+j->Dx l j k=l.g (l.n-1-k):=fun j k h=>by
   unfold Dx;rcases h with h|h
   ·rw[decide_eq_true h];rfl
   ·rw[decide_eq_true h,Bool.or_true];rfl
  unfold setRow
  by_cases c1:i=l.n-1-g
  ·subst c1;rw[if_pos rfl,r0 g (by omega) (by omega),r1 (g+1) _ (.inr (by omega)),show l.n-1-(l.n-1-g)=g by omega];rw[if_neg (show ¬ (l.n-1-g=g)by omega)];rfl
  ·rw[if_neg c1]
   by_cases c2:i=g
   ·subst c2;rw[if_pos rfl,r0 (l.n-1-i) (by omega) (by omega),r1 (i+1) i (.inl (by omega))];rfl
   ·rw[if_neg c2];dsimp only
    by_cases c3:i<g\/l.n<=i+g
    ·rw[r1 g i c3,r1 (g+1) i (by omega)]
    ·rw[r0 i (by omega) (by omega)];have:Dx l (g+1) i=l.g i:=by
      unfold Dx;rw[decide_eq_false (by omega),decide_eq_false (by omega)];rfl
     rw[this]
 ·have hb:¬ (g:Int)<(l.n:Int)-1-(g:Int):=of_decide_eq_false hge;refine⟨(0:Nat),⟨rfl,fun i hi=>?_⟩,trivial⟩;have hi:i<l.n:=hi;have w:Dx l g i=l.g (l.n-1-i):=by
   unfold Dx
   by_cases c1:i<g
   ·rw[decide_eq_true c1];rfl
   ·by_cases c2:l.n<=i+g
    ·rw[decide_eq_true c2,Bool.or_true];rfl
    ·rw[decide_eq_false c1,decide_eq_false c2,show l.n-1-i=i by omega];rfl
  rw[w])
theorem sX:Ao Tryz.prog 139:=fun args w=>by kernel_rfl
theorem sY:Gn Tryz.prog 139 Ki:=T0 (ks:=[1005]) (n:=1) Tryz.func139 (c:=Ah Tryz.f139) (by kernel_rfl) mixed ⟨fun t=>rfl,fun t=>rfl,fun t u=>rfl,fun t u=>rfl,fun t u=>rfl,by kernel_rfl⟩ (fun l hp=>⟨_,sW l hp,⟨show Aa Tryz.prog _ from Aa.nil,rfl,⟨show Ag Tryz.prog _ from Ag.nil,(Aw.none (fun _=>rfl))⟩⟩⟩)
def Vj (l:(L.Sq L.Pt)) (v:L.Pt):Prop:=l.n<=1000000
def Vk (l:(L.Sq L.Pt)) (v:L.Pt):SV:=.int .i64 (CE l v)
def Vl:List EV->Option (Prop×SV)
 |[.p (.sl 2 l_n l_g),.p (.agg [.int .i64 v_x,.int .i64 v_y])]=>some ((∀i,i<l_n->l_g i = [.int .i64 ((An (l_g i)).x),.int .i64 ((An (l_g i)).y)])/\Vj (⟨l_n,fun i=>An (l_g i)⟩:(L.Sq L.Pt)) (⟨v_x,v_y⟩:L.Pt),Vk (⟨l_n,fun i=>An (l_g i)⟩:(L.Sq L.Pt)) (⟨v_x,v_y⟩:L.Pt))
 |_=>none
abbrev Vm:SE.Spec:=(AK Vl)
def sZ:Ak:={ muts:=[],frz:=B2 [],specs:=AB [],loops:=fun _=>none,iters:=Bw [],rfs:=AT [],nils:=B3 [] }
theorem tC (l:(L.Sq L.Pt)) (v:L.Pt) (hp:Vj l v):vc Tryz.prog ({ sZ with loops:=AV [(2,{ T:=Nat,keep:=[0,3,6,7],keepO:=[],chg:=fun i=>[(8,.p (.int .i64 i))],own:=fun _=>[],inv:=fun i=>i<=l.n/\(∀j,j<i->C3 v (l.g j)=false),mu:=fun i=>l.n-i })],rfs:=AT [] }) (Ah Tryz.f108) (Ap Tryz.f108 [.p (.sl 2 l.n (fun i=>[.int .i64 ((l.g i).x),.int .i64 ((l.g i).y)])),.p (.agg [.int .i64 v.x,.int .i64 v.y])]) (AJ Tryz.prog Tryz.f108 (Vk l v)):=
 @Eq.mpr _ (let I:=SV.int .i64;let T:=Af1;let A4:=(↑l.n:Int);let A2:=(l.n=l.n/\∀(i:Nat),let A5:=[I (l.g i).x,I (l.g i).y];i<l.n->A5=A5);(∃(g:Nat),(0:Int)=(↑g:Int)/\g<=l.n/\∀(j:Nat),j<g->C3 v (l.g j)=false)/\∀(g:Nat),let A3:=(↑g:Int);let A1:=(decide (v.x=(l.g (T A3)).x)&&decide (v.y=(l.g (T A3)).y));(g<=l.n/\∀(j:Nat),j<g->C3 v (l.g j)=false)->(decide (A3<A4)=true->((0:Int)<=A3/\A3<A4)/\(A1=true->A3=CE l v)/\(A1=false->Ad .i64 (A3+(1:Int))/\∃(g':Nat),A3+(1:Int)=(↑g':Int)/\A4=A4/\A2/\SV.ref [I v.x,I v.y] (nat_lit 0)=SV.ref [I v.x,I v.y] (nat_lit 0)/\A2/\(g'<=l.n/\∀(j:Nat),j<g'->C3 v (l.g j)=false)/\l.n-g'<l.n-g))/\(decide (A3<A4)=false->(-1:Int)=CE l v)) (by kernel_rfl) (by
 conv=>zeta
 have hn:l.n<=1000000:=hp;refine⟨⟨(0:Nat),rfl,Afg _,fun j hj=>absurd hj (Rc _)⟩,fun g hg=>⟨fun hlt=>?_,fun hge=>?_⟩⟩
 ·have hb:(g:Int)<(l.n:Int):=of_decide_eq_true hlt;have e0:((g:Int)).toNat=g:=by omega
  rw[e0];refine⟨⟨by omega,hb⟩,fun h=>?_,fun h=>?_⟩
  ·have h:C3 v (l.g g)=true:=h;exact(Kb (f:=fun i=>C3 v (l.g i)) hg.2 h (by omega)).symm
  ·have h:C3 v (l.g g)=false:=h;exact⟨jK,g+1,by omega,rfl,⟨rfl,fun _ _=>rfl⟩,rfl,⟨rfl,fun _ _=>rfl⟩,⟨by omega,fun j hj=>by
    rcases Aft.1 hj with h'|rfl
    ·exact hg.2 j h'
    ·exact h⟩,by omega⟩
 ·have hb:¬ (g:Int)<(l.n:Int):=of_decide_eq_false hge;exact(Jf (f:=fun i=>C3 v (l.g i)) (fun j hj=>hg.2 j (by omega))).symm)
theorem tD:Av Tryz.prog 108 Vm:=AM Tryz.func108 (c:=Ah Tryz.f108) (by kernel_rfl) mixed (fun args p r hs hp=>by
 unfold Vl at hs;split at hs
 ·cases hs;exact⟨_,_,tC _ _ hp.2,(.p (.sl hp.1) (.same _ .nil)),⟨show Aa Tryz.prog _ from Aa.nil,rfl,⟨show Ag Tryz.prog _ from Ag.nil,(Aw.none (fun _=>rfl))⟩⟩⟩
 ·cases hs)
theorem tE:Ao Tryz.prog 108:=fun args w=>by kernel_rfl
end
section
set_option maxRecDepth 100000
set_option maxHeartbeats 4000000
set_option linter.unusedVariables false
attribute [local irreducible] vc
instance:Inhabited L.Pt:=⟨⟨0,0⟩⟩
def E1 (a b:L.Pt):Prop:=C9 a b<=0
theorem Nn {a b:L.Pt}:C9 a b<=0↔a.x<b.x\/(a.x=b.x/\a.y<=b.y):=by
 unfold C9 HG Br
 by_cases h1:a.x<b.x
 ·simp[h1]
 ·by_cases h2:b.x<a.x
  ·simp[h1,h2];omega
  ·by_cases h3:a.y<b.y
   ·simp[h1,h2,h3];omega
   ·by_cases h4:b.y<a.y
    ·simp[h1,h2,h3,h4];try omega
    ·simp[h1,h2,h3,h4];try omega
theorem tF:Go.Sort.SWO (Go.Proofs.ltOf C9):=by
 have k:∀x y,Go.Proofs.ltOf C9 x y=true↔(x.x<y.x\/(x.x=y.x/\x.y<y.y)):=fun x y=>by
  unfold Go.Proofs.ltOf;rw[decide_eq_true_iff];exact UW
 have kf:∀x y,Go.Proofs.ltOf C9 x y=false↔¬ (x.x<y.x\/(x.x=y.x/\x.y<y.y)):=fun x y=>by
  rw[<- k,Bool.not_eq_true]
 refine⟨fun x=>?_,fun x y z=>?_,fun x y z=>?_⟩
 ·rw[kf];omega
 ·simp only[k];omega
 ·simp only[kf];omega
def Kj (p:L.Pt):List L.Pt->List L.Pt
 |[]=>[p]
 |q::r=>bif decide (C9 p q<=0)then p::q::r else q::Kj p r
def HI:List L.Pt->List L.Pt
 |[]=>[]
 |p::r=>Kj p (HI r)
def Ip (l:L.Sq L.Pt):List L.Pt:=(List.range l.n).map l.g
def B0 (l:L.Sq L.Pt):L.Sq L.Pt:=⟨l.n,fun k=>(HI (Ip l)).getD k ⟨0,0⟩⟩
theorem Vn (a b:L.Pt):E1 a b\/E1 b a:=by unfold E1;simp only[Nn];omega
theorem tG {a b c:L.Pt} (h:E1 a b) (k:E1 b c):E1 a c:=by unfold E1 at *;simp only[Nn]at *;omega
theorem tH {a b:L.Pt} (h:E1 a b) (k:E1 b a):a=b:=by
 unfold E1 at *;simp only[Nn]at *;obtain⟨ax,ay⟩:=a;obtain⟨bx,by'⟩:=b;simp only at h k;obtain rfl:ax=bx:=by omega
 obtain rfl:ay=by':=by omega
 rfl
theorem PD (p:L.Pt):∀l,(Kj p l).Perm (p::l)
 |[]=>.refl _
 |q::r=>by
   unfold Kj;cases decide (C9 p q<=0)with
   |true=>exact .refl _
   |false=>exact((PD p r).cons q).trans (.swap p q r)
theorem No:∀l,(HI l).Perm l
 |[]=>.refl _
 |p::r=>(PD p _).trans ((No r).cons p)
theorem Vo {p:L.Pt}:∀{l},l.Pairwise E1->(Kj p l).Pairwise E1
 |[],_=>List.pairwise_singleton _ _
 |q::r,h=>by
   obtain⟨h1,h2⟩:=Agd.1 h;unfold Kj;cases hd:decide (C9 p q<=0)with
   |true =>
     have hd:E1 p q:=of_decide_eq_true (p:=C9 p q<=0) hd;exact Agd.2 ⟨fun x hx=>by
      rcases Afk.1 hx with rfl|hx
      ·exact hd
      ·exact tG hd (h1 x hx),h⟩
   |false =>
     have hd:¬ E1 p q:=of_decide_eq_false (p:=C9 p q<=0) hd;have hqp:E1 q p:=(Vn p q).resolve_left hd;exact Agd.2 ⟨fun x hx=>by
      rcases Afk.1 ((PD p r).mem_iff.1 hx)with rfl|hx
      ·exact hqp
      ·exact h1 x hx,Vo h2⟩
theorem Vp:∀l,(HI l).Pairwise E1
 |[]=>.nil
 |p::r=>Vo (Vp r)
theorem tI {l:L.Sq L.Pt} {u:Nat->L.Pt} (h:Dw C9 l.n l.g u):∀k,k<l.n->(B0 l).g k=u k:=fun k hk=>by
 have e:(List.range l.n).map u=HI (Ip l):=by
  refine List.Perm.eq_of_pairwise (le:=E1) (fun a b _ _=>tH) ?_ (Vp _) (h.perm.trans (No _).symm);rw[List.pairwise_iff_getElem];intro i j hi hj hij;simp only[List.getElem_map,List.getElem_range];have hj:j<l.n:=by simpa using hj
  have:=h.asc i j hij hj;rcases Vn (u i) (u j)with h1|h1
  ·exact h1
  ·unfold E1 at *;simp only[Nn,UW]at *;omega
 show(HI (Ip l)).getD k ⟨0,0⟩=u k;rw[<- e];simp[AS,hk]
theorem PE (l:L.Sq L.Pt) {k:Nat} (hk:k<l.n):∃i,i<l.n/\(B0 l).g k=l.g i:=by
 have hl:(HI (Ip l)).length=l.n:=by rw[(No _).length_eq];simp[Ip]
 have hm:(HI (Ip l)).getD k ⟨0,0⟩∈HI (Ip l):=by
  rw[AS,oE (by rw[hl];exact hk)];exact Af3 _
 have hm:=(No _).mem_iff.1 hm;unfold Ip at hm;obtain⟨i,hi,e⟩:=List.mem_map.1 hm;exact⟨i,List.mem_range.1 hi,e.symm⟩
def Vq (p:L.Pt):List Int:=[p.x,p.y]
def tJ:Go.Shelf.Ren:=⟨fun|6=>159|15=>142|14=>185|28=>170|29=>171|20=>194|21=>195|22=>196|23=>197|24=>198|25=>199|26=>200|27=>201|46=>204|47=>187|48=>188|49=>205|50=>206|57=>207|n=>n,fun|22=>52|24=>66|25=>158|3=>3|39=>199|0=>0|53=>227|55=>229|4=>4|46=>220|45=>219|50=>224|5=>5|9=>9|66=>240|70=>244|76=>253|77=>254|n=>n,fun|n=>n⟩
theorem tK:Go.Proofs.SlLaysF0.n6 Tryz.prog tJ:={
 mixed:=by kernel_rfl
 f6:=⟨Tryz.f159.name,by decide,Tryz.func159.trans (congrArg some (by kernel_rfl))⟩
 f14:=⟨Tryz.f185.name,by decide,Tryz.func185.trans (congrArg some (by kernel_rfl))⟩
 f15:=Tryz.func142.trans (congrArg some (by kernel_rfl))
 f20:=⟨Tryz.f194.name,by decide,Tryz.func194.trans (congrArg some (by kernel_rfl))⟩
 f21:=⟨Tryz.f195.name,by decide,Tryz.func195.trans (congrArg some (by kernel_rfl))⟩
 f22:=⟨Tryz.f196.name,by decide,Tryz.func196.trans (congrArg some (by kernel_rfl))⟩
 f23:=⟨Tryz.f197.name,by decide,Tryz.func197.trans (congrArg some (by kernel_rfl))⟩
 f24:=⟨Tryz.f198.name,by decide,Tryz.func198.trans (congrArg some (by kernel_rfl))⟩
 f25:=⟨Tryz.f199.name,by decide,Tryz.func199.trans (congrArg some (by kernel_rfl))⟩
 f26:=⟨Tryz.f200.name,by decide,Tryz.func200.trans (congrArg some (by kernel_rfl))⟩
 f27:=⟨Tryz.f201.name,by decide,Tryz.func201.trans (congrArg some (by kernel_rfl))⟩
 f28:=Tryz.func170.trans (congrArg some (by kernel_rfl))
 f29:=Tryz.func171.trans (congrArg some (by kernel_rfl))
 f46:=⟨Tryz.f204.name,by decide,Tryz.func204.trans (congrArg some (by kernel_rfl))⟩
 f47:=Tryz.func187.trans (congrArg some (by kernel_rfl))
 f48:=Tryz.func188.trans (congrArg some (by kernel_rfl))
 f49:=⟨Tryz.f205.name,by decide,Tryz.func205.trans (congrArg some (by kernel_rfl))⟩
 f50:=⟨Tryz.f206.name,by decide,Tryz.func206.trans (congrArg some (by kernel_rfl))⟩
 f57:=⟨Tryz.f207.name,by decide,Tryz.func207.trans (congrArg some (by kernel_rfl))⟩
 t0:=Tryz.underlying0
 a0:=Tryz.isAgg0
 z0:=Tryz.sizeOf0
 v0:=Tryz.zeroValue0
 t3:=Tryz.underlying3
 a3:=Tryz.isAgg3
 z3:=Tryz.sizeOf3
 v3:=Tryz.zeroValue3
 t4:=Tryz.underlying4
 a4:=Tryz.isAgg4
 z4:=Tryz.sizeOf4
 v4:=Tryz.zeroValue4
 t5:=Tryz.underlying5
 a5:=Tryz.isAgg5
 z5:=Tryz.sizeOf5
 v5:=Tryz.zeroValue5
 t9:=Tryz.underlying9
 a9:=Tryz.isAgg9
 z9:=Tryz.sizeOf9
 v9:=Tryz.zeroValue9
 t22:=Tryz.underlying52
 a22:=Tryz.isAgg52
 z22:=Tryz.sizeOf52
 v22:=Tryz.zeroValue52
 t25:=Tryz.underlying158
 a25:=Tryz.isAgg158
 z25:=Tryz.sizeOf158
 v25:=Tryz.zeroValue158
 t39:=Tryz.underlying199
 a39:=Tryz.isAgg199
 z39:=Tryz.sizeOf199
 v39:=Tryz.zeroValue199
 t45:=Tryz.underlying219
 a45:=Tryz.isAgg219
 z45:=Tryz.sizeOf219
 v45:=Tryz.zeroValue219
 t46:=Tryz.underlying220
 a46:=Tryz.isAgg220
 z46:=Tryz.sizeOf220
 v46:=Tryz.zeroValue220
 t50:=Tryz.underlying224
 a50:=Tryz.isAgg224
 z50:=Tryz.sizeOf224
 v50:=Tryz.zeroValue224
 t53:=Tryz.underlying227
 a53:=Tryz.isAgg227
 z53:=Tryz.sizeOf227
 v53:=Tryz.zeroValue227
 t55:=Tryz.underlying229
 a55:=Tryz.isAgg229
 z55:=Tryz.sizeOf229
 v55:=Tryz.zeroValue229
 t66:=Tryz.underlying240
 a66:=Tryz.isAgg240
 z66:=Tryz.sizeOf240
 v66:=Tryz.zeroValue240
 t70:=Tryz.underlying244
 a70:=Tryz.isAgg244
 z70:=Tryz.sizeOf244
 v70:=Tryz.zeroValue244
 t76:=Tryz.underlying253
 a76:=Tryz.isAgg253
 z76:=Tryz.sizeOf253
 v76:=Tryz.zeroValue253
 t77:=Tryz.underlying254
 a77:=Tryz.isAgg254
 z77:=Tryz.sizeOf254
 v77:=Tryz.zeroValue254 }
abbrev Vr:Tr:=Nd 66 2 104 1005 Vq C9
theorem tL:Gn Tryz.prog 159 Vr:=Pr (enc:=Vq) tK (by decide) (fun w=>Tryz.isAgg66 w) (fun w=>Tryz.sizeOf66 w) (fun _=>rfl) tF P5 P6 (fun x y=>show Fw P3 [.p (.agg [.int .i64 x.x,.int .i64 x.y]),.p (.agg [.int .i64 y.x,.int .i64 y.y])]from trivial) (fun x y=>rfl) _ _
theorem tM:Ao Tryz.prog 159:=fun args w=>by kernel_rfl
def Dy (p:L.Pt):List L.Pt->List L.Pt
 |[]=>[]
 |[a]=>[a]
 |b::a::r=>bif decide (B4 a b p<=0)then Dy p (a::r)else b::a::r
def BW (l:L.Sq L.Pt):Nat->List L.Pt
 |0=>[]
 |k+1=>l.g k::Dy (l.g k) (BW l k)
def BR (st:List L.Pt):Nat:=st.length
def GO (q:L.Pt) (st:List L.Pt):Prop:=q∈st
def Cb (st:List L.Pt) (k:Nat):L.Pt:=st.getD (st.length-1-k) ⟨0,0⟩
def B1 (l:L.Sq L.Pt):L.Sq L.Pt:=⟨(BW l l.n).length-1,fun k=>Cb (BW l l.n) k⟩
theorem Vs {p q:L.Pt}:∀{st:List L.Pt},q∈Dy p st->q∈st
 |[],h=>h
 |[a],h=>h
 |b::a::r,h=>by
   unfold Dy at h;cases hd:decide (B4 a b p<=0)with
   |true=>rw[hd]at h;exact Afn _ (Vs (st:=a::r) h)
   |false=>rw[hd]at h;exact h
theorem Vt {p:L.Pt}:∀{st:List L.Pt},(Dy p st).length<=st.length
 |[]=>Afo _
 |[a]=>Afo _
 |b::a::r=>by
   unfold Dy;cases decide (B4 a b p<=0)with
   |true=>exact Nat.le_trans (Vt (st:=a::r)) (Nat.le_succ _)
   |false=>exact Afo _
theorem Vu {p:L.Pt}:∀{st:List L.Pt},1<=st.length->1<=(Dy p st).length
 |[],h=>h
 |[a],h=>h
 |b::a::r,h=>by
   unfold Dy;cases decide (B4 a b p<=0)with
   |true=>exact Vu (st:=a::r) (AgI (Afg _))
   |false=>exact h
theorem tN {l:L.Sq L.Pt} (h:2<=l.n):1<=(BW l l.n).length-1:=by
 match hh:l.n,h with
 |m+2,_ =>
   have:=Vu (p:=l.g (m+1)) (st:=BW l (m+1)) (AgI (Afg _));show 1<=(Dy (l.g (m+1)) (BW l (m+1))).length+1-1;omega
theorem PF {l:L.Sq L.Pt} {q:L.Pt}:∀{k},q∈BW l k->∃i,i<k/\q=l.g i
 |0,h=>nomatch h
 |k+1,h=>by
   rcases Afk.1 h with rfl|h
   ·exact⟨k,Nat.lt_succ_self _,rfl⟩
   ·obtain⟨i,hi,e⟩:=PF (Vs h);exact⟨i,Nat.lt_succ_of_lt hi,e⟩
theorem L6 (l:L.Sq L.Pt):∀k,(BW l k).length<=k
 |0=>Afo _
 |k+1=>AgI (Nat.le_trans Vt (L6 l k))
theorem Vv {st:List L.Pt} {k:Nat} (h:k<st.length):Cb st k∈st:=by
 unfold Cb;rw[AS,oE (by omega)];exact Af3 _
theorem Np {a:L.Pt} {r:List L.Pt} {k:Nat} (h:k<r.length):Cb (a::r) k=Cb r k:=by
 unfold Cb;rw[show(a::r).length-1-k=(r.length-1-k)+1 by simp only[AfZ];omega];rfl
theorem L7 {a:L.Pt} {r:List L.Pt}:Cb (a::r) r.length=a:=by
 unfold Cb;rw[show(a::r).length-1-r.length=0 by simp only[AfZ];omega];rfl
def Fz (l:L.Sq L.Pt):L.Sq L.Pt:=⟨l.n,fun k=>l.g (l.n-1-k)⟩
def Ba (l:L.Sq L.Pt):L.Sq L.Pt:=Cy (FH (B1 (B0 l)) (B1 (Fz (B0 l)))) 2
theorem Vw (l:L.Sq L.Pt) {k:Nat} (h:k<(B1 l).n):∃i,i<l.n/\(B1 l).g k=l.g i:=PF (Vv (st:=BW l l.n) (show k<_ by have:k<(BW l l.n).length-1:=h;omega))
theorem tO (l:L.Sq L.Pt) {k:Nat} (h:k<(Ba l).n):∃i,i<l.n/\(Ba l).g k=l.g i:=by
 have a1:∀k,k<(B1 (B0 l)).n->∃i,i<l.n/\(B1 (B0 l)).g k=l.g i:=fun k hk=>by
  obtain⟨i,hi,e⟩:=Vw _ hk;obtain⟨j,hj,e2⟩:=PE l hi;exact⟨j,hj,e.trans e2⟩
 have a2:∀k,k<(B1 (Fz (B0 l))).n->∃i,i<l.n/\(B1 (Fz (B0 l))).g k=l.g i:=fun k hk=>by
  obtain⟨i,hi,e⟩:=Vw _ hk;have hi:i<l.n:=hi;obtain⟨j,hj,e2⟩:=PE l (k:=l.n-1-i) (by omega);exact⟨j,hj,e.trans e2⟩
 have h:k<0+(B1 (B0 l)).n+(B1 (Fz (B0 l))).n:=h;have e:(Ba l).g k=bif decide (k<0+(B1 (B0 l)).n)then(bif decide (k<0)then(⟨0,0⟩:L.Pt)else(B1 (B0 l)).g (k-0))else(B1 (Fz (B0 l))).g (k-(0+(B1 (B0 l)).n)):=rfl;rw[e];cases hd:decide (k<0+(B1 (B0 l)).n)with
 |true=>have:=of_decide_eq_true hd;exact a1 k (by omega)
 |false=>have:=of_decide_eq_false hd;exact a2 _ (by omega)
def Vx (l:(L.Sq L.Pt)):Prop:=l.n<=1000000
def PG (l:(L.Sq L.Pt)):Nat:=l.n
def Vy (l:(L.Sq L.Pt)):Nat->List SV:=fun k=>[(.agg [.int .i64 ((l.g (k:Int).toNat).x),.int .i64 ((l.g (k:Int).toNat).y)])]
def Vz:List SV->Option (Prop×Nat×(Nat->List SV))
 |[.ref [.sl 2 l_n l_g] 0]=>some ((∀i,i<l_n->l_g i = [.int .i64 ((An (l_g i)).x),.int .i64 ((An (l_g i)).y)])/\Vx (⟨l_n,fun i=>An (l_g i)⟩:(L.Sq L.Pt)),PG (⟨l_n,fun i=>An (l_g i)⟩:(L.Sq L.Pt)),Vy (⟨l_n,fun i=>An (l_g i)⟩:(L.Sq L.Pt)))
 |_=>none
abbrev V0:FQ:=JY Vz
def tP:Ak:={ muts:=[],frz:=B2 [],specs:=AB [],loops:=fun _=>none,iters:=Bw [],rfs:=AT [] }
theorem tQ (yl:Nat) (l:(L.Sq L.Pt)) (hp:Vx l):vc Tryz.prog { tP with loops:=AV [(1,{ T:=Nat,keep:=[0,1,5,6],keepO:=[],chg:=fun i=>[(7,.p (.int .i64 (i:Int)))],own:=fun _=>[],inv:=fun i=>i<=l.n,mu:=fun i=>l.n-i,yk:=some (fun i=>i) })],yld:=some ⟨yl,PG l,Vy l⟩ } (Ah Tryz.f160) (Ap Tryz.f160 (.yield yl::([.ref [.sl 2 l.n (fun i=>[.int .i64 ((l.g i).x),.int .i64 ((l.g i).y)])] 0]:List SV).map .p)) (JX Tryz.prog Tryz.f160 (PG l)):=
 @Eq.mpr _ (let I:=SV.int .i64;let T:=Af1;let A7:=(1:Int);let A5:=(1:Nat);let A3:=(↑l.n:Int);let A2:=[SV.sl (nat_lit 2) l.n fun(i:Nat)=>[I (l.g i).x,I (l.g i).y]];(∃(g:Nat),nat_lit 0=g/\false=false/\(0:Int)=(↑g:Int)/\g<=l.n)/\∀(g:Nat),let A1:=(↑g:Int);let A4:=[SV.agg [I (l.g (T A1)).x,I (l.g (T A1)).y]];g<=l.n->(decide (A1<A3)=true->((0:Int)<=A1/\A1<A3)/\yl=yl/\g<l.n/\A4=A4/\((false=true->g+A5=l.n\/g+A5=l.n+A5)/\(false=false->Ad .i64 (A1+A7)/\∃(g':Nat),g+A5=g'/\false=false/\A1+A7=(↑g':Int)/\A3=A3/\(l.n=l.n/\∀(i:Nat),let A6:=[I (l.g i).x,I (l.g i).y];i<l.n->A6=A6)/\yl=yl/\SV.ref A2 (nat_lit 0)=SV.ref A2 (nat_lit 0)/\g'<=l.n/\l.n-g'<l.n-g))/\(true=true->l.n+A5=l.n\/l.n+A5=l.n+A5)/\(true=false->Ad .i64 (A1+A7)/\∃(g':Nat),l.n+A5=g'/\false=false/\A1+A7=(↑g':Int)/\A3=A3/\False/\yl=yl/\False/\g'<=l.n/\l.n-g'<l.n-g))/\(decide (A1<A3)=false->g=l.n\/g=l.n+A5)) (by kernel_rfl) (by
 conv=>zeta
 have hn:l.n<=1000000:=hp;refine⟨⟨(0:Nat),rfl,rfl,rfl,Afg _⟩,fun g hg=>⟨fun hlt=>?_,fun hge=>?_⟩⟩
 ·have hb:(g:Int)<(l.n:Int):=of_decide_eq_true hlt;refine⟨⟨by omega,hb⟩,rfl,by omega,rfl,?_⟩;exact⟨⟨fun h=>(by cases h),fun _=>⟨jK,g+1,rfl,rfl,by omega,rfl,⟨rfl,fun _ _=>rfl⟩,rfl,rfl,by omega,by omega⟩⟩,fun _=>.inr rfl,fun h=>(by cases h)⟩
 ·have hb:¬ (g:Int)<(l.n:Int):=of_decide_eq_false hge;exact .inl (by omega))
theorem tR:H7 Tryz.prog 160 V0:=Na Tryz.func160 (c:=Ah Tryz.f160) (by kernel_rfl) mixed (fun caps l p n g hs hp=>by
 unfold Vz at hs;split at hs
 ·cases hs; exact⟨_, _, tQ l _ hp.2, (.cons (AX.ref rfl (fun i hi =>by
  rcases i with _|i
  ·show AX (SV.sl _ _ _) (SV.sl _ _ _);exact(AX.sl hp.1)
  exact absurd hi (by simp;try omega))) .nil),rfl,show Aa Tryz.prog _ from Aa.nil,⟨show Ag Tryz.prog _ from Ag.nil,Aw.none (fun _=>rfl)⟩⟩
 ·cases hs)
theorem tS:Ao Tryz.prog 160:=fun args w=>by kernel_rfl
def V1 (l:(L.Sq L.Pt)):Prop:=l.n<=1000000
def V2 (l:(L.Sq L.Pt)):SV:=.clo 160 [.ref [(.sl 2 l.n (fun i=>[.int .i64 ((l.g i).x),.int .i64 ((l.g i).y)]))] 0]
def V3:List EV->Option (Prop×SV)
 |[.p (.sl 2 l_n l_g)]=>some ((∀i,i<l_n->l_g i = [.int .i64 ((An (l_g i)).x),.int .i64 ((An (l_g i)).y)])/\V1 (⟨l_n,fun i=>An (l_g i)⟩:(L.Sq L.Pt)),V2 (⟨l_n,fun i=>An (l_g i)⟩:(L.Sq L.Pt)))
 |_=>none
abbrev V4:SE.Spec:=(AK V3)
def tT:Ak:={ muts:=[],frz:=B2 [],specs:=AB [],loops:=AV [],iters:=Bw [],rfs:=AT [],nils:=B3 [] }
theorem tU (l:(L.Sq L.Pt)) (hp:V1 l):vc Tryz.prog (tT) (Ah Tryz.f137) (Ap Tryz.f137 [.p (.sl 2 l.n (fun i=>[.int .i64 ((l.g i).x),.int .i64 ((l.g i).y)]))]) (AJ Tryz.prog Tryz.f137 (V2 l)):=
 @Eq.mpr _ (SV.clo (nat_lit 160) [SV.ref [SV.sl (nat_lit 2) l.n fun(i:Nat)=>[SV.int .i64 (l.g i).x,SV.int .i64 (l.g i).y]] (nat_lit 0)]=SV.clo (nat_lit 160) [SV.ref [SV.sl (nat_lit 2) l.n fun(i:Nat)=>[SV.int .i64 (l.g i).x,SV.int .i64 (l.g i).y]] (nat_lit 0)]) (by kernel_rfl) (by
 rfl)
theorem tV:Av Tryz.prog 137 V4:=AM Tryz.func137 (c:=Ah Tryz.f137) (by kernel_rfl) mixed (fun args p r hs hp=>by
 unfold V3 at hs;split at hs
 ·cases hs;exact⟨_,_,tU _ hp.2,(.p (.sl hp.1) .nil),⟨show Aa Tryz.prog _ from Aa.nil,rfl,⟨show Ag Tryz.prog _ from Ag.nil,(Aw.none (fun _=>rfl))⟩⟩⟩
 ·cases hs)
theorem tW:Ao Tryz.prog 137:=fun args w=>by kernel_rfl
def V5 (s:Nat) (l:(L.Sq L.Pt)):Prop:=l.n<=1000000
def V6 (s:Nat) (l:(L.Sq L.Pt)):Nat->Prop:=fun _=>True
def V7 (s:Nat) (l:(L.Sq L.Pt)):Nat->Nat:=fun _=>l.n
def V8 (s:Nat) (l:(L.Sq L.Pt)):Nat->Nat->List SV:=fun _ k=>[.int .i64 ((l.g k).x),.int .i64 ((l.g k).y)]
def V9:List EV->Option (Prop×(Nat->Prop)×(Nat->Nat)×(Nat->Nat->List SV))
 |[.p (.raw (.slice none 0 0)),.p (.clo 160 [.ref [.sl 2 l_n l_g] 0])]=>some ((∀i,i<l_n->l_g i = [.int .i64 ((An (l_g i)).x),.int .i64 ((An (l_g i)).y)])/\V5 (0:Nat) (⟨l_n,fun i=>An (l_g i)⟩:(L.Sq L.Pt)),V6 (0:Nat) (⟨l_n,fun i=>An (l_g i)⟩:(L.Sq L.Pt)),V7 (0:Nat) (⟨l_n,fun i=>An (l_g i)⟩:(L.Sq L.Pt)),V8 (0:Nat) (⟨l_n,fun i=>An (l_g i)⟩:(L.Sq L.Pt)))
 |_=>none
abbrev VA:SE.Spec:=(Gw Nat 0 66 2 V9)
def tX:Ak:={ cC with muts:=[2,5],iters:=Bw [(160,V0)],nils:=B3 [(1,[(2,10,66,2)])] }
theorem tY (s:Nat) (l:(L.Sq L.Pt)) (hp:V5 s l):vc Tryz.prog ({ tX with loops:=AV [],rfs:=AT [(2,{ T:=Nat,keep:=[2],keepO:=[],own:=fun k _=>[(2,.blk 52 [.row 10]),(10,.row 66 2 k (fun k=>[.int .i64 ((l.g k).x),.int .i64 ((l.g k).y)]))],inv:=fun k _=>k<=l.n })] }) (Ah Tryz.f184) (Ap Tryz.f184 [.p (.raw (.slice none 0 0)),.p (.clo 160 [.ref [.sl 2 l.n (fun i=>[.int .i64 ((l.g i).x),.int .i64 ((l.g i).y)])] 0])]) (Fv Tryz.prog Tryz.f184 (Nat) (V6 s l) 66 2 (V7 s l) (V8 s l)):=
 @Eq.mpr _ (let I:=SV.int .i64;(((∀(i:Nat),let A2:=[I (l.g i).x,I (l.g i).y];i<l.n->A2=A2)/\l.n<=(1000000:Nat))/\∃(t:Nat),(nat_lit 0=(0:Nat)/\∀(i:Nat),i<nat_lit 0 -> []= [I (l.g i).x,I (l.g i).y])/\(0:Nat)<=l.n)/\(∀(k t:Nat) (vk:Nat->Go.Value),let A1:=(l.g (Af1 (↑k:Int)));k<l.n->k<=l.n->(k+nat_lit 1)*nat_lit 16<=(140737488355328:Nat)/\∃(t':Nat),nat_lit 0=nat_lit 0/\vk (nat_lit 2)=vk (nat_lit 2)/\(k+nat_lit 1=k+(1:Nat)/\∀(i:Nat),i<k+nat_lit 1->AU k (fun(k:Nat)=>[I (l.g k).x,I (l.g k).y]) (fun(x:Nat)=>[I A1.x,I A1.y]) i = [I (l.g i).x,I (l.g i).y])/\k+(1:Nat)<=l.n)/\∀(t:Nat),l.n<=l.n->∃(t:Nat),(l.n=l.n/\∀(i:Nat),let A3:=[I (l.g i).x,I (l.g i).y];i<l.n->A3=A3)/\True) (by kernel_rfl) (by
 conv=>zeta
 have hn:l.n<=1000000:=hp;refine⟨⟨⟨fun _ _=>rfl,hn⟩,(0:Nat),⟨rfl,fun i hi=>absurd hi (Rc _)⟩,Afg _⟩,fun k t vk hk hi=>⟨show(k+1)*16<=140737488355328 by omega,(0:Nat),rfl,rfl,⟨rfl,fun i hi=>?_⟩,by omega⟩,fun t hi=>⟨(0:Nat),⟨rfl,fun _ _=>rfl⟩,trivial⟩⟩;have hi:i<k+1:=hi;have e0:((k:Int)).toNat=k:=by omega
 unfold AU
 by_cases h':i<k
 ·rw[if_pos h']
 ·rw[if_neg h'];obtain rfl:i=k:=by omega
  dsimp only;rw[e0])
theorem tZ:Av Tryz.prog 184 VA:=GK Tryz.func184 (c:=Ah Tryz.f184) (by kernel_rfl) mixed (fun args p q n g hs hp=>by
 unfold V9 at hs;split at hs
 ·cases hs; exact⟨_, _, tY _ _ hp.2, (.same _ (.p (AX.clo rfl (fun i hi =>by
  rcases i with _|i
  ·show AX (SV.ref _ _) (SV.ref _ _);exact(AX.ref rfl (fun i hi=>by
  rcases i with _|i
  ·show AX (SV.sl _ _ _) (SV.sl _ _ _);exact(AX.sl hp.1)
  exact absurd hi (by simp;try omega)))
  exact absurd hi (by simp;try omega))) .nil)),⟨show Aa Tryz.prog _ from Aa.nil,rfl,⟨show Ag Tryz.prog _ from(Ag.cons tR tS Ag.nil),(Aw.none (fun _=>rfl))⟩⟩⟩
 ·cases hs)
theorem uA:Ao Tryz.prog 184:=fun args w=>by kernel_rfl
def VB (l:(L.Sq L.Pt)):Prop:=l.n<=1000000
def VC (l:(L.Sq L.Pt)):Nat->Prop:=fun _=>True
def VD (l:(L.Sq L.Pt)):Nat->Nat:=fun _=>l.n
def VE (l:(L.Sq L.Pt)):Nat->Nat->List SV:=fun _ k=>[.int .i64 ((l.g k).x),.int .i64 ((l.g k).y)]
def VF:List EV->Option (Prop×(Nat->Prop)×(Nat->Nat)×(Nat->Nat->List SV))
 |[.p (.clo 160 [.ref [.sl 2 l_n l_g] 0])]=>some ((∀i,i<l_n->l_g i = [.int .i64 ((An (l_g i)).x),.int .i64 ((An (l_g i)).y)])/\VB (⟨l_n,fun i=>An (l_g i)⟩:(L.Sq L.Pt)),VC (⟨l_n,fun i=>An (l_g i)⟩:(L.Sq L.Pt)),VD (⟨l_n,fun i=>An (l_g i)⟩:(L.Sq L.Pt)),VE (⟨l_n,fun i=>An (l_g i)⟩:(L.Sq L.Pt)))
 |_=>none
abbrev VG:SE.Spec:=(Gw Nat 0 66 2 VF)
def uB:Ak:={ cC with muts:=[4],specs:=AB [(184,VA)],raws:=[184] }
theorem uC (l:(L.Sq L.Pt)) (hp:VB l):vc Tryz.prog (uB) (Ah Tryz.f158) (Ap Tryz.f158 [.p (.clo 160 [.ref [.sl 2 l.n (fun i=>[.int .i64 ((l.g i).x),.int .i64 ((l.g i).y)])] 0])]) (Fv Tryz.prog Tryz.f158 (Nat) (VC l) 66 2 (VD l) (VE l)):=
 @Eq.mpr _ (let I:=SV.int .i64;((∀(i:Nat),let A1:=[I (l.g i).x,I (l.g i).y];i<l.n->A1=A1)/\l.n<=(1000000:Nat))/\∀(t:Nat),True->∃(t:Nat),(l.n=l.n/\∀(i:Nat),let A2:=[I (l.g i).x,I (l.g i).y];i<l.n->A2=A2)/\True) (by kernel_rfl) (by
 conv=>zeta
 exact⟨⟨fun _ _=>rfl,hp⟩,fun t _=>⟨(0:Nat),⟨rfl,fun _ _=>rfl⟩,trivial⟩⟩)
theorem uD:Av Tryz.prog 158 VG:=GK Tryz.func158 (c:=Ah Tryz.f158) (by kernel_rfl) mixed (fun args p q n g hs hp=>by
 unfold VF at hs;split at hs
 ·cases hs; exact⟨_, _, uC _ hp.2, (.p (AX.clo rfl (fun i hi =>by
  rcases i with _|i
  ·show AX (SV.ref _ _) (SV.ref _ _);exact(AX.ref rfl (fun i hi=>by
  rcases i with _|i
  ·show AX (SV.sl _ _ _) (SV.sl _ _ _);exact(AX.sl hp.1)
  exact absurd hi (by simp;try omega)))
  exact absurd hi (by simp;try omega))) .nil),⟨show Aa Tryz.prog _ from(Aa.cons tZ uA Aa.nil),rfl,⟨show Ag Tryz.prog _ from Ag.nil,(Aw.none (fun _=>rfl))⟩⟩⟩
 ·cases hs)
theorem uE:Ao Tryz.prog 158:=fun args w=>by kernel_rfl
def VH (l:(L.Sq L.Pt)):Prop:=l.n<=1000000
def VI (l:(L.Sq L.Pt)):Nat->Prop:=fun _=>True
def VJ (l:(L.Sq L.Pt)):Nat->Nat:=fun _=>l.n
def VK (l:(L.Sq L.Pt)):Nat->Nat->List SV:=fun _ k=>[.int .i64 (((B0 l).g k).x),.int .i64 (((B0 l).g k).y)]
def VL:List EV->Option (Prop×(Nat->Prop)×(Nat->Nat)×(Nat->Nat->List SV))
 |[.p (.clo 160 [.ref [.sl 2 l_n l_g] 0]),.p (.clo 104 [])]=>some ((∀i,i<l_n->l_g i = [.int .i64 ((An (l_g i)).x),.int .i64 ((An (l_g i)).y)])/\VH (⟨l_n,fun i=>An (l_g i)⟩:(L.Sq L.Pt)),VI (⟨l_n,fun i=>An (l_g i)⟩:(L.Sq L.Pt)),VJ (⟨l_n,fun i=>An (l_g i)⟩:(L.Sq L.Pt)),VK (⟨l_n,fun i=>An (l_g i)⟩:(L.Sq L.Pt)))
 |_=>none
abbrev VM:SE.Spec:=(Gw Nat 0 66 2 VL)
def uF:Ak:={ cC with muts:=[7],specs:=AB [(158,VG),(104,P4)],trs:=HF [(159,Vr)],ren:=fun k=>k-998,raws:=[158] }
theorem uG (l:(L.Sq L.Pt)) (hp:VH l):vc Tryz.prog (uF) (Ah Tryz.f136) (Ap Tryz.f136 [.p (.clo 160 [.ref [.sl 2 l.n (fun i=>[.int .i64 ((l.g i).x),.int .i64 ((l.g i).y)])] 0]),.p (.clo 104 [])]) (Fv Tryz.prog Tryz.f136 (Nat) (VI l) 66 2 (VJ l) (VK l)):=
 @Eq.mpr _ (let I:=SV.int .i64;((∀(i:Nat),let A1:=[I (l.g i).x,I (l.g i).y];i<l.n->A1=A1)/\l.n<=(1000000:Nat))/\∀(t:Nat),True->∃(t:Nat×(Nat->L.Pt)),SV.clo (nat_lit 104) []=SV.clo (104:Nat) []/\(l.n=t.1/\∀(i:Nat),i<l.n -> [I (l.g i).x,I (l.g i).y]= [I (t.2 i).x,I (t.2 i).y])/\t.1<=(1000000:Nat)/\∀(u:Nat->L.Pt),Dw C9 t.1 t.2 u->∃(t_1:Nat),(t.1=l.n/\∀(i:Nat),i<t.1 -> [I (u i).x,I (u i).y]= [I ((B0 l).g i).x,I ((B0 l).g i).y])/\True) (by kernel_rfl) (by
 conv=>zeta
 have hn:l.n<=1000000:=hp;refine⟨⟨fun _ _=>rfl,hn⟩,fun t _=>⟨(l.n,l.g),rfl,⟨rfl,fun _ _=>rfl⟩,hn,fun u hu=>⟨(0:Nat),⟨rfl,fun i hi=>?_⟩,trivial⟩⟩⟩;rw[tI (l:=l) hu i hi])
theorem uH:Av Tryz.prog 136 VM:=GK Tryz.func136 (c:=Ah Tryz.f136) (by kernel_rfl) mixed (fun args p q n g hs hp=>by
 unfold VL at hs;split at hs
 ·cases hs; exact⟨_, _, uG _ hp.2, (.p (AX.clo rfl (fun i hi =>by
  rcases i with _|i
  ·show AX (SV.ref _ _) (SV.ref _ _);exact(AX.ref rfl (fun i hi=>by
  rcases i with _|i
  ·show AX (SV.sl _ _ _) (SV.sl _ _ _);exact(AX.sl hp.1)
  exact absurd hi (by simp;try omega)))
  exact absurd hi (by simp;try omega))) (.p (AX.clo rfl (fun i hi=>by
  exact absurd hi (by simp;try omega))) .nil)),⟨show Aa Tryz.prog _ from(Aa.cons uD uE (Aa.cons P5 P6 Aa.nil)),rfl,⟨show Ag Tryz.prog _ from Ag.nil,⟨show DS Tryz.prog _ from(DS.cons tL tM DS.nil),⟨GE.no1 (fun _=>rfl),FamsOk.none (fun _=>rfl)⟩⟩⟩⟩⟩
 ·cases hs)
theorem uI:Ao Tryz.prog 136:=fun args w=>by kernel_rfl
def VN (l:(L.Sq L.Pt)):Prop:=1<=l.n/\l.n<=1000000/\∀i,i<l.n->AF (l.g i)
def VO (l:(L.Sq L.Pt)):Nat->Prop:=fun _=>True
def VP (l:(L.Sq L.Pt)):Nat->Nat:=fun _=>(B1 l).n
def VQ (l:(L.Sq L.Pt)):Nat->Nat->List SV:=fun _ k=>[.int .i64 (((B1 l).g k).x),.int .i64 (((B1 l).g k).y)]
def VR:List EV->Option (Prop×(Nat->Prop)×(Nat->Nat)×(Nat->Nat->List SV))
 |[.p (.sl 2 l_n l_g)]=>some ((∀i,i<l_n->l_g i = [.int .i64 ((An (l_g i)).x),.int .i64 ((An (l_g i)).y)])/\VN (⟨l_n,fun i=>An (l_g i)⟩:(L.Sq L.Pt)),VO (⟨l_n,fun i=>An (l_g i)⟩:(L.Sq L.Pt)),VP (⟨l_n,fun i=>An (l_g i)⟩:(L.Sq L.Pt)),VQ (⟨l_n,fun i=>An (l_g i)⟩:(L.Sq L.Pt)))
 |_=>none
abbrev VS:SE.Spec:=(Gw Nat 0 66 2 VR)
def uJ:Ak:={ cC with muts:=[5],specs:=AB [(103,Ke)],nils:=B3 [(2,[(3,32,66,2)])],cuts:=[36,46] }
theorem uK (l:(L.Sq L.Pt)) (hp:VN l):vc Tryz.prog ({ uJ with loops:=AV [(3,{ T:=Nat,keep:=[3,6,7],keepO:=[],chg:=fun i=>[(8,.p (.int .i64 (i:Int)))],own:=fun i=>[(32,.row 66 2 (BR (BW l i)) (fun k=>[.int .i64 ((Cb (BW l i) k).x),.int .i64 ((Cb (BW l i) k).y)]))],inv:=fun i=>i<=l.n,mu:=fun i=>l.n-i }),(5,{ T:=Nat×List L.Pt,keep:=[3,5,6,7,8],keepO:=[5],tie:=fun g=>[(8,.int .i64 (g.1:Int))],chg:=fun g=>[],own:=fun g=>[(32,.row 66 2 (BR g.2) (fun k=>[.int .i64 ((Cb g.2 k).x),.int .i64 ((Cb g.2 k).y)]))],inv:=fun g=>g.1<l.n/\Dy (l.g g.1) g.2=Dy (l.g g.1) (BW l g.1)/\(∀q,GO q g.2->GO q (BW l g.1))/\BR g.2<=g.1,mu:=fun g=>BR g.2 })],rfs:=AT [] }) (Ah Tryz.f138) (Ap Tryz.f138 [.p (.sl 2 l.n (fun i=>[.int .i64 ((l.g i).x),.int .i64 ((l.g i).y)]))]) (Fv Tryz.prog Tryz.f138 (Nat) (VO l) 66 2 (VP l) (VQ l)):=
 @Eq.mpr _ (let I:=SV.int .i64;let T:=Af1;let A11:=(0:Int);let A9:=(↑l.n:Int);let A6:=(l.n=l.n/\∀(i:Nat),let A15:=[I (l.g i).x,I (l.g i).y];i<l.n->A15=A15);let A3:=(1:Int);(∃(g:Nat),A11=(↑g:Int)/\(nat_lit 0=BR (BW l g)/\∀(i:Nat),let A14:=(Cb (BW l g) i);i<nat_lit 0 -> []= [I A14.x,I A14.y])/\g<=l.n)/\∀(g:Nat),let A7:=(BW l g);let A5:=(↑g:Int);let A8:=(l.g (T A5));let A4:=(↑(BR A7):Int);g<=l.n->(decide (A5<A9)=true->(A11<=A5/\A5<A9)/\(∃(g_1:Nat×List L.Pt),(BR A7=BR g_1.2/\∀(i:Nat),i<BR A7 -> [I (Cb A7 i).x,I (Cb A7 i).y]= [I (Cb g_1.2 i).x,I (Cb g_1.2 i).y])/\A5=(↑g_1.1:Int)/\g_1.1<l.n/\Dy (l.g g_1.1) g_1.2=Dy (l.g g_1.1) (BW l g_1.1)/\(∀(q:L.Pt),GO q g_1.2->GO q (BW l g_1.1))/\BR g_1.2<=g_1.1)/\∀(g_1:Nat×List L.Pt),let A1:=(↑(BR g_1.2):Int);let A12:=(A1-A3);let A17:=(Cb g_1.2 (T A12));let A10:=(A1-(2:Int));let A16:=(Cb g_1.2 (T A10));let A2:=(bif decide (A3<A1)then decide (B4 A16 A17 A8<=A11)else false);A5=(↑g_1.1:Int)/\g_1.1<l.n/\Dy (l.g g_1.1) g_1.2=Dy (l.g g_1.1) (BW l g_1.1)/\(∀(q:L.Pt),GO q g_1.2->GO q (BW l g_1.1))/\BR g_1.2<=g_1.1->(decide (A3<A1)=true->Ad .i64 A10)/\(decide (A3<A1)=true->A11<=A1-(2:Int)/\A1-(2:Int)<A1)/\(decide (A3<A1)=true->T A10<BR g_1.2)/\(decide (A3<A1)=true->Ad .i64 A12)/\(decide (A3<A1)=true->A11<=A1-A3/\A1-A3<A1)/\(decide (A3<A1)=true->T A12<BR g_1.2)/\(decide (A3<A1)=true->AF A16/\AF A17/\AF A8)/\(A2=true->Ad .i64 A12/\(A11<=A1-A3/\A1-A3<=A1)/\∃(g':Nat×List L.Pt),nat_lit 0=nat_lit 0/\A5=A5/\A9=A9/\A6/\(T A12=BR g'.2/\∀(i:Nat),i<T A12 -> [I (Cb g_1.2 i).x,I (Cb g_1.2 i).y]= [I (Cb g'.2 i).x,I (Cb g'.2 i).y])/\A8.x=A8.x/\A8.y=A8.y/\(A5=(↑g'.1:Int)/\g'.1<l.n/\Dy (l.g g'.1) g'.2=Dy (l.g g'.1) (BW l g'.1)/\(∀(q:L.Pt),GO q g'.2->GO q (BW l g'.1))/\BR g'.2<=g'.1)/\BR g'.2<BR g_1.2)/\(A2=false->(BR g_1.2+nat_lit 1)*nat_lit 16<=(140737488355328:Nat)/\Ad .i64 (A5+A3)/\∃(g':Nat),A5+A3=(↑g':Int)/\A9=A9/\A6/\(BR g_1.2+nat_lit 1=BR (BW l g')/\∀(i:Nat),let A13:=(Cb (BW l g') i);i<BR g_1.2+nat_lit 1->AU (BR g_1.2) (fun(k:Nat)=>[I (Cb g_1.2 k).x,I (Cb g_1.2 k).y]) (fun(x:Nat)=>[I A8.x,I A8.y]) i = [I A13.x,I A13.y])/\g'<=l.n/\l.n-g'<l.n-g))/\(decide (A5<A9)=false->Ad .i64 (A4-A3)/\(A11<=A4-A3/\A4-A3<=A4)/\∃(t:Nat),(T (A4-A3)=(B1 l).n/\∀(i:Nat),i<T (A4-A3) -> [I (Cb A7 i).x,I (Cb A7 i).y]= [I ((B1 l).g i).x,I ((B1 l).g i).y])/\True)) (by kernel_rfl) (by
 conv=>zeta
 obtain⟨h1,hn,hb⟩:=hp;have len0:∀k,BR (BW l k)<=k:=L6 l;have bdc:∀k,k<=l.n->∀q,GO q (BW l k)->AF q:=fun k hk q hq=>by
  obtain⟨i,hi,rfl⟩:=PF hq;exact hb i (by omega)
 refine⟨⟨(0:Nat),rfl,⟨rfl,fun i hi=>absurd hi (Rc _)⟩,Afg _⟩,fun g hg=>⟨fun hlt=>?_,fun hge=>?_⟩⟩
 ·have hb':(g:Int)<(l.n:Int):=of_decide_eq_true hlt;have e0:((g:Int)).toNat=g:=by omega
  refine⟨⟨by omega,hb'⟩,⟨(g,BW l g),⟨rfl,fun _ _=>rfl⟩,rfl,by omega,rfl,fun _ h=>h,len0 g⟩,fun g1 hg1=>?_⟩;obtain⟨g0,st⟩:=g1;obtain⟨e1,q1,q2,q3,q4⟩:=hg1;have e1:(g:Int)=(g0:Int):=e1;obtain rfl:g=g0:=by omega
  have q2:Dy (l.g g) st=Dy (l.g g) (BW l g):=q2;have q3:∀q,GO q st->GO q (BW l g):=q3;have q4:BR st<=g:=q4;have mb:∀k,k<BR st->AF (Cb st k):=fun k hk=>bdc g hg _ (q3 _ (Vv hk));rw[e0];dsimp only;refine⟨fun h=>?_,fun h=>?_,fun h=>?_,fun h=>?_,fun h=>?_,fun h=>?_,fun h=>?_,fun hc=>?_,fun hc=>?_⟩
  any_goals (try have h:(1:Int)<(BR st:Int):=of_decide_eq_true h)
  ·exact jK
  ·omega
  ·omega
  ·exact jK
  ·omega
  ·omega
  ·exact⟨mb _ (by omega),mb _ (by omega),hb g (by omega)⟩
  ·cases hd:decide ((1:Int)<(BR st:Int))with
   |false=>rw[hd]at hc;cases hc
   |true =>
     have h:(1:Int)<(BR st:Int):=of_decide_eq_true hd;rw[hd]at hc;have hc:=of_decide_eq_true hc
     match st,h with
     |b::a::r,h =>
       have f1:(((BR (b::a::r):Nat):Int)-2).toNat=r.length:=by show(((r.length+1+1:Nat):Int)-2).toNat=r.length;omega
       have f2:(((BR (b::a::r):Nat):Int)-1).toNat=r.length+1:=by show(((r.length+1+1:Nat):Int)-1).toNat=r.length+1;omega
       have g1:Cb (b::a::r) (r.length+1)=b:=L7;have g2:Cb (b::a::r) r.length=a:=(Np (by simp)).trans L7;rw[f1,f2,g1,g2]at hc;refine⟨jK,⟨by omega,by omega⟩,(g,a::r),rfl,rfl,rfl,⟨rfl,fun _ _=>rfl⟩,⟨f2,fun i hi=>?_⟩,rfl,rfl,⟨rfl,q1,?_,fun q hq=>q3 q (Afn _ hq),?_⟩,?_⟩
       ·rw[f2]at hi;have:Cb (b::a::r) i=Cb (a::r) i:=Np (by simpa using hi);rw[this]
       ·rw[<- q2];show Dy (l.g g) (a::r)=bif decide (B4 a b (l.g g)<=0)then Dy (l.g g) (a::r)else b::a::r;rw[decide_eq_true hc];rfl
       ·have:r.length+1+1<=g:=q4;show r.length+1<=g;omega
       ·show r.length+1<r.length+1+1;omega
     |[],h=>exact absurd h (by show ¬ (1:Int)<((0:Nat):Int);omega)
     |[a],h=>exact absurd h (by show ¬ (1:Int)<((1:Nat):Int);omega)
  ·have hp' : Dy (l.g g) st = st :=by
    match st,hc with
    |[],_=>rfl
    |[a],_=>rfl
    |b::a::r,hc =>
      have f1:(((BR (b::a::r):Nat):Int)-2).toNat=r.length:=by show(((r.length+1+1:Nat):Int)-2).toNat=r.length;omega
      have f2:(((BR (b::a::r):Nat):Int)-1).toNat=r.length+1:=by show(((r.length+1+1:Nat):Int)-1).toNat=r.length+1;omega
      have g1:Cb (b::a::r) (r.length+1)=b:=L7;have g2:Cb (b::a::r) r.length=a:=(Np (by simp)).trans L7;have hl:(1:Int)<((BR (b::a::r):Nat):Int):=by show(1:Int)<((r.length+1+1:Nat):Int);omega
      rw[decide_eq_true hl,f1,f2,g1,g2]at hc;have hc:decide (B4 a b (l.g g)<=0)=false:=hc;show(bif decide (B4 a b (l.g g)<=0)then Dy (l.g g) (a::r)else b::a::r)=b::a::r;rw[hc];rfl
   have e2:BW l (g+1)=l.g g::st:=by
    show l.g g::Dy (l.g g) (BW l g)=l.g g::st;rw[<- q2,hp']
   refine⟨show(BR st+1)*16<=140737488355328 by omega,jK,g+1,by omega,rfl,⟨rfl,fun _ _=>rfl⟩,?_,by omega,by omega⟩;rw[e2];refine⟨rfl,fun i hi=>?_⟩;have hi:i<BR st+1:=hi;unfold AU
   by_cases h':i<BR st
   ·rw[if_pos h'];have:Cb (l.g g::st) i=Cb st i:=Np h';rw[this]
   ·rw[if_neg h'];obtain rfl:i=BR st:=by omega
    have:Cb (l.g g::st) (BR st)=l.g g:=L7;rw[this]
 ·have hb':¬ (g:Int)<(l.n:Int):=of_decide_eq_false hge;obtain rfl:g=l.n:=by omega
  have l1:1<=BR (BW l l.n):=by
   match hh:l.n,h1 with
   |m+1,_=>exact AgI (Afg _)
  have l2:=len0 l.n;have e2:(((BR (BW l l.n):Nat):Int)-1).toNat=(B1 l).n:=by
   show(((BR (BW l l.n):Nat):Int)-1).toNat=BR (BW l l.n)-1;omega
  exact⟨jK,⟨by omega,by omega⟩,(0:Nat),⟨e2,fun _ _=>rfl⟩,trivial⟩)
theorem uL:Av Tryz.prog 138 VS:=GK Tryz.func138 (c:=Ah Tryz.f138) (by kernel_rfl) mixed (fun args p q n g hs hp=>by
 unfold VR at hs;split at hs
 ·cases hs;exact⟨_,_,uK _ hp.2,(.p (.sl hp.1) .nil),⟨show Aa Tryz.prog _ from(Aa.cons L3 L4 Aa.nil),rfl,⟨show Ag Tryz.prog _ from Ag.nil,(Aw.none (fun _=>rfl))⟩⟩⟩
 ·cases hs)
theorem uM:Ao Tryz.prog 138:=fun args w=>by kernel_rfl
def VT (l:(L.Sq L.Pt)):Prop:=2<=l.n/\l.n<=1000/\∀i,i<l.n->AF (l.g i)
def VU (l:(L.Sq L.Pt)):Nat->Prop:=fun _=>True
def VV (l:(L.Sq L.Pt)):Nat->Nat:=fun _=>(Ba l).n
def VW (l:(L.Sq L.Pt)):Nat->Nat->List SV:=fun _ k=>[.int .i64 (((Ba l).g k).x),.int .i64 (((Ba l).g k).y)]
def VX:List EV->Option (Prop×(Nat->Prop)×(Nat->Nat)×(Nat->Nat->List SV))
 |[.p (.sl 2 l_n l_g)]=>some ((∀i,i<l_n->l_g i = [.int .i64 ((An (l_g i)).x),.int .i64 ((An (l_g i)).y)])/\VT (⟨l_n,fun i=>An (l_g i)⟩:(L.Sq L.Pt)),VU (⟨l_n,fun i=>An (l_g i)⟩:(L.Sq L.Pt)),VV (⟨l_n,fun i=>An (l_g i)⟩:(L.Sq L.Pt)),VW (⟨l_n,fun i=>An (l_g i)⟩:(L.Sq L.Pt)))
 |_=>none
abbrev VY:SE.Spec:=(Gw Nat 0 66 2 VX)
def uN:Ak:={ cC with muts:=[7,18],specs:=AB [(137,V4),(136,VM),(138,VS),(140,Vi)],trs:=HF [(139,Ki)],ren:=fun k=>k-998,raws:=[136] }
theorem uO (l:(L.Sq L.Pt)) (hp:VT l):vc Tryz.prog (uN) (Ah Tryz.f107) (Ap Tryz.f107 [.p (.sl 2 l.n (fun i=>[.int .i64 ((l.g i).x),.int .i64 ((l.g i).y)]))]) (Fv Tryz.prog Tryz.f107 (Nat) (VU l) 66 2 (VV l) (VW l)):=
 @Eq.mpr _ (let I:=SV.int .i64;let A12:=(true&&(true&&true));let A9:=(1000000:Nat);let A8:=(1:Nat);let A7:=((∀(i:Nat),let A15:=[I (l.g i).x,I (l.g i).y];i<l.n->A15=A15)/\l.n<=A9);let A1:=(L.Sq.mk (B1 (L.Sq.mk l.n fun(i:Nat)=>(B0 (L.Sq.mk l.n fun(i:Nat)=>l.g i)).g i)).n fun(i:Nat)=>(B1 (L.Sq.mk l.n fun(i:Nat)=>(B0 (L.Sq.mk l.n fun(i:Nat)=>l.g i)).g i)).g i);A7/\A7/\∀(t:Nat),True->((∀(i:Nat),let A6:=((B0 (L.Sq.mk l.n fun(i:Nat)=>l.g i)).g i);i<l.n -> [I A6.x,I A6.y]= [I A6.x,I A6.y])/\A8<=l.n/\l.n<=A9/\∀(i:Nat),i<l.n->AF ((B0 (L.Sq.mk l.n fun(i:Nat)=>l.g i)).g i))/\∀(t:Nat),True->(∀(i:Nat),i<(B1 (L.Sq.mk l.n fun(i:Nat)=>(B0 (L.Sq.mk l.n fun(i:Nat)=>l.g i)).g i)).n->A12=true)/\∃(t:L.Sq L.Pt),let A3:=(L.Sq.mk (B1 (L.Sq.mk t.n fun(i:Nat)=>t.g (t.n-A8-i))).n fun(i:Nat)=>(B1 (L.Sq.mk t.n fun(i:Nat)=>t.g (t.n-A8-i))).g i);let A16:=(FH A1 A3 (0:Nat));(l.n=t.n/\∀(i:Nat),let A11:=((B0 (L.Sq.mk l.n fun(i:Nat)=>l.g i)).g i);i<l.n -> [I A11.x,I A11.y]= [I (t.g i).x,I (t.g i).y])/\t.n<=A9/\∀(u:Nat),True->((∀(i:Nat),let A10:=(t.g (t.n-A8-i));i<t.n -> [I A10.x,I A10.y]= [I A10.x,I A10.y])/\A8<=t.n/\t.n<=A9/\∀(i:Nat),i<t.n->AF (t.g (t.n-A8-i)))/\∀(t_1:Nat),True->(∀(i:Nat),i<(B1 (L.Sq.mk t.n fun(i:Nat)=>t.g (t.n-A8-i))).n->A12=true)/\(((∀(i:Nat),let A4:=(B1 (L.Sq.mk l.n fun(i:Nat)=>(B0 (L.Sq.mk l.n fun(i:Nat)=>l.g i)).g i));let A13:=[I (A4.g i).x,I (A4.g i).y];i<A4.n->A13=A13)/\∀(i:Nat),let A5:=(B1 (L.Sq.mk t.n fun(i:Nat)=>t.g (t.n-A8-i)));let A14:=[I (A5.g i).x,I (A5.g i).y];i<A5.n->A14=A14)/\A8<=A16.n+(FH A1 A3 A8).n/\A16.n<=A9/\(FH A1 A3 A8).n<=A9)/\∀(t_2:Nat),True->∃(t_3:Nat),((Cy (FH A1 A3) (2:Nat)).n=(Ba l).n/\∀(i:Nat),let A2:=(Cy (FH (L.Sq.mk (B1 (L.Sq.mk l.n fun(i:Nat)=>(B0 (L.Sq.mk l.n fun(i:Nat)=>l.g i)).g i)).n fun(i:Nat)=>(B1 (L.Sq.mk l.n fun(i:Nat)=>(B0 (L.Sq.mk l.n fun(i:Nat)=>l.g i)).g i)).g i) (L.Sq.mk (B1 (L.Sq.mk t.n fun(i:Nat)=>t.g (t.n-A8-i))).n fun(i:Nat)=>(B1 (L.Sq.mk t.n fun(i:Nat)=>t.g (t.n-A8-i))).g i)) (2:Nat));i<A2.n -> [I (A2.g i).x,I (A2.g i).y]= [I ((Ba l).g i).x,I ((Ba l).g i).y])/\True) (by kernel_rfl) (by
 conv=>zeta
 obtain⟨h1,hn,hb⟩:=hp;have sb:∀i,i<l.n->AF ((B0 l).g i):=fun i hi=>by
  obtain⟨j,hj,e⟩:=PE l hi;rw[e];exact hb j hj
 have cl:∀m:L.Sq L.Pt,(B1 m).n<=m.n:=fun m=>by
  have:=L6 m m.n;show(BW m m.n).length-1<=m.n;omega
 have c1:(B1 (B0 l)).n<=l.n:=cl (B0 l);have c2:(B1 (Fz (B0 l))).n<=l.n:=cl (Fz (B0 l));have c3:1<=(B1 (B0 l)).n:=tN (l:=B0 l) h1;refine⟨⟨fun _ _=>rfl,by omega⟩,⟨fun _ _=>rfl,by omega⟩,fun t _=>⟨⟨fun _ _=>rfl,by omega,by omega,sb⟩,fun t _=>⟨fun _ _=>rfl,B0 l,⟨rfl,fun _ _=>rfl⟩,show l.n<=1000000 by omega,fun u _=>⟨⟨fun _ _=>rfl,show 1<=l.n by omega,show l.n<=1000000 by omega,fun i hi=>sb _ ?_⟩,fun t1 _=>⟨fun _ _=>rfl,⟨⟨fun _ _=>rfl,fun _ _=>rfl⟩,?_,?_,?_⟩,fun t2 _=>⟨(0:Nat),⟨rfl,fun _ _=>rfl⟩,trivial⟩⟩⟩⟩⟩⟩
 ·have hi:i<l.n:=hi;show l.n-1-i<l.n;omega
 ·show 1<=(B1 (B0 l)).n+(B1 (Fz (B0 l))).n;omega
 ·show(B1 (B0 l)).n<=1000000;omega
 ·show(B1 (Fz (B0 l))).n<=1000000;omega)
theorem uP:Av Tryz.prog 107 VY:=GK Tryz.func107 (c:=Ah Tryz.f107) (by kernel_rfl) mixed (fun args p q n g hs hp=>by
 unfold VX at hs;split at hs
 ·cases hs;exact⟨_,_,uO _ hp.2,(.p (.sl hp.1) .nil),⟨show Aa Tryz.prog _ from(Aa.cons tV tW (Aa.cons uH uI (Aa.cons uL uM (Aa.cons sU sV Aa.nil)))),rfl,⟨show Ag Tryz.prog _ from Ag.nil,⟨show DS Tryz.prog _ from(DS.cons sY sX DS.nil),⟨GE.no1 (fun _=>rfl),FamsOk.none (fun _=>rfl)⟩⟩⟩⟩⟩
 ·cases hs)
theorem uQ:Ao Tryz.prog 107:=fun args w=>by kernel_rfl
end
section
set_option maxRecDepth 100000
set_option maxHeartbeats 4000000
set_option linter.unusedVariables false
attribute [local irreducible] vc
structure AR where
 fr:Int
 to_:Int
 area:Int
def Hu:List SV->AR
 |[.int _ a,.int _ b,.int _ c]=>⟨a,b,c⟩
 |_=>⟨0,0,0⟩
instance:Inhabited AR:=⟨⟨0,0,0⟩⟩
def VZ (p:AR):List Int:=[p.fr,p.to_,p.area]
def Gz (a b:AR):Int:=Br a.fr b.fr
theorem uR:Go.Sort.SWO (Go.Proofs.ltOf Gz):=by
 have k:∀x y,Go.Proofs.ltOf Gz x y=true↔x.fr<y.fr:=fun x y=>by
  unfold Go.Proofs.ltOf Gz Br;rw[decide_eq_true_iff]
  by_cases h1:x.fr<y.fr
  ·simp[h1]
  ·by_cases h2:y.fr<x.fr<;>simp[h1,h2]
 have kf:∀x y,Go.Proofs.ltOf Gz x y=false↔¬ x.fr<y.fr:=fun x y=>by
  rw[<- k,Bool.not_eq_true]
 refine⟨fun x=>?_,fun x y z=>?_,fun x y z=>?_⟩
 ·rw[kf];omega
 ·simp only[k];omega
 ·simp only[kf];omega
def Gc (l h:L.Sq L.Pt) (k:Nat):Int:=CE l (h.g k)
def FI (l h:L.Sq L.Pt) (k:Nat):Int:=CE l (h.g (Cf h.n k))
def EO (l h:L.Sq L.Pt) (k:Nat):Bool:=!decide (FI l h k=AfF (Gc l h k+1) (l.n:Int))
def CV (n:Nat) (to_:Int) (j:Nat):Int:=AfF (to_+(n:Int)-(j:Int)) (n:Int)
def Ge (n:Nat) (fr to_:Int):Nat:=(AfF (to_+(n:Int)-fr) (n:Int)).toNat
def L8 (l:L.Sq L.Pt) (fr to_:Int):L.Sq L.Pt:=⟨Ge l.n fr to_+1,fun j=>l.g (CV l.n to_ j).toNat⟩
def GP (l h:L.Sq L.Pt) (k:Nat):AR:=⟨Gc l h k,FI l h k,Cq (L8 l (Gc l h k) (FI l h k)) (L8 l (Gc l h k) (FI l h k)).n⟩
def Fe (l:L.Sq L.Pt):L.Sq AR:=⟨Cr (EO l (Ba l)) (Ba l).n,fun i=>GP l (Ba l) (DT (EO l (Ba l)) (Ba l).n i)⟩
def F0 (l:L.Sq L.Pt):Nat:=bif AP l then(Fe l).n else 0
def uS:Go.Shelf.Ren:=⟨fun|6=>109|15=>142|14=>141|28=>170|29=>171|20=>162|21=>163|22=>164|23=>165|24=>166|25=>167|26=>168|27=>169|46=>186|47=>187|48=>188|49=>189|50=>190|57=>202|n=>n,fun|22=>54|24=>62|25=>167|3=>3|39=>199|0=>0|53=>227|55=>229|4=>4|46=>220|45=>219|50=>224|5=>5|9=>9|66=>240|70=>244|76=>253|77=>254|n=>n,fun|n=>n⟩
theorem uT:Go.Proofs.SlLaysF0.n6 Tryz.prog uS:={
 mixed:=by kernel_rfl
 f6:=⟨Tryz.f109.name,by decide,Tryz.func109.trans (congrArg some (by kernel_rfl))⟩
 f14:=⟨Tryz.f141.name,by decide,Tryz.func141.trans (congrArg some (by kernel_rfl))⟩
 f15:=Tryz.func142.trans (congrArg some (by kernel_rfl))
 f20:=⟨Tryz.f162.name,by decide,Tryz.func162.trans (congrArg some (by kernel_rfl))⟩
 f21:=⟨Tryz.f163.name,by decide,Tryz.func163.trans (congrArg some (by kernel_rfl))⟩
 f22:=⟨Tryz.f164.name,by decide,Tryz.func164.trans (congrArg some (by kernel_rfl))⟩
 f23:=⟨Tryz.f165.name,by decide,Tryz.func165.trans (congrArg some (by kernel_rfl))⟩
 f24:=⟨Tryz.f166.name,by decide,Tryz.func166.trans (congrArg some (by kernel_rfl))⟩
 f25:=⟨Tryz.f167.name,by decide,Tryz.func167.trans (congrArg some (by kernel_rfl))⟩
 f26:=⟨Tryz.f168.name,by decide,Tryz.func168.trans (congrArg some (by kernel_rfl))⟩
 f27:=⟨Tryz.f169.name,by decide,Tryz.func169.trans (congrArg some (by kernel_rfl))⟩
 f28:=Tryz.func170.trans (congrArg some (by kernel_rfl))
 f29:=Tryz.func171.trans (congrArg some (by kernel_rfl))
 f46:=⟨Tryz.f186.name,by decide,Tryz.func186.trans (congrArg some (by kernel_rfl))⟩
 f47:=Tryz.func187.trans (congrArg some (by kernel_rfl))
 f48:=Tryz.func188.trans (congrArg some (by kernel_rfl))
 f49:=⟨Tryz.f189.name,by decide,Tryz.func189.trans (congrArg some (by kernel_rfl))⟩
 f50:=⟨Tryz.f190.name,by decide,Tryz.func190.trans (congrArg some (by kernel_rfl))⟩
 f57:=⟨Tryz.f202.name,by decide,Tryz.func202.trans (congrArg some (by kernel_rfl))⟩
 t0:=Tryz.underlying0
 a0:=Tryz.isAgg0
 z0:=Tryz.sizeOf0
 v0:=Tryz.zeroValue0
 t3:=Tryz.underlying3
 a3:=Tryz.isAgg3
 z3:=Tryz.sizeOf3
 v3:=Tryz.zeroValue3
 t4:=Tryz.underlying4
 a4:=Tryz.isAgg4
 z4:=Tryz.sizeOf4
 v4:=Tryz.zeroValue4
 t5:=Tryz.underlying5
 a5:=Tryz.isAgg5
 z5:=Tryz.sizeOf5
 v5:=Tryz.zeroValue5
 t9:=Tryz.underlying9
 a9:=Tryz.isAgg9
 z9:=Tryz.sizeOf9
 v9:=Tryz.zeroValue9
 t22:=Tryz.underlying54
 a22:=Tryz.isAgg54
 z22:=Tryz.sizeOf54
 v22:=Tryz.zeroValue54
 t25:=Tryz.underlying167
 a25:=Tryz.isAgg167
 z25:=Tryz.sizeOf167
 v25:=Tryz.zeroValue167
 t39:=Tryz.underlying199
 a39:=Tryz.isAgg199
 z39:=Tryz.sizeOf199
 v39:=Tryz.zeroValue199
 t45:=Tryz.underlying219
 a45:=Tryz.isAgg219
 z45:=Tryz.sizeOf219
 v45:=Tryz.zeroValue219
 t46:=Tryz.underlying220
 a46:=Tryz.isAgg220
 z46:=Tryz.sizeOf220
 v46:=Tryz.zeroValue220
 t50:=Tryz.underlying224
 a50:=Tryz.isAgg224
 z50:=Tryz.sizeOf224
 v50:=Tryz.zeroValue224
 t53:=Tryz.underlying227
 a53:=Tryz.isAgg227
 z53:=Tryz.sizeOf227
 v53:=Tryz.zeroValue227
 t55:=Tryz.underlying229
 a55:=Tryz.isAgg229
 z55:=Tryz.sizeOf229
 v55:=Tryz.zeroValue229
 t66:=Tryz.underlying240
 a66:=Tryz.isAgg240
 z66:=Tryz.sizeOf240
 v66:=Tryz.zeroValue240
 t70:=Tryz.underlying244
 a70:=Tryz.isAgg244
 z70:=Tryz.sizeOf244
 v70:=Tryz.zeroValue244
 t76:=Tryz.underlying253
 a76:=Tryz.isAgg253
 z76:=Tryz.sizeOf253
 v76:=Tryz.zeroValue253
 t77:=Tryz.underlying254
 a77:=Tryz.isAgg254
 z77:=Tryz.sizeOf254
 v77:=Tryz.zeroValue254 }
theorem Nq {n:Nat} {to_:Int} (hn:0<n) (h0:0<=to_) {j:Nat} (hj:j<=n):0<=CV n to_ j/\CV n to_ j<(n:Int):=by
 unfold CV;exact⟨Agr (n:Int) (by omega),AfY _ (by omega)⟩
theorem Wa {n:Nat} {to_:Int} (h0:0<=to_) (h1:to_<(n:Int)):CV n to_ 0=to_:=by
 unfold CV;rw[show to_+(n:Int)-((0:Nat):Int)=to_+(n:Int)by omega,AfN (by omega),Agi,AfV h0 h1]
theorem uU {n:Nat} {to_:Int} (hn:0<n) (h0:0<=to_) {j:Nat} (hj:j<n):AfF (CV n to_ j+(n:Int)-1) (n:Int)=CV n to_ (j+1):=by
 have hb:=Nq hn h0 (j:=j) (by omega);unfold CV at hb ⊢;rw[AfN (a:=to_+(n:Int)-(j:Int)) (by omega)]at hb ⊢;rw[AfN (by omega),AfN (a:=to_+(n:Int)-((j+1:Nat):Int)) (by omega)];rw[show(to_+(n:Int)-(j:Int)) % (n:Int)+(n:Int)-1=(to_+(n:Int)-(j:Int)) % (n:Int)+((n:Int)-1)by omega,Int.emod_add_emod,show to_+(n:Int)-(j:Int)+((n:Int)-1)=to_+(n:Int)-((j+1:Nat):Int)+(n:Int)by omega,Agi]
theorem Wb {n:Nat} {fr to_:Int} (hf0:0<=fr) (hf1:fr<(n:Int)) (ht0:0<=to_) (ht1:to_<(n:Int)) {j:Nat} (hj:j<=Ge n fr to_):(CV n to_ j=fr↔j=Ge n fr to_)/\Ge n fr to_<n:=by
 unfold Ge CV at *;rw[AfN (a:=to_+(n:Int)-fr) (by omega)]at hj ⊢
 by_cases h:fr<=to_
 ·have e1 : (to_+(n:Int)-fr) % (n:Int)= to_-fr :=by
   rw[show to_+(n:Int)-fr=to_-fr+(n:Int)by omega,Agi,AfV (by omega) (by omega)]
  rw[e1]at hj ⊢;rw[AfN (by omega),show to_+(n:Int)-(j:Int)=to_-(j:Int)+(n:Int)by omega,Agi,AfV (by omega) (by omega)];omega
 ·have e1:(to_+(n:Int)-fr) % (n:Int)=to_+(n:Int)-fr:=AfV (by omega) (by omega);rw[e1]at hj ⊢;rw[AfN (by omega)]
  by_cases h2:(j:Int)<=to_
  ·rw[show to_+(n:Int)-(j:Int)=to_-(j:Int)+(n:Int)by omega,Agi,AfV (by omega) (by omega)];omega
  ·rw[AfV (by omega) (by omega)];omega
theorem uV {l:L.Sq L.Pt} (hs:Fy l) {fr to_:Int} (hn:l.n<=900) (hf0:0<=fr) (hf1:fr<(l.n:Int)) (ht0:0<=to_) (ht1:to_<(l.n:Int)):Fy (L8 l fr to_):=by
 have hlen:=(Wb hf0 hf1 ht0 ht1 (j:=0) (Afg _)).2;refine⟨show Ge l.n fr to_+1<=1000 by omega,fun i hi=>?_⟩;have hi:i<Ge l.n fr to_+1:=hi;have hb:=Nq (n:=l.n) (by omega) ht0 (j:=i) (by omega);exact hs.2 _ (by omega)
theorem Wc {l:L.Sq L.Pt} {k:Nat} (hk:k<(Ba l).n):0<=CE l ((Ba l).g k)/\CE l ((Ba l).g k)<(l.n:Int):=by
 obtain⟨i,hi,e⟩:=tO l hk;obtain⟨j,hj,e2,_⟩:=sM (l:=l) hi;rw[e,e2];omega
def Wd (a:AR) (b:AR):Prop:=True
def We (a:AR) (b:AR):SV:=.int .i64 (Gz a b)
def PH:List EV->Option (Prop×SV)
 |[.p (.agg [.int .i64 a_fr,.int .i64 a_to_,.int .i64 a_area]),.p (.agg [.int .i64 b_fr,.int .i64 b_to_,.int .i64 b_area])]=>some (Wd (⟨a_fr,a_to_,a_area⟩:AR) (⟨b_fr,b_to_,b_area⟩:AR),We (⟨a_fr,a_to_,a_area⟩:AR) (⟨b_fr,b_to_,b_area⟩:AR))
 |_=>none
abbrev Wf:SE.Spec:=(AK PH)
def uW:Ak:={ cC with specs:=AB [(111,Kc)] }
theorem uX (a:AR) (b:AR) (hp:Wd a b):vc Tryz.prog (uW) (Ah Tryz.f110) (Ap Tryz.f110 [.p (.agg [.int .i64 a.fr,.int .i64 a.to_,.int .i64 a.area]),.p (.agg [.int .i64 b.fr,.int .i64 b.to_,.int .i64 b.area])]) (AJ Tryz.prog Tryz.f110 (We a b)):=
 @Eq.mpr _ (True/\Br a.fr b.fr=Gz a b) (by kernel_rfl) (by
 exact⟨trivial,rfl⟩)
theorem Wg:Av Tryz.prog 110 Wf:=AM Tryz.func110 (c:=Ah Tryz.f110) (by kernel_rfl) mixed (fun args p r hs hp=>by
 unfold PH at hs;split at hs
 ·cases hs;exact⟨_,_,uX _ _ hp,(.same _ (.same _ .nil)),⟨show Aa Tryz.prog _ from(Aa.cons L1 L2 Aa.nil),rfl,⟨show Ag Tryz.prog _ from Ag.nil,(Aw.none (fun _=>rfl))⟩⟩⟩
 ·cases hs)
theorem Wh:Ao Tryz.prog 110:=fun args w=>by kernel_rfl
abbrev Wi:Tr:=Nd 62 3 110 1005 VZ Gz
theorem uY:Gn Tryz.prog 109 Wi:=Pr (enc:=VZ) uT (by decide) (fun w=>Tryz.isAgg62 w) (fun w=>Tryz.sizeOf62 w) (fun _=>rfl) uR Wg Wh (fun x y=>show Fw PH [.p (.agg [.int .i64 x.fr,.int .i64 x.to_,.int .i64 x.area]),.p (.agg [.int .i64 y.fr,.int .i64 y.to_,.int .i64 y.area])]from trivial) (fun x y=>rfl) _ _
theorem uZ:Ao Tryz.prog 109:=fun args w=>by kernel_rfl
def Wj (l:(L.Sq L.Pt)):Prop:=l.n<=1000000
def Wk (l:(L.Sq L.Pt)):(Nat->AR)->Prop:=fun u=>AP l=true->Dw Gz (Fe l).n (Fe l).g u
def Wl (l:(L.Sq L.Pt)):(Nat->AR)->SV:=fun u=>.tup [.sl 3 (F0 l) (fun i=>[.int .i64 ((u i).fr),.int .i64 ((u i).to_),.int .i64 ((u i).area)]),.int .i64 (bif AP l then 0 else 1)]
def Wm:List EV->Option (Prop×((Nat->AR)->Prop)×((Nat->AR)->SV))
 |[.p (.sl 2 l_n l_g)]=>some ((∀i,i<l_n->l_g i = [.int .i64 ((An (l_g i)).x),.int .i64 ((An (l_g i)).y)])/\Wj (⟨l_n,fun i=>An (l_g i)⟩:(L.Sq L.Pt)),Wk (⟨l_n,fun i=>An (l_g i)⟩:(L.Sq L.Pt)),Wl (⟨l_n,fun i=>An (l_g i)⟩:(L.Sq L.Pt)))
 |_=>none
abbrev Wn:SE.Spec:=(Tv (Nat->AR) (fun _=>⟨0,0,0⟩) Wm)
def vA:Ak:={ cC with muts:=[4,5,7,40],specs:=AB [(64,L5),(107,VY),(102,Lz),(108,Vm),(95,Pz),(110,Wf)],iters:=Bw [(133,Ly)],nils:=B3 [(5,[(4,68,62,3)])],trs:=HF [(109,Wi)],ren:=fun k=>k-937 }
theorem vB (l:(L.Sq L.Pt)) (hp:Wj l):vc Tryz.prog ({ vA with loops:=AV [(11,{ T:=Nat×Int×Int,keep:=[1,4,5,8,9,10],keepO:=[4,5,68],tie:=fun g=>[(8,.int .i64 g.2.1),(9,.int .i64 g.2.2)],chg:=fun g=>[(11,.p (.int .i64 (CV l.n g.2.2 g.1)))],own:=fun g=>[(40,.row 66 2 (g.1+1) (fun j=>[.int .i64 ((l.g (CV l.n g.2.2 j).toNat).x),.int .i64 ((l.g (CV l.n g.2.2 j).toNat).y)]))],inv:=fun g=>(0<=g.2.1/\g.2.1<(l.n:Int))/\(0<=g.2.2/\g.2.2<(l.n:Int))/\g.1<=Ge l.n g.2.1 g.2.2,mu:=fun g=>l.n-g.1 })],rfs:=AT [(6,{ T:=Nat,keep:=[1,4,5],keepO:=[5],own:=fun k _=>[(4,.blk 54 [.row 68]),(68,.row 62 3 (Cr (EO l (Ba l)) k) (fun i=>[.int .i64 ((GP l (Ba l) (DT (EO l (Ba l)) k i)).fr),.int .i64 ((GP l (Ba l) (DT (EO l (Ba l)) k i)).to_),.int .i64 ((GP l (Ba l) (DT (EO l (Ba l)) k i)).area)]))],inv:=fun k _=>k<=(Ba l).n })] }) (Ah Tryz.f66) (Ap Tryz.f66 [.p (.sl 2 l.n (fun i=>[.int .i64 ((l.g i).x),.int .i64 ((l.g i).y)]))]) (Pj Tryz.prog Tryz.f66 ((Nat->AR)) (Wk l) (Wl l)):=
 @Eq.mpr _ (let I:=SV.int .i64;let T:=Af1;let M:=AfF;let A46:=(Fe l);let A45:=(0:Nat);let A44:=(140737488355328:Nat);let A34:=(nat_lit 1);let A33:=(nat_lit 4);let A32:=(nat_lit 5);let A31:=(nat_lit 0);let A20:=(1:Int);let A18:=(0:Int);let A17:=(1:Nat);let A8:=(Ba l);let A7:=(∀(i:Nat),let A43:=[I (l.g i).x,I (l.g i).y];i<l.n->A43=A43);let A27:=(A7/\l.n<=(1000000:Nat));let A6:=(↑l.n:Int);let A4:=[SV.sl (nat_lit 2) l.n fun(i:Nat)=>[I (l.g i).x,I (l.g i).y]];let A2:=(EO l A8);let A1:=(L.Sq.mk l.n fun(i:Nat)=>l.g i);let A9:=(Ba A1);let A5:=((∀(i:Nat),let A12:=(Ba (L.Sq.mk l.n fun(i:Nat)=>l.g i));let A39:=[I (A12.g i).x,I (A12.g i).y];i<A12.n->A39=A39)/\A9.n<=(1000:Nat));A27/\((!AP A1)=true->∃(t:Nat->AR),F0 l=A45/\(A20=bif AP l then A18 else A20)/\(AP l=true->Dw Gz A46.n A46.g t))/\((!AP A1)=false->(A7/\(2:Nat)<=l.n/\l.n<=(1000:Nat)/\∀(i:Nat),i<l.n->AF (l.g i))/\∀(t:Nat),True->A5/\(A5/\∃(t:Nat),(nat_lit 0=Cr A2 A45/\∀(i:Nat),let A21:=(GP l A8 (DT A2 A45 i));i<nat_lit 0 -> []= [I A21.fr,I A21.to_,I A21.area])/\A6=A6/\A45<=A8.n)/\(∀(k t_1:Nat) (vk:Nat->Go.Value),let A47:=(k+A17);let A36:=((↑k:Int)+A20);let A13:=(A9.g (T (↑k:Int)));let A35:=(CE A1 A13+A20);let A3:=(T (M A36 (↑A9.n:Int)));let A26:=(A9.g A3);k<A9.n->k<=A8.n->(A18<=A20/\A20<(↑(3:Nat):Int))/\A27/\(A18<=(2:Int)/\(2:Int)<(↑(3:Nat):Int))/\A27/\Ad .i64 A35/\A6≠A18/\(decide (CE A1 A26=M A35 A6)=true->∃(t':Nat),nat_lit 0=nat_lit 0/\nat_lit 0=nat_lit 0/\SV.ref A4 A31=SV.ref A4 A31/\vk A32=vk A32/\vk A33=vk A33/\vk A34=vk A34/\(Cr A2 k=Cr A2 A47/\∀(i:Nat),let A28:=(GP l A8 (DT A2 k i));let A22:=(GP l A8 (DT A2 A47 i));i<Cr A2 k -> [I A28.fr,I A28.to_,I A28.area]= [I A22.fr,I A22.to_,I A22.area])/\A6=A6/\k+A17<=A8.n)/\(decide (CE A1 A26=M A35 A6)=false->(A18<=CE A1 A26/\CE A1 A26<A6)/\(∃(g:Nat×Int×Int),CE A1 A26=CV l.n g.2.2 g.1/\(nat_lit 1=g.1+A17/\∀(i:Nat),let A40:=(l.g (T (CV l.n g.2.2 i)));let A23:=(L.Sq.mk l.n fun(i:Nat)=>l.g i);let A10:=(l.g (T (CE A23 ((Ba A23).g (T (M A36 (↑(Ba A23).n:Int)))))));i<nat_lit 1->BX [I A10.x,I A10.y] (nat_lit 2) i = [I A40.x,I A40.y])/\CE A1 A13=g.2.1/\CE A1 A26=g.2.2/\(A18<=g.2.1/\g.2.1<A6)/\(A18<=g.2.2/\g.2.2<A6)/\g.1<=Ge l.n g.2.1 g.2.2)/\∀(g:Nat×Int×Int),let A42:=(g.1+A17);let A25:=(!decide (CV l.n g.2.2 g.1=CE A1 A13));let A11:=(CV l.n g.2.2 g.1+A6-A20);CE A1 A13=g.2.1/\CE A1 A26=g.2.2/\(A18<=g.2.1/\g.2.1<A6)/\(A18<=g.2.2/\g.2.2<A6)/\g.1<=Ge l.n g.2.1 g.2.2->(A25=true->Ad .i64 (CV l.n g.2.2 g.1+A6)/\Ad .i64 A11/\A6≠A18/\(A18<=M A11 A6/\M A11 A6<A6)/\(g.1+A17+nat_lit 1)*nat_lit 16<=A44/\∃(g':Nat×Int×Int),M A11 A6=CV l.n g'.2.2 g'.1/\CE A1 A26=CE A1 A26/\CE A1 A13=CE A1 A13/\nat_lit 0=nat_lit 0/\nat_lit 0=nat_lit 0/\SV.ref A4 A31=SV.ref A4 A31/\vk A32=vk A32/\vk A33=vk A33/\vk A34=vk A34/\(g.1+A17+nat_lit 1=g'.1+A17/\∀(i:Nat),let A38:=(l.g (T (CV l.n g'.2.2 i)));i<g.1+A17+nat_lit 1->AU A42 (fun(j:Nat)=>let A41:=(l.g (T (CV l.n g.2.2 j)));[I A41.x,I A41.y]) (fun(x:Nat)=>[I (l.g (T (M A11 A6))).x,I (l.g (T (M A11 A6))).y]) i = [I A38.x,I A38.y])/\(Cr A2 k=Cr A2 k/\∀(i:Nat),let A16:=(GP l A8 (DT A2 k i));let A37:=[I A16.fr,I A16.to_,I A16.area];i<Cr A2 k->A37=A37)/\A6=A6/\(CE A1 A13=g'.2.1/\CE A1 A26=g'.2.2/\(A18<=g'.2.1/\g'.2.1<A6)/\(A18<=g'.2.2/\g'.2.2<A6)/\g'.1<=Ge l.n g'.2.1 g'.2.2)/\l.n-g'.1<l.n-g.1)/\(A25=false->((∀(i:Nat),let A19:=(l.g (T (CV l.n g.2.2 i)));i<g.1+A17 -> [I A19.x,I A19.y]= [I A19.x,I A19.y])/\Fy (L.Sq.mk A42 fun(i:Nat)=>l.g (T (CV l.n g.2.2 i))))/\(Cr A2 k+nat_lit 1)*nat_lit 24<=A44/\∃(t':Nat),nat_lit 0=nat_lit 0/\nat_lit 0=nat_lit 0/\SV.ref A4 A31=SV.ref A4 A31/\vk A32=vk A32/\vk A33=vk A33/\vk A34=vk A34/\(Cr A2 k+nat_lit 1=Cr A2 A47/\∀(i:Nat),let A24:=(GP l A8 (DT A2 A47 i));let A15:=(L.Sq.mk l.n fun(i:Nat)=>l.g i);let A48:=(Ba A15);i<Cr A2 k+nat_lit 1->AU (Cr A2 k) (fun(i:Nat)=>let A29:=(GP l A8 (DT A2 k i));[I A29.fr,I A29.to_,I A29.area]) (fun(x:Nat)=>[I (CE A15 (A48.g (T (↑k:Int)))),I (CE A15 (A48.g (T (M A36 (↑A48.n:Int))))),I (Cq (L.Sq.mk A42 fun(i:Nat)=>l.g (T (CV l.n g.2.2 i))) A42)]) i = [I A24.fr,I A24.to_,I A24.area])/\A6=A6/\k+A17<=A8.n)))/\∀(t:Nat),A9.n<=A8.n->∃(t:Nat×(Nat->AR)),SV.clo (nat_lit 110) []=SV.clo (110:Nat) []/\(Cr A2 A9.n=t.1/\∀(i:Nat),let A30:=(Ba (L.Sq.mk l.n fun(i:Nat)=>l.g i));let A14:=(GP l A8 (DT A2 A30.n i));i<Cr A2 A30.n -> [I A14.fr,I A14.to_,I A14.area]= [I (t.2 i).fr,I (t.2 i).to_,I (t.2 i).area])/\t.1<=(1000000:Nat)/\∀(u:Nat->AR),Dw Gz t.1 t.2 u->∃(t_1:Nat->AR),(t.1=F0 l/\∀(i:Nat),i<t.1 -> [I (u i).fr,I (u i).to_,I (u i).area]= [I (t_1 i).fr,I (t_1 i).to_,I (t_1 i).area])/\(A18=bif AP l then A18 else A20)/\(AP l=true->Dw Gz A46.n A46.g t_1))) (by kernel_rfl) (by
 conv=>zeta
 have hn:l.n<=1000000:=hp;refine⟨⟨fun _ _=>rfl,hn⟩,fun h=>?_,fun h=>?_⟩
 ·have hv:AP l=false:=by simpa using (show(!AP l)=true from h)
  unfold F0;rw[hv];exact⟨fun _=>⟨0,0,0⟩,rfl,rfl,fun h=>(by cases h)⟩
 have hv:AP l=true:=by simpa using (show(!AP l)=false from h)
 obtain⟨n3,n24,hsm,hbd⟩:=Gy hv;have hHN:(Ba l).n<=1000:=by
  have cl:∀m:L.Sq L.Pt,(B1 m).n<=m.n:=fun m=>by
   have:=L6 m m.n;show(BW m m.n).length-1<=m.n;omega
  have c1:(B1 (B0 l)).n<=l.n:=cl (B0 l);have c2:(B1 (Fz (B0 l))).n<=l.n:=cl (Fz (B0 l));show 0+(B1 (B0 l)).n+(B1 (Fz (B0 l))).n<=1000;omega
 have hck:∀k,Cr (EO l (Ba l)) k<=k:=fun k=>P1;refine⟨⟨fun _ _=>rfl,by omega,by omega,hbd.2⟩,fun t _=>⟨⟨fun _ _=>rfl,hHN⟩,⟨⟨fun _ _=>rfl,hHN⟩,(0:Nat),⟨rfl,fun i hi=>absurd hi (Rc _)⟩,rfl,Afg _⟩,fun k t1 vk hk hk'=>?_,fun t _=>?_⟩⟩
 ·have hk:k<(Ba l).n:=hk;have e0:((k:Int)).toNat=k:=by omega
  have e1:(AfF ((k:Int)+1) ((Ba l).n:Int)).toNat=Cf (Ba l).n k:=rfl;have hf:=Wc (l:=l) hk;have ht:=Wc (l:=l) (k:=Cf (Ba l).n k) (In (by omega));have eF:CE l ((Ba l).g k)=Gc l (Ba l) k:=rfl;have eT:CE l ((Ba l).g (Cf (Ba l).n k))=FI l (Ba l) k:=rfl;rw[eF]at hf;rw[eT]at ht;rw[e0,e1,eF,eT];have hkk:=hck k;refine⟨⟨by decide,by decide⟩,⟨fun _ _=>rfl,hn⟩,⟨by decide,by decide⟩,⟨fun _ _=>rfl,hn⟩,jK,by omega,fun hc=>?_,fun hc=>?_⟩
  ·have hp:EO l (Ba l) k=false:=by unfold EO;rw[hc];rfl
   refine⟨(0:Nat),rfl,rfl,rfl,rfl,rfl,rfl,⟨(pO hp).symm,fun i hi=>?_⟩,rfl,by omega⟩;rw[pR hp]
  have hp:EO l (Ba l) k=true:=by unfold EO;rw[hc];rfl
  refine⟨ht,⟨(0,Gc l (Ba l) k,FI l (Ba l) k),(Wa ht.1 ht.2).symm,⟨rfl,fun i hi=>?_⟩,rfl,rfl,hf,ht,Afg _⟩,fun g hg=>?_⟩
  ·have hi:i<1:=hi;obtain rfl:i=0:=by omega
   dsimp only;rw[Wa ht.1 ht.2];rfl
  obtain⟨j,fr,to_⟩:=g;dsimp only at hg ⊢;obtain⟨e2,e3,_,_,hj⟩:=hg;rw[<- e2,<- e3]at *;have hlen:=Wb hf.1 hf.2 ht.1 ht.2 hj;have hb:=Nq (n:=l.n) (by omega) ht.1 (j:=j) (by omega);refine⟨fun hd=>?_,fun hd=>?_⟩
  ·have hd : CV l.n (FI l (Ba l) k) j≠Gc l (Ba l) k :=fun e =>by
    rw[decide_eq_true e]at hd;cases hd
   have hne:j≠Ge l.n (Gc l (Ba l) k) (FI l (Ba l) k):=fun e=>hd (hlen.1.2 e);have hs:=uU (n:=l.n) (by omega) ht.1 (j:=j) (by omega);have hb2:=Nq (n:=l.n) (by omega) ht.1 (j:=j+1) (by omega);rw[hs];refine⟨jK,jK,by omega,hb2,show(j+1+1)*16<=140737488355328 by omega,(j+1,Gc l (Ba l) k,FI l (Ba l) k),rfl,rfl,rfl,rfl,rfl,rfl,rfl,rfl,rfl,⟨rfl,fun i hi=>?_⟩,⟨rfl,fun _ _=>rfl⟩,rfl,⟨rfl,rfl,hf,ht,by show j+1<=Ge l.n (Gc l (Ba l) k) (FI l (Ba l) k);omega⟩,by show l.n-(j+1)<l.n-j;omega⟩;have hi:i<j+1+1:=hi;unfold AU
   by_cases h':i<j+1
   ·rw[if_pos h']
   ·rw[if_neg h'];obtain rfl:i=j+1:=by omega
    rfl
  ·have hd : CV l.n (FI l (Ba l) k) j = Gc l (Ba l) k :=by
    apply Decidable.byContradiction;intro e;rw[decide_eq_false e]at hd;cases hd
   have hje:=hlen.1.1 hd;have hrow:(L.Sq.mk (j+1) fun(i:Nat)=>l.g (CV l.n (FI l (Ba l) k) i).toNat)=L8 l (Gc l (Ba l) k) (FI l (Ba l) k):=by
    rw[hje];rfl
   have hj1:j+1=(L8 l (Gc l (Ba l) k) (FI l (Ba l) k)).n:=by rw[<- hrow]
   rw[hrow,hj1];refine⟨⟨fun _ _=>rfl,uV hsm (by omega) hf.1 hf.2 ht.1 ht.2⟩,show(Cr (EO l (Ba l)) k+1)*24<=140737488355328 by omega,(0:Nat),rfl,rfl,rfl,rfl,rfl,rfl,⟨(pN hp).symm,fun i hi=>?_⟩,rfl,by omega⟩;have hi:i<Cr (EO l (Ba l)) k+1:=hi;unfold AU
   by_cases h':i<Cr (EO l (Ba l)) k
   ·rw[if_pos h',pQ (Nat.ne_of_lt h')]
   ·rw[if_neg h'];obtain rfl:i=Cr (EO l (Ba l)) k:=by omega
    rw[pP hp];rfl
 ·have hcn:=hck (Ba l).n;refine⟨((Fe l).n,(Fe l).g),rfl,⟨rfl,fun _ _=>rfl⟩,show Cr (EO l (Ba l)) (Ba l).n<=1000000 by omega,fun u hu=>⟨u,⟨?_,fun _ _=>rfl⟩,?_,fun _=>hu⟩⟩
  ·unfold F0;rw[hv];rfl
  ·rw[hv];rfl)
theorem vC:Av Tryz.prog 66 Wn:=oK Tryz.func66 (c:=Ah Tryz.f66) (by kernel_rfl) mixed (fun args p q r hs hp=>by
 unfold Wm at hs;split at hs
 ·cases hs;exact⟨_,_,vB _ hp.2,(.p (.sl hp.1) .nil),⟨show Aa Tryz.prog _ from(Aa.cons Nl Nm (Aa.cons uP uQ (Aa.cons Ni Nj (Aa.cons tD tE (Aa.cons TK TL (Aa.cons Wg Wh Aa.nil)))))),rfl,⟨show Ag Tryz.prog _ from(Ag.cons Ng Nh Ag.nil),⟨show DS Tryz.prog _ from(DS.cons uY uZ DS.nil),⟨GE.no1 (fun _=>rfl),FamsOk.none (fun _=>rfl)⟩⟩⟩⟩⟩
 ·cases hs)
theorem vD:Ao Tryz.prog 66:=fun args w=>by kernel_rfl
end
section
set_option maxRecDepth 100000
set_option maxHeartbeats 4000000
set_option linter.unusedVariables false
attribute [local irreducible] vc
end
section
set_option maxRecDepth 100000
set_option maxHeartbeats 4000000
set_option linter.unusedVariables false
attribute [local irreducible] vc
end
section
set_option maxRecDepth 100000
set_option maxHeartbeats 4000000
set_option linter.unusedVariables false
attribute [local irreducible] vc
end
section
set_option maxRecDepth 100000
set_option maxHeartbeats 4000000
set_option linter.unusedVariables false
attribute [local irreducible] vc
def En (n:Nat) (i:Int):Nat:=(AfF (AfF i (n:Int)+(n:Int)) (n:Int)).toNat
theorem Wo {m n:Int} (h0:0<=m) (h1:m<n):AfF (m+n) n=m:=by
 rw[AfN (by omega),Agi,AfV h0 h1]
theorem Nr {n k:Nat} (h:k<n):En n (k:Int)=k:=by
 unfold En;rw[AgC (show 0<=(k:Int)by omega) (show(k:Int)<n by omega),Wo (by omega) (by omega)];omega
theorem PI {n k:Nat} (h:k<n):En n ((k:Int)+1)=Cf n k:=by
 unfold En Cf
 by_cases e:k+1<n
 ·rw[AgC (show 0<=(k:Int)+1 by omega) (show(k:Int)+1<n by omega),Wo (by omega) (by omega)]
 ·rw[show(k:Int)+1=(n:Int)by omega,Int.tmod_self,Int.zero_add,Int.tmod_self]
theorem vE {n k:Nat} (h:k<n):En n ((k:Int)-1)=FG n k:=by
 unfold En FG
 by_cases e:1<=k
 ·rw[AgC (show 0<=(k:Int)-1 by omega) (show(k:Int)-1<n by omega),show(k:Int)+(n:Int)-1=(k:Int)-1+n by omega]
 ·obtain rfl:k=0:=by omega
  by_cases e1:n=1
  ·subst e1;rfl
  ·rw[show((0:Nat):Int)-1 = -(1:Int)by omega,Int.neg_tmod,AgC (show 0<=(1:Int)by omega) (show(1:Int)<n by omega),show -(1:Int)+(n:Int)=((0:Nat):Int)+(n:Int)-1 by omega]
theorem vF {n:Nat} {i:Int} (h:0<n):0<=AfF i (n:Int)+(n:Int)/\AfF i (n:Int)+(n:Int)<=2*(n:Int)/\0<=AfF (AfF i (n:Int)+(n:Int)) (n:Int)/\AfF (AfF i (n:Int)+(n:Int)) (n:Int)<(n:Int):=by
 have h1:=Int.lt_tmod_of_pos i (show 0<(n:Int)by omega);have h2:=AfY i (show 0<(n:Int)by omega);exact⟨by omega,by omega,Agr _ (by omega),AfY _ (by omega)⟩
theorem vG {a b:L.Pt}:decide (C9 a b<0)=(bif decide (a.x<b.x)then true else bif decide (a.x=b.x)then decide (a.y<b.y)else false):=by
 unfold C9 HG Br;rcases Int.lt_trichotomy a.x b.x with h1|h1|h1<;>rcases Int.lt_trichotomy a.y b.y with h2|h2|h2<;>grind
theorem Wp {l:L.Sq L.Pt} (hv:AP l=true):(∀i,i<l.n->C2 (l.g i)=true)/\∀i,i<l.n->B4 (l.g (FG l.n i)) (l.g i) (l.g (Cf l.n i))≠0:=by
 unfold AP at hv;rw[nT,nT]at hv;constructor
 ·have h:=hv.1;unfold Gx at h;cases h2:EN l with
  |true=>exact CQ.1 h2
  |false =>
    rw[h2]at h;revert h;cases Ay (l.n:Int) 3 24<;>intro h<;>cases h
 ·intro i hi e;have h:=CQ.1 hv.2.1 i hi;unfold E0 at h;rw[decide_eq_true e]at h;cases h
def Wq (p:L.Pt):Prop:=True
def Wr (p:L.Pt):SV:=.bool (C2 p)
def Ws:List EV->Option (Prop×SV)
 |[.p (.agg [.int .i64 p_x,.int .i64 p_y])]=>some (Wq (⟨p_x,p_y⟩:L.Pt),Wr (⟨p_x,p_y⟩:L.Pt))
 |_=>none
abbrev Wt:SE.Spec:=(AK Ws)
def vH:Ak:={ muts:=[],frz:=B2 [],specs:=AB [],loops:=AV [],iters:=Bw [],rfs:=AT [],nils:=B3 [] }
theorem vI (p:L.Pt) (hp:Wq p):vc Tryz.prog (vH) (Ah Tryz.f96) (Ap Tryz.f96 [.p (.agg [.int .i64 p.x,.int .i64 p.y])]) (AJ Tryz.prog Tryz.f96 (Wr p)):=
 @Eq.mpr _ ((bif bif bif decide ((0:Int)<=p.x)then decide (p.x<=(4096:Int))else false then decide ((0:Int)<=p.y)else false then decide (p.y<=(4096:Int))else false)=C2 p) (by kernel_rfl) (by
 unfold C2 Ay;rw[Ht,Ht,Ht];cases decide (0<=p.x)<;>cases decide (p.x<=4096)<;>cases decide (0<=p.y)<;>cases decide (p.y<=4096)<;>rfl)
theorem vJ:Av Tryz.prog 96 Wt:=AM Tryz.func96 (c:=Ah Tryz.f96) (by kernel_rfl) mixed (fun args p r hs hp=>by
 unfold Ws at hs;split at hs
 ·cases hs;exact⟨_,_,vI _ hp,(.same _ .nil),⟨show Aa Tryz.prog _ from Aa.nil,rfl,⟨show Ag Tryz.prog _ from Ag.nil,(Aw.none (fun _=>rfl))⟩⟩⟩
 ·cases hs)
theorem vK:Ao Tryz.prog 96:=fun args w=>by kernel_rfl
def Wu (l:(L.Sq L.Pt)):Prop:=l.n<=1000000
def Wv (l:(L.Sq L.Pt)):SV:=.bool (EN l)
def Ww:List EV->Option (Prop×SV)
 |[.p (.sl 2 l_n l_g)]=>some ((∀i,i<l_n->l_g i = [.int .i64 ((An (l_g i)).x),.int .i64 ((An (l_g i)).y)])/\Wu (⟨l_n,fun i=>An (l_g i)⟩:(L.Sq L.Pt)),Wv (⟨l_n,fun i=>An (l_g i)⟩:(L.Sq L.Pt)))
 |_=>none
abbrev Wx:SE.Spec:=(AK Ww)
def vL:Ak:={ cC with specs:=AB [(96,Wt)] }
theorem vM (l:(L.Sq L.Pt)) (hp:Wu l):vc Tryz.prog ({ vL with loops:=AV [(2,{ T:=Nat,keep:=[0],keepO:=[],chg:=fun i=>[(3,.p (.int .i64 (i:Int)))],own:=fun _=>[],inv:=fun i=>i<=l.n/\∀j,j<i->C2 (l.g j)=true,mu:=fun i=>l.n-i })],rfs:=AT [] }) (Ah Tryz.f56) (Ap Tryz.f56 [.p (.sl 2 l.n (fun i=>[.int .i64 ((l.g i).x),.int .i64 ((l.g i).y)]))]) (AJ Tryz.prog Tryz.f56 (Wv l)):=
 @Eq.mpr _ (let A4:=(↑l.n:Int);(∃(g:Nat),(0:Int)=(↑g:Int)/\g<=l.n/\∀(j:Nat),j<g->C2 (l.g j)=true)/\∀(g:Nat),let A2:=(↑g:Int);let A3:=(!C2 (l.g (Af1 A2)));(g<=l.n/\∀(j:Nat),j<g->C2 (l.g j)=true)->(decide (A2<A4)=true->((0:Int)<=A2/\A2<A4)/\True/\(A3=true->false=EN l)/\(A3=false->Ad .i64 (A2+(1:Int))/\∃(g':Nat),A2+(1:Int)=(↑g':Int)/\(l.n=l.n/\∀(i:Nat),let A1:=[SV.int .i64 (l.g i).x,SV.int .i64 (l.g i).y];i<l.n->A1=A1)/\(g'<=l.n/\∀(j:Nat),j<g'->C2 (l.g j)=true)/\l.n-g'<l.n-g))/\(decide (A2<A4)=false->true=EN l)) (by kernel_rfl) (by
 conv=>zeta
 have hn:l.n<=1000000:=hp;refine⟨⟨(0:Nat),rfl,Afg _,fun j hj=>absurd hj (Rc _)⟩,fun g hg=>⟨fun hlt=>?_,fun hge=>?_⟩⟩
 ·have hb:(g:Int)<(l.n:Int):=of_decide_eq_true hlt;have e0:((g:Int)).toNat=g:=by omega
  rw[e0];refine⟨by omega,trivial,fun h1=>?_,fun h1=>?_⟩
  ·unfold EN;rw[FF (i:=g) (by omega) (Cx h1)]
  ·exact⟨jK, g+1, by omega, ⟨rfl, fun _ _ =>rfl⟩, ⟨by omega, fun j hj =>by
   rcases Aft.1 hj with h'|rfl
   ·exact hg.2 j h'
   ·exact Ca h1⟩,by omega⟩
 ·have hb:¬ (g:Int)<(l.n:Int):=of_decide_eq_false hge;exact(CQ.2 (fun i hi=>hg.2 i (by omega))).symm)
theorem vN:Av Tryz.prog 56 Wx:=AM Tryz.func56 (c:=Ah Tryz.f56) (by kernel_rfl) mixed (fun args p r hs hp=>by
 unfold Ww at hs;split at hs
 ·cases hs;exact⟨_,_,vM _ hp.2,(.p (.sl hp.1) .nil),⟨show Aa Tryz.prog _ from(Aa.cons vJ vK Aa.nil),rfl,⟨show Ag Tryz.prog _ from Ag.nil,(Aw.none (fun _=>rfl))⟩⟩⟩
 ·cases hs)
theorem vO:Ao Tryz.prog 56:=fun args w=>by kernel_rfl
def Wy (a:L.Pt) (b:L.Pt) (c:L.Pt):Prop:=AF a/\AF b/\AF c
def Wz (a:L.Pt) (b:L.Pt) (c:L.Pt):SV:=.int .i64 (B4 a b c)
def W0:List EV->Option (Prop×SV)
 |[.p (.agg [.int .i64 a_x,.int .i64 a_y]),.p (.agg [.int .i64 b_x,.int .i64 b_y]),.p (.agg [.int .i64 c_x,.int .i64 c_y])]=>some (Wy (⟨a_x,a_y⟩:L.Pt) (⟨b_x,b_y⟩:L.Pt) (⟨c_x,c_y⟩:L.Pt),Wz (⟨a_x,a_y⟩:L.Pt) (⟨b_x,b_y⟩:L.Pt) (⟨c_x,c_y⟩:L.Pt))
 |_=>none
abbrev Ns:SE.Spec:=(AK W0)
def vP:Ak:={ muts:=[],frz:=B2 [],specs:=AB [],loops:=AV [],iters:=Bw [],rfs:=AT [],nils:=B3 [] }
theorem vQ (a:L.Pt) (b:L.Pt) (c:L.Pt) (hp:Wy a b c):vc Tryz.prog (vP) (Ah Tryz.f29) (Ap Tryz.f29 [.p (.agg [.int .i64 a.x,.int .i64 a.y]),.p (.agg [.int .i64 b.x,.int .i64 b.y]),.p (.agg [.int .i64 c.x,.int .i64 c.y])]) (AJ Tryz.prog Tryz.f29 (Wz a b c)):=
 @Eq.mpr _ (let A4:=(c.x-a.x);let A3:=(b.y-a.y);let A2:=(c.y-a.y);let A1:=(b.x-a.x);Ad .i64 A1/\Ad .i64 A2/\Ad .i64 (A1*A2)/\Ad .i64 A3/\Ad .i64 A4/\Ad .i64 (A3*A4)/\Ad .i64 (A1*A2-A3*A4)/\A1*A2-A3*A4=B4 a b c) (by kernel_rfl) (by
 conv=>zeta
 obtain⟨h1,h2,h3⟩:=hp;unfold AF at h1 h2 h3;have m1:=Ez (a:=b.x-a.x) (b:=c.y-a.y) (m:=8000000) (n:=8000000) (by omega) (by omega) (by omega) (by omega);have m2:=Ez (a:=b.y-a.y) (b:=c.x-a.x) (m:=8000000) (n:=8000000) (by omega) (by omega) (by omega) (by omega);exact⟨jK,jK,jK,jK,jK,jK,jK,rfl⟩)
theorem PJ:Av Tryz.prog 29 Ns:=AM Tryz.func29 (c:=Ah Tryz.f29) (by kernel_rfl) mixed (fun args p r hs hp=>by
 unfold W0 at hs;split at hs
 ·cases hs;exact⟨_,_,vQ _ _ _ hp,(.same _ (.same _ (.same _ .nil))),⟨show Aa Tryz.prog _ from Aa.nil,rfl,⟨show Ag Tryz.prog _ from Ag.nil,(Aw.none (fun _=>rfl))⟩⟩⟩
 ·cases hs)
theorem PK:Ao Tryz.prog 29:=fun args w=>by kernel_rfl
def W2 (a:L.Pt) (b:L.Pt):Prop:=True
def W3 (a:L.Pt) (b:L.Pt):SV:=.bool (decide (C9 a b<0))
def W4:List EV->Option (Prop×SV)
 |[.p (.agg [.int .i64 a_x,.int .i64 a_y]),.p (.agg [.int .i64 b_x,.int .i64 b_y])]=>some (W2 (⟨a_x,a_y⟩:L.Pt) (⟨b_x,b_y⟩:L.Pt),W3 (⟨a_x,a_y⟩:L.Pt) (⟨b_x,b_y⟩:L.Pt))
 |_=>none
abbrev W5:SE.Spec:=(AK W4)
def vR:Ak:={ muts:=[],frz:=B2 [],specs:=AB [],loops:=AV [],iters:=Bw [],rfs:=AT [],nils:=B3 [] }
theorem vS (a:L.Pt) (b:L.Pt) (hp:W2 a b):vc Tryz.prog (vR) (Ah Tryz.f59) (Ap Tryz.f59 [.p (.agg [.int .i64 a.x,.int .i64 a.y]),.p (.agg [.int .i64 b.x,.int .i64 b.y])]) (AJ Tryz.prog Tryz.f59 (W3 a b)):=
 @Eq.mpr _ ((bif decide (a.x<b.x)then true else bif decide (a.x=b.x)then decide (a.y<b.y)else false)=decide (C9 a b<(0:Int))) (by kernel_rfl) (by
 exact vG.symm)
theorem vT:Av Tryz.prog 59 W5:=AM Tryz.func59 (c:=Ah Tryz.f59) (by kernel_rfl) mixed (fun args p r hs hp=>by
 unfold W4 at hs;split at hs
 ·cases hs;exact⟨_,_,vS _ _ hp,(.same _ (.same _ .nil)),⟨show Aa Tryz.prog _ from Aa.nil,rfl,⟨show Ag Tryz.prog _ from Ag.nil,(Aw.none (fun _=>rfl))⟩⟩⟩
 ·cases hs)
theorem vU:Ao Tryz.prog 59:=fun args w=>by kernel_rfl
def W6 (a:L.Pt) (b:L.Pt) (p:L.Pt):Prop:=AF a/\AF b/\AF p
def W7 (a:L.Pt) (b:L.Pt) (p:L.Pt):SV:=.bool (CL a b p)
def W8:List EV->Option (Prop×SV)
 |[.p (.agg [.int .i64 a_x,.int .i64 a_y]),.p (.agg [.int .i64 b_x,.int .i64 b_y]),.p (.agg [.int .i64 p_x,.int .i64 p_y])]=>some (W6 (⟨a_x,a_y⟩:L.Pt) (⟨b_x,b_y⟩:L.Pt) (⟨p_x,p_y⟩:L.Pt),W7 (⟨a_x,a_y⟩:L.Pt) (⟨b_x,b_y⟩:L.Pt) (⟨p_x,p_y⟩:L.Pt))
 |_=>none
abbrev W9:SE.Spec:=(AK W8)
def vV:Ak:={ cC with specs:=AB [(29,Ns)] }
theorem vW (a:L.Pt) (b:L.Pt) (p:L.Pt) (hp:W6 a b p):vc Tryz.prog (vV) (Ah Tryz.f129) (Ap Tryz.f129 [.p (.agg [.int .i64 a.x,.int .i64 a.y]),.p (.agg [.int .i64 b.x,.int .i64 b.y]),.p (.agg [.int .i64 p.x,.int .i64 p.y])]) (AJ Tryz.prog Tryz.f129 (W7 a b p)):=
 @Eq.mpr _ ((AF a/\AF b/\AF p)/\(bif bif bif bif decide (B4 a b p=(0:Int))then decide (Min.min a.x b.x<=p.x)else false then decide (p.x<=Max.max a.x b.x)else false then decide (Min.min a.y b.y<=p.y)else false then decide (p.y<=Max.max a.y b.y)else false)=CL a b p) (by kernel_rfl) (by
 obtain⟨h1,h2,h3⟩:=hp;refine⟨⟨h1,h2,h3⟩,?_⟩;unfold CL Ay;rw[Ht,Ht,Ht,Ht];cases decide (B4 a b p=0)<;>cases decide (min a.x b.x<=p.x)<;>cases decide (p.x<=max a.x b.x)<;>cases decide (min a.y b.y<=p.y)<;>cases decide (p.y<=max a.y b.y)<;>rfl)
theorem vX:Av Tryz.prog 129 W9:=AM Tryz.func129 (c:=Ah Tryz.f129) (by kernel_rfl) mixed (fun args p r hs hp=>by
 unfold W8 at hs;split at hs
 ·cases hs;exact⟨_,_,vW _ _ _ hp,(.same _ (.same _ (.same _ .nil))),⟨show Aa Tryz.prog _ from(Aa.cons PJ PK Aa.nil),rfl,⟨show Ag Tryz.prog _ from Ag.nil,(Aw.none (fun _=>rfl))⟩⟩⟩
 ·cases hs)
theorem vY:Ao Tryz.prog 129:=fun args w=>by kernel_rfl
def WA (n:Int):Prop:=True
def WB (n:Int):SV:=.int .i64 (Br n 0)
def WC:List EV->Option (Prop×SV)
 |[.p (.int .i64 n)]=>some (WA n,WB n)
 |_=>none
abbrev WD:SE.Spec:=(AK WC)
def vZ:Ak:={ muts:=[],frz:=B2 [],specs:=AB [],loops:=AV [],iters:=Bw [],rfs:=AT [],nils:=B3 [] }
theorem wA (n:Int) (hp:WA n):vc Tryz.prog (vZ) (Ah Tryz.f130) (Ap Tryz.f130 [.p (.int .i64 n)]) (AJ Tryz.prog Tryz.f130 (WB n)):=
 @Eq.mpr _ ((decide ((0:Int)<n)=true->(1:Int)=Br n (0:Int))/\(decide ((0:Int)<n)=false->(decide (n<(0:Int))=true->(-1:Int)=Br n (0:Int))/\(decide (n<(0:Int))=false->(0:Int)=Br n (0:Int)))) (by kernel_rfl) (by
 refine⟨fun h=>?_,fun h=>⟨fun h1=>?_,fun h1=>?_⟩⟩
 ·have h:=of_decide_eq_true h;unfold Br;rw[decide_eq_false (by omega),decide_eq_true h];rfl
 ·have h1:=of_decide_eq_true h1;unfold Br;rw[decide_eq_true h1];rfl
 ·unfold Br;rw[h1,h];rfl)
theorem wB:Av Tryz.prog 130 WD:=AM Tryz.func130 (c:=Ah Tryz.f130) (by kernel_rfl) mixed (fun args p r hs hp=>by
 unfold WC at hs;split at hs
 ·cases hs;exact⟨_,_,wA _ hp,(.same _ .nil),⟨show Aa Tryz.prog _ from Aa.nil,rfl,⟨show Ag Tryz.prog _ from Ag.nil,(Aw.none (fun _=>rfl))⟩⟩⟩
 ·cases hs)
theorem wC:Ao Tryz.prog 130:=fun args w=>by kernel_rfl
def WE (l:(L.Sq L.Pt)) (i:Int):Prop:=1<=l.n/\l.n<=1000000 /\ -1000000<=i/\i<=1000000
def WF (l:(L.Sq L.Pt)) (i:Int):SV:=(.agg [.int .i64 ((l.g (En l.n i)).x),.int .i64 ((l.g (En l.n i)).y)])
def WG:List EV->Option (Prop×SV)
 |[.p (.sl 2 l_n l_g),.p (.int .i64 i)]=>some ((∀i,i<l_n->l_g i = [.int .i64 ((An (l_g i)).x),.int .i64 ((An (l_g i)).y)])/\WE (⟨l_n,fun i=>An (l_g i)⟩:(L.Sq L.Pt)) i,WF (⟨l_n,fun i=>An (l_g i)⟩:(L.Sq L.Pt)) i)
 |_=>none
abbrev Nt:SE.Spec:=(AK WG)
def wD:Ak:={ muts:=[],frz:=B2 [],specs:=AB [],loops:=AV [],iters:=Bw [],rfs:=AT [],nils:=B3 [] }
theorem wE (l:(L.Sq L.Pt)) (i:Int) (hp:WE l i):vc Tryz.prog (wD) (Ah Tryz.f60) (Ap Tryz.f60 [.p (.sl 2 l.n (fun i=>[.int .i64 ((l.g i).x),.int .i64 ((l.g i).y)])),.p (.int .i64 i)]) (AJ Tryz.prog Tryz.f60 (WF l i)):=
 @Eq.mpr _ (let M:=AfF;let A1:=(↑l.n:Int);let A2:=(M i A1+A1);let A3:=(l.g (Af1 (M A2 A1)));A1≠(0:Int)/\Ad .i64 A2/\A1≠(0:Int)/\((0:Int)<=M A2 A1/\M A2 A1<A1)/\SV.agg [SV.int .i64 A3.x,SV.int .i64 A3.y]=SV.agg [SV.int .i64 (l.g (En l.n i)).x,SV.int .i64 (l.g (En l.n i)).y]) (by kernel_rfl) (by
 conv=>zeta
 obtain⟨h1,h2,h3,h4⟩:=hp;obtain⟨q1,q2,q3,q4⟩:=vF (n:=l.n) (i:=i) (by omega);exact⟨by omega,jK,by omega,⟨q3,q4⟩,rfl⟩)
theorem PL:Av Tryz.prog 60 Nt:=AM Tryz.func60 (c:=Ah Tryz.f60) (by kernel_rfl) mixed (fun args p r hs hp=>by
 unfold WG at hs;split at hs
 ·cases hs;exact⟨_,_,wE _ _ hp.2,(.p (.sl hp.1) (.same _ .nil)),⟨show Aa Tryz.prog _ from Aa.nil,rfl,⟨show Ag Tryz.prog _ from Ag.nil,(Aw.none (fun _=>rfl))⟩⟩⟩
 ·cases hs)
theorem PM:Ao Tryz.prog 60:=fun args w=>by kernel_rfl
def WH (l:(L.Sq L.Pt)):Prop:=Fy l
def WI (l:(L.Sq L.Pt)):SV:=.int .i64 (Cq l l.n)
def WJ:List EV->Option (Prop×SV)
 |[.p (.sl 2 l_n l_g)]=>some ((∀i,i<l_n->l_g i = [.int .i64 ((An (l_g i)).x),.int .i64 ((An (l_g i)).y)])/\WH (⟨l_n,fun i=>An (l_g i)⟩:(L.Sq L.Pt)),WI (⟨l_n,fun i=>An (l_g i)⟩:(L.Sq L.Pt)))
 |_=>none
abbrev WK:SE.Spec:=(AK WJ)
def wF:Ak:={ cC with specs:=AB [(60,Nt)] }
theorem wG (l:(L.Sq L.Pt)) (hp:WH l):vc Tryz.prog ({ wF with loops:=AV [(3,{ T:=Nat,keep:=[0],keepO:=[],chg:=fun i=>[(3,.p (.int .i64 (Cq l i))),(4,.p (.int .i64 (i:Int)))],own:=fun _=>[],inv:=fun i=>i<=l.n,mu:=fun i=>l.n-i })],rfs:=AT [] }) (Ah Tryz.f58) (Ap Tryz.f58 [.p (.sl 2 l.n (fun i=>[.int .i64 ((l.g i).x),.int .i64 ((l.g i).y)]))]) (AJ Tryz.prog Tryz.f58 (WI l)):=
 @Eq.mpr _ (let I:=SV.int .i64;let A6:=(1:Int);let A4:=(∀(i:Nat),let A7:=[I (l.g i).x,I (l.g i).y];i<l.n->A7=A7);(∃(g:Nat),(0:Int)=Cq l g/\(0:Int)=(↑g:Int)/\g<=l.n)/\∀(g:Nat),let A3:=(↑g:Int);let A5:=(l.g (En l.n A3));let A2:=(l.g (En l.n (A3+A6)));let A1:=(A5.x*A2.y-A2.x*A5.y);g<=l.n->(decide (A3<(↑l.n
:Int))=true->(A4/\(1:Nat)<=l.n/\l.n<=(1000000:Nat)/\(-1000000:Int)<=A3/\A3<=(1000000:Int))/\Ad .i64 (A3+A6)/\(A4/\(1:Nat)<=l.n/\l.n<=(1000000:Nat)/\(-1000000:Int)<=A3+A6/\A3+A6<=(1000000:Int))/\Ad .i64 (A5.x*A2.y)/\Ad .i64 (A2.x*A5.y)/\Ad .i64 A1/\Ad .i64
 (Cq l g+A1)/\Ad .i64 (A3+A6)/\∃(g':Nat),Cq l g+A1=Cq l g'/\A3+A6=(↑g':Int)/\(l.n=l.n/\∀(i:Nat),let A8:=[I (l.g i).x,I (l.g i).y];i<l.n->A8=A8)/\g'<=l.n/\l.n-g'<l.n-g)/\(decide (A3<(↑l.n:Int))=false->Cq l g=Cq l l.n)) (by kernel_rfl) (by
  conv=>zeta
  have hs:Fy l:=hp;have hn:=hs.1;refine⟨⟨(0:Nat),rfl,rfl,Afg _⟩,fun g hg=>⟨fun hlt=>?_,fun hge=>?_⟩⟩
  ·have hb:(g:Int)<(l.n:Int):=of_decide_eq_true hlt;have hk:g<l.n:=by omega
   rw[Nr hk,PI hk];have b1:=Pw hs hk;have b2:=Px hs g hg;exact⟨⟨fun _ _=>rfl,by omega,by omega,by omega,by omega⟩,jK,⟨fun _ _=>rfl,by omega,by omega,by omega,by omega⟩,jK,jK,jK,jK,jK,g+1,rfl,by omega,⟨rfl,fun _ _=>rfl⟩,by omega,by omega⟩
  ·have hb:¬ (g:Int)<(l.n:Int):=of_decide_eq_false hge;obtain rfl:g=l.n:=by omega
   rfl)
theorem wH:Av Tryz.prog 58 WK:=AM Tryz.func58 (c:=Ah Tryz.f58) (by kernel_rfl) mixed (fun args p r hs hp=>by
 unfold WJ at hs;split at hs
 ·cases hs;exact⟨_,_,wG _ hp.2,(.p (.sl hp.1) .nil),⟨show Aa Tryz.prog _ from(Aa.cons PL PM Aa.nil),rfl,⟨show Ag Tryz.prog _ from Ag.nil,(Aw.none (fun _=>rfl))⟩⟩⟩
 ·cases hs)
theorem wI:Ao Tryz.prog 58:=fun args w=>by kernel_rfl
end
end Go.Proofs.YtijidjjfkahojaaGreat
