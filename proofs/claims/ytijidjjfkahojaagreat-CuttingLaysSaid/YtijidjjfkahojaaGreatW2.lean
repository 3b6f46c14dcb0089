/- A symbolic walk over the model, and what it shows of functions of the program: parts of the proof that the text of the row joins. -/
import Derived.Test.YtijidjjfkahojaaGreatW1
import Derived.Test.YtijidjjfkahojaaGreatE4
import Derived.KernelRfl
import Derived.Test.YtijidjjfkahojaaGreatE5
open List renaming getD_eq_getElem?_getD->AS,getElem?_eq_getElem->oE,mem_filter->Afh,all_eq_true->Afj,mem_cons->Afk,mem_range->Afl,range->Afm,mem_cons_of_mem->Afn,mem_singleton->Afr,mem_cons_self->Afs,mem_append->Afz,getElem?_append_left->Af2,getElem?_append_right->Af6,getElem_of_mem->Af9,length_append->AfK,mem_append_right->AfL,mem_flatMap->AfO,mem_append_left->AfQ,append_assoc->AfS,length_map->AfT,length_cons->AfZ,append_nil->Aga,pairwise_cons->Agd,map->Ago,pairwise_iff_getElem->Agt,length_filter_le->Agv,flatMap_append->Ag2,map_append->Ag4,any_eq_true->Ag5,range_succ->Ag8,take_add_one->AgN,pairwise_append->AgR,filter->AgS,length_take->AgU,pairwise_singleton->AgW,take_length->AgX
open Nat renaming not_lt_zero->Rc,zero_le->Afg,le_refl->Afo,lt_succ_iff_lt_or_eq->Aft,le_trans->AfI,lt_or_ge->AfP
open Bool renaming and_eq_true->nT,not_eq_true'->AfA,or_eq_true->AfE,or_eq_false_iff->Age,and_eq_true_iff->AgK
open Int renaming eq_ofNat_of_zero_le->Afw,toNat_natCast->Afy,toNat->Af1,le_refl->Af4,natCast_nonneg->Af7,le_of_lt->Af8,le_trans->Ag0
namespace Go.Proofs.YtijidjjfkahojaaGreat
open Go.SE Go.RowKit
set_option maxRecDepth 100000
set_option maxHeartbeats 4000000
set_option linter.unusedVariables false
attribute [local irreducible] vc
def Dr (a b c d:L.Pt) (i:Nat):L.Pt:=bif decide (i=0)then a else bif decide (i=1)then b else bif decide (i=2)then c else d
def E2 (a b c d p:L.Pt):Bool:=CL a b p&&CL c d p
def BK (a b c d:L.Pt):Nat->L.Sq L.Pt
 |0=>P7
 |n+1=>HH (E2 a b c d (Dr a b c d n)) (BK a b c d n) (Dr a b c d n)
theorem WL {a b:L.Pt}:CL a b a=true:=by
 unfold CL;rw[nT,nT,Jg,Jg];refine⟨⟨decide_eq_true ?_,by omega⟩,by omega⟩;unfold B4;simp
theorem WM {a b:L.Pt}:CL a b b=true:=by
 unfold CL;rw[nT,nT,Jg,Jg];refine⟨⟨decide_eq_true ?_,by omega⟩,by omega⟩;unfold B4;rw[Int.mul_comm];omega
theorem wJ {a b c d:L.Pt}:BK a b c d 4=DC a b c d 2:=by
 have h1:E2 a b c d a=CL c d a:=by unfold E2;rw[WL];rfl
 have h2:E2 a b c d b=CL c d b:=by unfold E2;rw[WM];rfl
 have h3:E2 a b c d c=CL a b c:=by unfold E2;rw[WL (a:=c),Bool.and_true]
 have h4:E2 a b c d d=CL a b d:=by unfold E2;rw[WM (a:=c),Bool.and_true]
 show HH (E2 a b c d d) (HH (E2 a b c d c) (HH (E2 a b c d b) (HH (E2 a b c d a) P7 a) b) c) d=_;rw[h1,h2,h3,h4];rfl
theorem wK (p q:L.Pt):C3 p q=C3 q p:=by
 unfold C3;rw[show decide (p.x=q.x)=decide (q.x=p.x)from by by_cases h:p.x=q.x<;>simp[h,eq_comm],show decide (p.y=q.y)=decide (q.y=p.y)from by by_cases h:p.y=q.y<;>simp[h,eq_comm]]
theorem wL {ks:L.Sq L.Pt} {p:L.Pt}:(Ga ks p).n<=ks.n+1:=by
 unfold Ga;cases Kg ks p
 ·exact Afo _
 ·exact Nat.le_succ _
theorem WN {a b c d:L.Pt}:∀{i:Nat},(BK a b c d i).n<=i
 |0=>Afo _
 |i+1=>by
   have ih:=WN (a:=a) (b:=b) (c:=c) (d:=d) (i:=i);rw[BK];cases E2 a b c d (Dr a b c d i)
   ·exact AfI ih (Nat.le_succ _)
   ·exact AfI wL (Nat.succ_le_succ ih)
theorem wM {l:L.Sq L.Pt} {k:Nat}:(bif bif decide (0<(k:Int))then !decide (C9 (l.g 0) (l.g k)<0)else false then true else decide (B4 (l.g (FG l.n k)) (l.g k) (l.g (Cf l.n k))=0))= !E0 l k:=by
 unfold E0;have:decide (0<=C9 (l.g 0) (l.g k))= !decide (C9 (l.g 0) (l.g k)<0):=by
  by_cases h:C9 (l.g 0) (l.g k)<0
  ·rw[decide_eq_true h,decide_eq_false (by omega)];rfl
  ·rw[decide_eq_false h,decide_eq_true (by omega)];rfl
 rw[this,Bool.not_not];cases decide (0<(k:Int))<;>cases decide (C9 (l.g 0) (l.g k)<0)<;>cases decide (B4 (l.g (FG l.n k)) (l.g k) (l.g (Cf l.n k))=0)<;>rfl
def WO (a:L.Pt) (b:L.Pt) (c:L.Pt) (d:L.Pt):Prop:=AF a/\AF b/\AF c/\AF d
def WP (a:L.Pt) (b:L.Pt) (c:L.Pt) (d:L.Pt):SV:=.int .i64 (CU a b c d)
def WQ:List EV->Option (Prop×SV)
 |[.p (.agg [.int .i64 a_x,.int .i64 a_y]),.p (.agg [.int .i64 b_x,.int .i64 b_y]),.p (.agg [.int .i64 c_x,.int .i64 c_y]),.p (.agg [.int .i64 d_x,.int .i64 d_y])]=>some (WO (⟨a_x,a_y⟩:L.Pt) (⟨b_x,b_y⟩:L.Pt) (⟨c_x,c_y⟩:L.Pt) (⟨d_x,d_y⟩:L.Pt),WP (⟨a_x,a_y⟩:L.Pt) (⟨b_x,b_y⟩:L.Pt) (⟨c_x,c_y⟩:L.Pt) (⟨d_x,d_y⟩:L.Pt))
 |_=>none
abbrev WR:SE.Spec:=(AK WQ)
def wN:Ak:={ cC with specs:=AB [(129,W9),(29,Ns),(130,WD)],nils:=B3 [(2,[(9,20,66,2)])] }
theorem wO (a:L.Pt) (b:L.Pt) (c:L.Pt) (d:L.Pt) (hp:WO a b c d):vc Tryz.prog ({ wN with loops:=AV [(4,{ T:=Nat,keep:=[4,5,6,7,9],keepO:=[],chg:=fun i=>[(10,.p (.sl 2 4 (fun j=>[.int .i64 ((Dr a b c d j).x),.int .i64 ((Dr a b c d j).y)]))),(11,.p (.int .i64 (i:Int)))],own:=fun i=>[(20,.row 66 2 (BK a b c d i).n (fun j=>[.int .i64 (((BK a b c d i).g j).x),.int .i64 (((BK a b c d i).g j).y)]))],inv:=fun i=>i<=4,mu:=fun i=>4-i }),(9,{ T:=Nat×Nat,keep:=[4,5,6,7,9,10,11],keepO:=[],tie:=fun g=>[(11,.int .i64 (g.1:Int))],chg:=fun g=>[(12,.p (.bool (Cl g.2 (fun j=>C3 ((BK a b c d g.1).g j) (Dr a b c d g.1))))),(13,.p (.int .i64 (g.2:Int)))],own:=fun g=>[(20,.row 66 2 (BK a b c d g.1).n (fun j=>[.int .i64 (((BK a b c d g.1).g j).x),.int .i64 (((BK a b c d g.1).g j).y)]))],inv:=fun g=>g.1<4/\g.2<=(BK a b c d g.1).n,mu:=fun g=>(BK a b c d g.1).n-g.2 })],rfs:=AT [] }) (Ah Tryz.f97) (Ap Tryz.f97 [.p (.agg [.int .i64 a.x,.int .i64 a.y]),.p (.agg [.int .i64 b.x,.int .i64 b.y]),.p (.agg [.int .i64 c.x,.int .i64 c.y]),.p (.agg [.int .i64 d.x,.int .i64 d.y])]) (AJ Tryz.prog Tryz.f97 (WP a b c d)):=
 @Eq.mpr _ (let I:=SV.int .i64;let T:=Af1;let A22:=(↑(nat_lit 4):Int);let A21:=(B4 a b d);let A20:=(B4 a b c);let A18:=(1:Int);let A17:=[I a.x,I a.y];let A16:=[I b.x,I b.y];let A15:=[I c.x,I c.y];let A14:=[I d.x,I d.y];let A11:=(4:Nat);let A6:=(0:Int);let A10:=(decide (Br A20 A6*Br A21 A6<A6)=true->True);let A7:=(bif decide (Br A20 A6*Br A21 A6<A6)then decide (Br (B4 c d a) A6*Br (B4 c d b) A6<A6)else false);let A5:=(nat_lit 0);let A3:=(nat_lit 4=A11/\∀(i:Nat),let A23:=(Dr a b c d i);i<nat_lit 4 -> [I A23.x,I A23.y]= [I A23.x,I A23.y]);(∃(g:Nat),let A30:=(BK a b c d g);(nat_lit 4=A11/\∀(i:Nat),i<nat_lit 4->BX [I a.x,I a.y,I b.x,I b.y,I c.x,I c.y,I d.x,I d.y] (nat_lit 2) i = [I (Dr a b c d i).x,I (Dr a b c d i).y])/\A6=(↑g:Int)/\(nat_lit 0=A30.n/\∀(i:Nat),i<nat_lit 0 -> []= [I (A30.g i).x,I (A30.g i).y])/\g<=A11)/\∀(g:Nat),let A9:=(BK a b c d g);let A26:=(↑A9.n:Int);let A8:=(↑g:Int);let A2:=(Dr a b c d (T A8));let A24:=(bif !CL a b A2 then true else !CL c d A2);g<=A11->(decide (A8<(4:Int))=true->(A6<=A8/\A8<A22)/\(AF a/\AF b/\AF A2)/\((!!CL a b A2)=true->A6<=A8/\A8<A22)/\((!!CL a b A2)=true->AF c/\AF d/\AF A2)/\(A24=true->Ad .i64 (A8+A18)/\∃(g':Nat),let A27:=(BK a b c d g');A3/\A8+A18=(↑g':Int)/\SV.ref A14 A5=SV.ref A14 A5/\SV.ref A15 A5=SV.ref A15 A5/\SV.ref A16 A5=SV.ref A16 A5/\SV.ref A17 A5=SV.ref A17 A5/\(A9.n=A27.n/\∀(i:Nat),i<A9.n -> [I (A9.g i).x,I (A9.g i).y]= [I (A27.g i).x,I (A27.g i).y])/\g'<=A11/\A11-g'<A11-g)/\(A24=false->(∃(g_1:Nat×Nat),let A19:=(BK a b c d g_1.1);(false=Cl g_1.2 fun(j:Nat)=>C3 (A19.g j) (Dr a b c d g_1.1))/\A6=(↑g_1.2:Int)/\(A9.n=A19.n/\∀(i:Nat),i<A9.n -> [I (A9.g i).x,I (A9.g i).y]= [I (A19.g i).x,I (A19.g i).y])/\A8=(↑g_1.1:Int)/\g_1.1<A11/\g_1.2<=A19.n)/\∀(g_1:Nat×Nat),let A31:=(Dr a b c d g_1.1);let A12:=(↑g_1.2:Int);let A1:=(BK a b c d g_1.1);let A32:=(↑A1.n:Int);let A4:=(!Cl g_1.2 fun(j:Nat)=>C3 (A1.g j) A31);A8=(↑g_1.1:Int)/\g_1.1<A11/\g_1.2<=A1.n->(decide (A12<A32)=true->(A4=true->A6<=A12/\A12<A32)/\(A4=true->T A12<A1.n)/\(A4=true->A6<=A8/\A8<A22)/\Ad .i64 (A12+A18)/\∃(g':Nat×Nat),let A13:=(BK a b c d g'.1);((bif Cl g_1.2 fun(j:Nat)=>C3 (A1.g j) A31 then true else decide ((A1.g (T A12)).x=A2.x)&&decide ((A1.g (T A12)).y=A2.y))=Cl g'.2 fun(j:Nat)=>C3 (A13.g j) (Dr a b c d g'.1))/\A12+A18=(↑g'.2:Int)/\(nat_lit 4=nat_lit 4/\∀(i:Nat),let A25:=(Dr a b c d i);i<nat_lit 4 -> [I A25.x,I A25.y]= [I A25.x,I A25.y])/\A8=A8/\SV.ref A14 A5=SV.ref A14 A5/\SV.ref A15 A5=SV.ref A15 A5/\SV.ref A16 A5=SV.ref A16 A5/\SV.ref A17 A5=SV.ref A17 A5/\(A1.n=A13.n/\∀(i:Nat),i<A1.n -> [I (A1.g i).x,I (A1.g i).y]= [I (A13.g i).x,I (A13.g i).y])/\(A8=(↑g'.1:Int)/\g'.1<A11/\g'.2<=A13.n)/\A13.n-g'.2<A1.n-g_1.2)/\(decide (A12<A32)=false->(A4=true->(A6<=A8/\A8<A22)/\(A1.n+nat_lit 1)*nat_lit 16<=(140737488355328:Nat)/\Ad .i64 (A8+A18)/\∃(g':Nat),let A28:=(BK a b c d g');A3/\A8+A18=(↑g':Int)/\SV.ref A14 A5=SV.ref A14 A5/\SV.ref A15 A5=SV.ref A15 A5/\SV.ref A16 A5=SV.ref A16 A5/\SV.ref A17 A5=SV.ref A17 A5/\(A1.n+nat_lit 1=A28.n/\∀(i:Nat),i<A1.n+nat_lit 1->AU A1.n (fun(j:Nat)=>[I (A1.g j).x,I (A1.g j).y]) (fun(x:Nat)=>[I A2.x,I A2.y]) i = [I (A28.g i).x,I (A28.g i).y])/\g'<=A11/\A11-g'<A11-g)/\(A4=false->Ad .i64 (A8+A18)/\∃(g':Nat),let A29:=(BK a b c d g');A3/\A8+A18=(↑g':Int)/\SV.ref A14 A5=SV.ref A14 A5/\SV.ref A15 A5=SV.ref A15 A5/\SV.ref A16 A5=SV.ref A16 A5/\SV.ref A17 A5=SV.ref A17 A5/\(A1.n=A29.n/\∀(i:Nat),i<A1.n -> [I (A1.g i).x,I (A1.g i).y]= [I (A29.g i).x,I (A29.g i).y])/\g'<=A11/\A11-g'<A11-g))))/\(decide (A8<(4:Int))=false->(decide (A18<A26)=true->(3:Int)=CU a b c d)/\(decide (A18<A26)=false->(decide (A26=A18)=true->A18=CU a b c d)/\(decide (A26=A18)=false->(AF a/\AF b/\AF c)/\True/\(AF a/\AF b/\AF d)/\True/\Ad .i64 (Br A20 A6*Br A21 A6)/\(decide (Br A20 A6*Br A21 A6<A6)=true->AF c/\AF d/\AF a)/\A10/\(decide (Br A20 A6*Br A21 A6<A6)=true->AF c/\AF d/\AF b)/\A10/\(decide (Br A20 A6*Br A21 A6<A6)=true->Ad .i64 (Br (B4 c d a) A6*Br (B4 c d b) A6))/\(A7=true->(2:Int)=CU a b c d)/\(A7=false->A6=CU a b c d))))) (by kernel_rfl) (by
 conv=>zeta
 obtain⟨ha,hb,hc,hd⟩:=hp;have hp4:∀i,AF (Dr a b c d i):=fun i=>by
  unfold Dr;cases decide (i=0)<;>cases decide (i=1)<;>cases decide (i=2)<;>assumption
 refine⟨⟨(0:Nat),⟨rfl,fun i hi=>by match i,hi with|0,_=>rfl|1,_=>rfl|2,_=>rfl|3,_=>rfl⟩,rfl,⟨rfl,fun i hi=>absurd hi (Rc _)⟩,by decide⟩,fun g hg=>⟨fun hlt=>?_,fun hge=>?_⟩⟩
 ·have hb1:(g:Int)<4:=of_decide_eq_true hlt;have e0:((g:Int)).toNat=g:=by omega
  rw[e0];refine⟨⟨by omega,hb1⟩,⟨ha,hb,hp4 g⟩,fun _=>⟨by omega,hb1⟩,fun _=>⟨hc,hd,hp4 g⟩,fun h1=>?_,fun h1=>?_⟩
  ·have hoff : E2 a b c d (Dr a b c d g)= false :=by
    unfold E2;revert h1;cases CL a b (Dr a b c d g)<;>cases CL c d (Dr a b c d g)<;>intro h1<;>first|rfl|cases h1
   have e:BK a b c d (g+1)=BK a b c d g:=by rw[BK,hoff];rfl
   refine⟨jK,g+1,⟨rfl,fun _ _=>rfl⟩,by omega,rfl,rfl,rfl,rfl,?_,by omega,by omega⟩;rw[e];exact⟨rfl,fun _ _=>rfl⟩
  ·have hon : E2 a b c d (Dr a b c d g)= true :=by
    unfold E2;revert h1;cases CL a b (Dr a b c d g)<;>cases CL c d (Dr a b c d g)<;>intro h1<;>first|rfl|cases h1
   refine⟨⟨(g,0),rfl,rfl,⟨rfl,fun _ _=>rfl⟩,rfl,by show g<4;omega,Afg _⟩,?_⟩;rintro⟨g',k⟩ ⟨e1,e2,e3⟩;have e1:(g:Int)=(g':Int):=e1;obtain rfl:g=g':=by omega
   have e3:k<=(BK a b c d g).n:=e3;have ek:((k:Int)).toNat=k:=by omega
   have hcn:=WN (a:=a) (b:=b) (c:=c) (d:=d) (i:=g);dsimp only;rw[ek];refine⟨fun hlt2=>?_,fun hge2=>?_⟩
   ·have hk:(k:Int)<((BK a b c d g).n:Int):=of_decide_eq_true hlt2;refine⟨fun _=>⟨by omega,hk⟩,fun _=>(show k<(BK a b c d g).n by omega),fun _=>⟨by omega,hb1⟩,jK,(g,k+1),?_,by show(k:Int)+1=((k+1:Nat):Int);omega,⟨rfl,fun _ _=>rfl⟩,rfl,rfl,rfl,rfl,rfl,⟨rfl,fun _ _=>rfl⟩,⟨rfl,by show g<4;omega,by show k+1<=(BK a b c d g).n;omega⟩,by show(BK a b c d g).n-(k+1)<(BK a b c d g).n-k;omega⟩;rw[FZ];rfl
   ·have hk:¬ (k:Int)<((BK a b c d g).n:Int):=of_decide_eq_false hge2;obtain rfl:k=(BK a b c d g).n:=by omega
    have hhas:Cl (BK a b c d g).n (fun j=>C3 ((BK a b c d g).g j) (Dr a b c d g))=Kg (BK a b c d g) (Dr a b c d g):=
     sD (fun i _=>wK _ _)
    rw[hhas];refine⟨fun h2=>?_,fun h2=>?_⟩
    ·have e : BK a b c d (g+1)= ⟨(BK a b c d g).n+1, fun i =>if i<(BK a b c d g).n then(BK a b c d g).g i else Dr a b c d g⟩:=by
      rw[BK,hon];show Ga _ _=_;unfold Ga;rw[Cx h2];rfl
     refine⟨⟨by omega,hb1⟩,show((BK a b c d g).n+1)*16<=140737488355328 by omega,jK,g+1,⟨rfl,fun _ _=>rfl⟩,by omega,rfl,rfl,rfl,rfl,?_,by omega,by omega⟩;rw[e];refine⟨rfl,fun i hi=>?_⟩;unfold AU;dsimp only
     by_cases h':i<(BK a b c d g).n
     ·rw[if_pos h',if_pos h']
     ·rw[if_neg h',if_neg h']
    ·have e : BK a b c d (g+1)= BK a b c d g :=by
      rw[BK,hon];show Ga _ _=_;unfold Ga;rw[Ca h2];rfl
     refine⟨jK,g+1,⟨rfl,fun _ _=>rfl⟩,by omega,rfl,rfl,rfl,rfl,?_,by omega,by omega⟩;rw[e];exact⟨rfl,fun _ _=>rfl⟩
 ·have hb1:¬ (g:Int)<4:=of_decide_eq_false hge;obtain rfl:g=4:=by omega
  rw[wJ];have q1:=Kd (B4 a b c) 0;have q2:=Kd (B4 a b d) 0;have q3:=Kd (B4 c d a) 0;have q4:=Kd (B4 c d b) 0;have m1:=Ez (m:=1) (n:=1) q1.1 q1.2 q2.1 q2.2;have m2:=Ez (m:=1) (n:=1) q3.1 q3.2 q4.1 q4.2;refine⟨fun h1=>?_,fun h1=>⟨fun h2=>?_,fun h2=>⟨⟨ha,hb,hc⟩,trivial,⟨ha,hb,hd⟩,trivial,jK,fun _=>⟨hc,hd,ha⟩,fun _=>trivial,fun _=>⟨hc,hd,hb⟩,fun _=>trivial,fun _=>jK,fun h3=>?_,fun h3=>?_⟩⟩⟩
  ·unfold CU;rw[h1];rfl
  ·unfold CU;rw[h1,h2];rfl
  ·have h3:(bif GN a b c d then GN c d a b else false)=true:=h3;unfold CU;rw[h1,h2,h3];rfl
  ·have h3:(bif GN a b c d then GN c d a b else false)=false:=h3;unfold CU;rw[h1,h2,h3];rfl)
theorem wP:Av Tryz.prog 97 WR:=AM Tryz.func97 (c:=Ah Tryz.f97) (by kernel_rfl) mixed (fun args p r hs hp=>by
 unfold WQ at hs;split at hs
 ·cases hs;exact⟨_,_,wO _ _ _ _ hp,(.same _ (.same _ (.same _ (.same _ .nil)))),⟨show Aa Tryz.prog _ from(Aa.cons vX vY (Aa.cons PJ PK (Aa.cons wB wC Aa.nil))),rfl,⟨show Ag Tryz.prog _ from Ag.nil,(Aw.none (fun _=>rfl))⟩⟩⟩
 ·cases hs)
theorem wQ:Ao Tryz.prog 97:=fun args w=>by kernel_rfl
def WS (l:(L.Sq L.Pt)):Prop:=Io l
def WT (l:(L.Sq L.Pt)):SV:=.bool (Em l)
def WU:List EV->Option (Prop×SV)
 |[.p (.sl 2 l_n l_g)]=>some ((∀i,i<l_n->l_g i = [.int .i64 ((An (l_g i)).x),.int .i64 ((An (l_g i)).y)])/\WS (⟨l_n,fun i=>An (l_g i)⟩:(L.Sq L.Pt)),WT (⟨l_n,fun i=>An (l_g i)⟩:(L.Sq L.Pt)))
 |_=>none
abbrev WV:SE.Spec:=(AK WU)
def wR:Ak:={ cC with specs:=AB [(60,Nt),(97,WR)] }
theorem wT (l:(L.Sq L.Pt)) (hp:WS l):vc Tryz.prog ({ wR with loops:=AV [(3,{ T:=Nat,keep:=[0,3],keepO:=[],chg:=fun i=>[(4,.p (.int .i64 (i:Int)))],own:=fun _=>[],inv:=fun i=>i<=l.n/\∀j,j<i->∀k,j<k->k<l.n->Cm l j k=true,mu:=fun i=>l.n-i }),(6,{ T:=Nat×Nat,keep:=[0,3,4],keepO:=[],tie:=fun i=>[(4,.int .i64 (i.1:Int))],chg:=fun i=>[(5,.p (.int .i64 (i.2:Int)))],own:=fun _=>[],inv:=fun i=>i.1<i.2/\i.2<=l.n/\(∀j,j<i.1->∀k,j<k->k<l.n->Cm l j k=true)/\∀k,i.1<k->k<i.2->Cm l i.1 k=true,mu:=fun i=>l.n-i.2 })],rfs:=AT [] }) (Ah Tryz.f57) (Ap Tryz.f57 [.p (.sl 2 l.n (fun i=>[.int .i64 ((l.g i).x),.int .i64 ((l.g i).y)]))]) (AJ Tryz.prog Tryz.f57 (WT l)):=
 @Eq.mpr _ (let I:=SV.int .i64;let A19:=(1:Nat);let A15:=(0:Int);let A12:=(1000000:Int);let A11:=(1000000:Nat);let A10:=(-1000000:Int);let A7:=(l.n=l.n/\∀(i:Nat),let A17:=[I (l.g i).x,I (l.g i).y];i<l.n->A17=A17);let A6:=(↑l.n:Int);let A5:=(1:Int);let A2:=(∀(i:Nat),let A18:=[I (l.g i).x,I (l.g i).y];i<l.n->A18=A18);(∃(g
:Nat),A15=(↑g:Int)/\g<=l.n/\∀(j:Nat),j<g->∀(k:Nat),j<k->k<l.n->Cm l j k=true)/\∀(g:Nat),let A4:=(↑g:Int);let A16:=(A4+A5);let A13:=(l.g (En l.n A4));let A8:=(l.g (En l.n A16));(g<=l.n/\∀(j:Nat),j<g->∀(k:Nat),j<k->k<l.n->Cm l j k=true)->(decide (A4<A6)=true->Ad .i64
 A16/\(∃(g_1:Nat×Nat),A4+A5=(↑g_1.2:Int)/\A4=(↑g_1.1:Int)/\g_1.1<g_1.2/\g_1.2<=l.n/\(∀(j:Nat),j<g_1.1->∀(k:Nat),j<k->k<l.n->Cm l j k=true)/\∀(k:Nat),g_1.1<k->k<g_1.2->Cm l g_1.1 k=true)/\∀(g_1:Nat×Nat),let A3:=(↑g_1.2:Int);let A14:=(l.g (En l.n A3));let A9:=(l.g (En l.n (A3+A5)));let A1:=(bif bif
 bif decide (A3=A4+A5)then true else bif decide (A4=A15)then decide (A3=A6-A5)else false then !decide (CU A13 A8 A14 A9=A5)else false then true else bif !bif decide (A3=A4+A5)then true else bif decide (A4=A15)then decide (A3=A6-A5)else false then !decide
 (CU A13 A8 A14 A9=A15)else false);(A4=(↑g_1.1:Int)/\g_1.1<g_1.2/\g_1.2<=l.n/\(∀(j:Nat),j<g_1.1->∀(k:Nat),j<k->k<l.n->Cm l j k=true)/\∀(k:Nat),g_1.1<k->k<g_1.2->Cm l g_1.1 k=true)->(decide (A3<A6)=true->(A2/\A19<=l.n/\l.n<=A11/\A10<=A4/\A4<=A12)/\Ad .i64 A16/\(A2/\A19<=l.n
 /\ l.n<=A11/\A10<=A4+A5/\A4+A5<=A12)/\(A2/\A19<=l.n/\l.n<=A11/\A10<=A3/\A3<=A12)/\Ad .i64 (A3+A5)/\(A2/\A19<=l.n/\l.n<=A11/\A10<=A3+A5/\A3+A5<=A12)/\(AF A13/\AF A8/\AF A14/\AF A9)/\Ad .i64 A16/\((!decide (A3=A4+A5)&&decide (A4=A15))=true->Ad .i64 (A6-A5))/\(A1 =
 true->false=Em l)/\(A1=false->Ad .i64 (A3+A5)/\∃(g':Nat×Nat),A3+A5=(↑g'.2:Int)/\A4=A4/\A6=A6/\A7/\(A4=(↑g'.1:Int)/\g'.1<g'.2/\g'.2<=l.n/\(∀(j:Nat),j<g'.1->∀(k:Nat),j<k->k<l.n->Cm l j k=true)/\∀(k:Nat),g'.1<k->k<g'.2->Cm l g'.1 k=true)/\l.n-g'.2<l.n-g_1.2)) /\
 (decide (A3<A6)=false->Ad .i64 A16/\∃(g':Nat),A4+A5=(↑g':Int)/\A6=A6/\A7/\(g'<=l.n/\∀(j:Nat),j<g'->∀(k:Nat),j<k->k<l.n->Cm l j k=true)/\l.n-g'<l.n-g))/\(decide (A4<A6)=false->true=Em l)) (by kernel_rfl) (by
  conv=>zeta
  obtain⟨hn,hb⟩:=hp;have fin0:∀{i k:Nat},i<k->k<l.n->Cm l i k=false->false=Em l:=fun {i k} hik hk h=>by
   unfold Em;rw[FF (i:=i) (by omega) (FF (i:=k) hk (by simp[hik,h]))]
  refine⟨⟨(0:Nat),rfl,Afg _,fun j hj=>absurd hj (Rc _)⟩,fun g hg=>⟨fun hlt=>?_,fun hge=>?_⟩⟩
  ·have hb1:(g:Int)<(l.n:Int):=of_decide_eq_true hlt;refine⟨jK,⟨(g,g+1),by show(g:Int)+1=((g+1:Nat):Int);omega,rfl,Nat.lt_succ_self g,by show g+1<=l.n;omega,hg.2,fun k h1 h2=>?_⟩,?_⟩
   ·have h1:g<k:=h1;have h2:k<g+1:=h2;omega
   rintro⟨i,k⟩ ⟨e1,hik,hkn,h0,h1⟩;have e1:(g:Int)=(i:Int):=e1;obtain rfl:g=i:=by omega
   have hik:g<k:=hik;have hkn:k<=l.n:=hkn;have h0:∀j,j<g->∀k,j<k->k<l.n->Cm l j k=true:=h0;have h1:∀m,g<m->m<k->Cm l g m=true:=h1;dsimp only;refine⟨fun hlt2=>?_,fun hge2=>?_⟩
   ·have hk:(k:Int)<(l.n:Int):=of_decide_eq_true hlt2;have c5:Cf l.n k<l.n:=In (by omega);have c2:En l.n ((g:Int)+1)=g+1:=by
     rw[show(g:Int)+1=((g+1:Nat):Int)by omega,Nr (by omega)]
    rw[Nr (n:=l.n) (k:=g) (by omega),c2,Nr (n:=l.n) (k:=k) (by omega),PI (n:=l.n) (k:=k) (by omega)];have key:(bif (bif (bif decide ((k:Int)=(g:Int)+1)then true else bif decide ((g:Int)=0)then decide ((k:Int)=(l.n:Int)-1)else false)then !decide (CU (l.g g) (l.g (g+1)) (l.g k) (l.g (Cf l.n k))=1)else false)then true else bif !(bif decide ((k:Int)=(g:Int)+1)then true else bif decide ((g:Int)=0)then decide ((k:Int)=(l.n:Int)-1)else false)then !decide (CU (l.g g) (l.g (g+1)) (l.g k) (l.g (Cf l.n k))=0)else false)= !Cm l g k:=by
     unfold Cm P8 Nk;generalize (bif decide ((k:Int)=(g:Int)+1)then true else bif decide ((g:Int)=0)then decide ((k:Int)=(l.n:Int)-1)else false)=q;generalize decide (CU (l.g g) (l.g (g+1)) (l.g k) (l.g (Cf l.n k))=1)=q1;generalize decide (CU (l.g g) (l.g (g+1)) (l.g k) (l.g (Cf l.n k))=0)=q2;cases q<;>cases q1<;>cases q2<;>rfl
    rw[key];refine⟨⟨fun _ _=>rfl,by omega,by omega,by omega,by omega⟩,jK,⟨fun _ _=>rfl,by omega,by omega,by omega,by omega⟩,⟨fun _ _=>rfl,by omega,by omega,by omega,by omega⟩,jK,⟨fun _ _=>rfl,by omega,by omega,by omega,by omega⟩,⟨hb g (by omega),hb (g+1) (by omega),hb k (by omega),hb _ c5⟩,jK,fun _=>jK,fun h=>fin0 hik (by omega) (Cx h),fun h=>?_⟩;have hok:Cm l g k=true:=Ca h;refine⟨jK,(g,k+1),by show(k:Int)+1=((k+1:Nat):Int);omega,rfl,rfl,⟨rfl,fun _ _=>rfl⟩,⟨rfl,by show g<k+1;omega,by show k+1<=l.n;omega,h0,fun m hm1 hm2=>?_⟩,by show l.n-(k+1)<l.n-k;omega⟩;have hm1:g<m:=hm1;have hm2:m<k+1:=hm2;show Cm l g m=true;rcases Aft.1 hm2 with h'|rfl
    ·exact h1 m hm1 h'
    ·exact hok
   ·have hk:¬ (k:Int)<(l.n:Int):=of_decide_eq_false hge2;refine⟨jK,g+1,by omega,rfl,⟨rfl,fun _ _=>rfl⟩,⟨by omega,fun j hj m hm1 hm2=>?_⟩,by omega⟩;rcases Aft.1 hj with h'|rfl
    ·exact h0 j h' m hm1 hm2
    ·exact h1 m hm1 (by omega)
  ·have hb1:¬ (g:Int)<(l.n:Int):=of_decide_eq_false hge;unfold Em;rw[CQ.2 (fun i hi=>CQ.2 (fun k hk=>?_))]
   by_cases hik:i<k
   ·simp[hik,hg.2 i (by omega) k hik hk]
   ·simp[hik])
theorem wU:Av Tryz.prog 57 WV:=AM Tryz.func57 (c:=Ah Tryz.f57) (by kernel_rfl) mixed (fun args p r hs hp=>by
 unfold WU at hs;split at hs
 ·cases hs;exact⟨_,_,wT _ hp.2,(.p (.sl hp.1) .nil),⟨show Aa Tryz.prog _ from(Aa.cons PL PM (Aa.cons wP wQ Aa.nil)),rfl,⟨show Ag Tryz.prog _ from Ag.nil,(Aw.none (fun _=>rfl))⟩⟩⟩
 ·cases hs)
theorem wV:Ao Tryz.prog 57:=fun args w=>by kernel_rfl
def WW (l:(L.Sq L.Pt)):Prop:=True
def WX (l:(L.Sq L.Pt)):SV:=.bool (AP l)
def WY:List EV->Option (Prop×SV)
 |[.p (.sl 2 l_n l_g)]=>some ((∀i,i<l_n->l_g i = [.int .i64 ((An (l_g i)).x),.int .i64 ((An (l_g i)).y)])/\WW (⟨l_n,fun i=>An (l_g i)⟩:(L.Sq L.Pt)),WX (⟨l_n,fun i=>An (l_g i)⟩:(L.Sq L.Pt)))
 |_=>none
abbrev PN:SE.Spec:=(AK WY)
def wW:Ak:={ cC with specs:=AB [(56,Wx),(57,WV),(58,WK),(59,W5),(60,Nt),(29,Ns)] }
theorem wX (l:(L.Sq L.Pt)) (hp:WW l):vc Tryz.prog ({ wW with loops:=AV [(4,{ T:=Nat,keep:=[0],keepO:=[],chg:=fun i=>[(3,.p (.int .i64 (i:Int)))],own:=fun _=>[],inv:=fun i=>i<=l.n/\∀j,j<i->E0 l j=true,mu:=fun i=>l.n-i })],rfs:=AT [] }) (Ah Tryz.f24) (Ap Tryz.f24 [.p (.sl 2 l.n (fun i=>[.int .i64 ((l.g i).x),.int .i64 ((l.g i).y)]))]) (AJ Tryz.prog Tryz.f24 (WX l)):=
 @Eq.mpr _ (let I:=SV.int .i64;let T:=Af1;let A17:=(3:Int);let A16:=(24:Int);let A11:=(1000000:Nat);let A9:=(1:Int);let A8:=(0:Int);let A7:=(↑l.n:Int);let A5:=(L.Sq.mk l.n fun(i:Nat)=>l.g i);let A4:=(∀(i:Nat),let A12:=[I (l.g i).x,I (l.g i).y];i<l.n->A12=A12);let A2:=(bif bif bif bif decide (A7<A17)then true else decide (A16<A7)then true else !EN A5 then true else !Em A5 then true else decide (Cq A5 l.n<=A8));((!bif decide (A7<A17)then true else decide (A16<A7))=true->A4/\l.n<=A11)/\((!bif bif decide (A7<A17)then true else decide (A16<A7)then true else !EN A5)=true->A4/\Io A5)/\((!bif bif bif decide (A7<A17)then true else decide (A16<A7)then true else !EN A5 then true else !Em A5)=true->A4/\Fy A5)/\(A2=true->false=AP l)/\(A2=false->(∃(g:Nat),A8=(↑g:Int)/\g<=l.n/\∀(j:Nat),j<g->E0 l j=true)/\∀(g:Nat),let A6:=(↑g:Int);let A14:=(l.g (En l.n (A6+A9)));let A13:=(l.g (En l.n (A6-A9)));let A10:=(l.g (T A6));let A3:=(bif bif decide (A8<A6)then !decide (C9 (l.g (T A8)) A10<A8)else false then true else decide (B4 A13 A10 A14=A8));let A1:=(!bif decide (A8<A6)then !decide (C9 (l.g (T A8)) A10<A8)else false);(g<=l.n/\∀(j:Nat),j<g->E0 l j=true)->(decide (A6<A7)=true->(decide (A8<A6)=true->A8<=A8/\A8<A7)/\(decide (A8<A6)=true->A8<=A6/\A6<A7)/\(decide (A8<A6)=true->True)/\(A1=true->Ad .i64 (A6-A9))/\(A1=true->A4/\(1:Nat)<=l.n/\l.n<=A11/\(-1000000:Int)<=A6-A9/\A6-A9<=(1000000:Int))/\(A1=true->A8<=A6/\A6<A7)/\(A1=true->Ad .i64 (A6+A9))/\(A1=true->A4/\(1:Nat)<=l.n/\l.n<=A11/\(-1000000:Int)<=A6+A9/\A6+A9<=(1000000:Int))/\(A1=true->AF A13/\AF A10/\AF A14)/\(A3=true->false=AP l)/\(A3=false->Ad .i64 (A6+A9)/\∃(g':Nat),A6+A9=(↑g':Int)/\(l.n=l.n/\∀(i:Nat),let A15:=[I (l.g i).x,I (l.g i).y];i<l.n->A15=A15)/\(g'<=l.n/\∀(j:Nat),j<g'->E0 l j=true)/\l.n-g'<l.n-g))/\(decide (A6<A7)=false->true=AP l))) (by kernel_rfl) (by
 conv=>zeta
 have c1:(bif decide ((l.n:Int)<3)then true else decide (24<(l.n:Int)))= !Ay (l.n:Int) 3 24:=by
  rw[FZ,Bool.eq_iff_iff,AfE,decide_eq_true_eq,decide_eq_true_eq,AfA,Bool.eq_false_iff,Ne,Jg];omega
 rw[c1];have sp:Ay (l.n:Int) 3 24=true->EN l=true->3<=l.n/\l.n<=24/\Fy l/\Io l:=PA;refine⟨fun h=>⟨fun _ _=>rfl,?_⟩,fun h=>⟨fun _ _=>rfl,?_⟩,fun h=>⟨fun _ _=>rfl,?_⟩,fun h=>?_,fun h=>?_⟩
 ·have:=Jg.1 (Ca (Cx h));omega
 ·have h:=Cx h;rw[FZ,Age]at h;exact(sp (Ca h.1) (Ca h.2)).2.2.2
 ·have h:=Cx h;rw[FZ,FZ,Age,Age]at h;exact(sp (Ca h.1.1) (Ca h.1.2)).2.2.1
 ·have h:(bif bif bif !Ay (l.n:Int) 3 24 then true else !EN l then true else !Em l then true else decide (Cq l l.n<=0))=true:=h;have e3:Gx l=false\/Em l=false:=by
   rw[FZ,FZ,FZ,AfE,AfE,AfE]at h;unfold Gx;rcases h with ((h|h)|h)|h
   ·rw[Cx h];exact .inl rfl
   ·rw[Cx h];left;cases Ay (l.n:Int) 3 24<;>rfl
   ·exact .inr (Cx h)
   ·left;have:=of_decide_eq_true h;rw[decide_eq_false (show ¬ 0<Cq l l.n by omega)];cases Ay (l.n:Int) 3 24<;>cases EN l<;>rfl
  unfold AP;rcases e3 with e3|e3<;>rw[e3]<;>simp
 have h:(bif bif bif !Ay (l.n:Int) 3 24 then true else !EN l then true else !Em l then true else decide (Cq l l.n<=0))=false:=h;rw[FZ,FZ,FZ,Age,Age,Age]at h;obtain⟨⟨⟨h1,h2⟩,h3⟩,h4⟩:=h;have h1:=Ca h1;have h2:=Ca h2;have h3:=Ca h3;have h4:=of_decide_eq_false h4;obtain⟨n3,n24,hsm,hbd⟩:=sp h1 h2;have hv:Gx l=true:=by
  unfold Gx;rw[h1,h2,decide_eq_true (show 0<Cq l l.n by omega)];rfl
 refine⟨⟨(0:Nat),rfl,Afg _,fun j hj=>absurd hj (Rc _)⟩,fun g hg=>⟨fun hlt=>?_,fun hge=>?_⟩⟩
 ·have hb:(g:Int)<(l.n:Int):=of_decide_eq_true hlt;have hk:g<l.n:=by omega
  have e0:((g:Int)).toNat=g:=by omega
  have key:=wM (l:=l) (k:=g);rw[e0,vE hk,PI hk];refine⟨fun _=>by omega,fun _=>by omega,fun _=>trivial,fun _=>jK,fun _=>⟨fun _ _=>rfl,by omega,by omega,by omega,by omega⟩,fun _=>by omega,fun _=>jK,fun _=>⟨fun _ _=>rfl,by omega,by omega,by omega,by omega⟩,fun _=>⟨hbd.2 _ (P9 (by omega)),hbd.2 _ hk,hbd.2 _ (In (by omega))⟩,fun h=>?_,fun h=>?_⟩
  ·have h:E0 l g=false:=Cx (key.symm.trans h);unfold AP;rw[FF hk h];simp
  ·have h:E0 l g=true:=Ca (key.symm.trans h);exact⟨jK,g+1,by omega,⟨rfl,fun _ _=>rfl⟩,⟨by omega,fun j hj=>by
    rcases Aft.1 hj with h'|rfl
    ·exact hg.2 j h'
    ·exact h⟩,by omega⟩
 ·have hb:¬ (g:Int)<(l.n:Int):=of_decide_eq_false hge;unfold AP;rw[hv,CQ.2 (fun i hi=>hg.2 i (by omega)),h3];rfl)
theorem WZ:Av Tryz.prog 24 PN:=AM Tryz.func24 (c:=Ah Tryz.f24) (by kernel_rfl) mixed (fun args p r hs hp=>by
 unfold WY at hs;split at hs
 ·cases hs;exact⟨_,_,wX _ hp.2,(.p (.sl hp.1) .nil),⟨show Aa Tryz.prog _ from(Aa.cons vN vO (Aa.cons wU wV (Aa.cons wH wI (Aa.cons vT vU (Aa.cons PL PM (Aa.cons PJ PK Aa.nil)))))),rfl,⟨show Ag Tryz.prog _ from Ag.nil,(Aw.none (fun _=>rfl))⟩⟩⟩
 ·cases hs)
theorem Xa:Ao Tryz.prog 24:=fun args w=>by kernel_rfl
def Ff (l:L.Sq L.Pt):Int:=bif AP l then 0 else 1
def CF (l:L.Sq L.Pt):Nat->L.Pt
 |0=>l.g 0
 |k+1=>⟨min (CF l k).x (l.g k).x,min (CF l k).y (l.g k).y⟩
def CG (l:L.Sq L.Pt):Nat->L.Pt
 |0=>l.g 0
 |k+1=>⟨max (CG l k).x (l.g k).x,max (CG l k).y (l.g k).y⟩
def BL (l:L.Sq L.Pt):L.Pt:=bif AP l then CF l l.n else⟨0,0⟩
def BM (l:L.Sq L.Pt):L.Pt:=bif AP l then CG l l.n else⟨0,0⟩
structure Ab where
 id:Int
 colour:Int
 grain:Int
 ol:L.Sq L.Pt
structure Aj where
 id:Int
 colour:Int
 w:Int
 h:Int
 grain:Int
structure Ac where
 w:Int
 h:Int
def B6:List SV->Ab
 |[.int _ a,.int _ b,.int _ c,.sl _ n g]=>⟨a,b,c,⟨n,fun i=>An (g i)⟩⟩
 |_=>⟨0,0,0,⟨0,fun _=>⟨0,0⟩⟩⟩
def DD:List SV->Prop
 |[.int .i64 _,.int .i64 _,.int .i64 _,.sl 2 n g]=>∀i,i<n->g i = [.int .i64 (An (g i)).x,.int .i64 (An (g i)).y]
 |_=>False
def CW:List SV->Aj
 |[.int _ a,.int _ b,.int _ c,.int _ d,.int _ e]=>⟨a,b,c,d,e⟩
 |_=>⟨0,0,0,0,0⟩
def Cc:List SV->Ac
 |[.int _ a,.int _ b]=>⟨a,b⟩
 |_=>⟨0,0⟩
theorem PO {l:List SV} (h:DD l):l.length=4/\∀j,j<4->AX (SV.at l j) (SV.at [.int .i64 (B6 l).id,.int .i64 (B6 l).colour,.int .i64 (B6 l).grain,.sl 2 (B6 l).ol.n (fun i=>[.int .i64 ((B6 l).ol.g i).x,.int .i64 ((B6 l).ol.g i).y])] j):=by
 unfold DD at h;split at h
 ·rename_i a b c n g;refine⟨rfl,fun j hj=>?_⟩
  match j,hj with
  |0,_=>exact .refl _
  |1,_=>exact .refl _
  |2,_=>exact .refl _
  |3,_=>exact .sl h
 ·exact h.elim
theorem EP {n:Nat} {g:Nat->List SV} (h:∀i,i<n->DD (g i)):AX (.sl 4 n g) (.sl 4 n (fun i=>[.int .i64 (B6 (g i)).id,.int .i64 (B6 (g i)).colour,.int .i64 (B6 (g i)).grain,.sl 2 (B6 (g i)).ol.n (fun i1=>[.int .i64 ((B6 (g i)).ol.g i1).x,.int .i64 ((B6 (g i)).ol.g i1).y])])):=
 .sl2 (fun i hi=>by rw[(PO (h i hi)).1];rfl) (fun i hi j hj=>(PO (h i hi)).2 j (by rw[(PO (h i hi)).1]at hj;exact hj))
def BH (s:Aj):Bool:=bif (bif (bif (bif Ay s.id 1 65535 then Ay s.colour 1 16 else false)then Ay s.w 1 4096 else false)then Ay s.h 1 4096 else false)then Ay s.grain 0 2 else false
def Di (w:Ab):Bool:=bif (bif (bif Ay w.id 1 65535 then Ay w.colour 1 16 else false)then Ay w.grain 0 2 else false)then AP w.ol else false
def Cz (own grain turn:Int):Bool:=bif (bif decide (own=0)then true else decide (grain=0))then true else(decide (turn=0) == decide (own=grain))
def Bv (l:L.Sq L.Pt) (turn:Int):Ac:=bif decide (turn=1)then⟨(BM l).y-(BL l).y,(BM l).x-(BL l).x⟩else⟨(BM l).x-(BL l).x,(BM l).y-(BL l).y⟩
theorem HJ {p:L.Pt}:C2 p=true↔0<=p.x/\p.x<=4096/\0<=p.y/\p.y<=4096:=by
 unfold C2 Ay;rw[nT,nT,nT,decide_eq_true_eq,decide_eq_true_eq,decide_eq_true_eq,decide_eq_true_eq];omega
theorem PP {l:L.Sq L.Pt} (hv:AP l=true):∀i,i<l.n->C2 (l.g i)=true:=(Wp hv).1
theorem Xb {l:L.Sq L.Pt} (hn:0<l.n) (h:∀i,i<l.n->C2 (l.g i)=true):∀k,k<=l.n->C2 (CF l k)=true
 |0,_=>h 0 hn
 |k+1,hk=>by
   have h1:=HJ.1 (Xb hn h k (by omega));have h2:=HJ.1 (h k (by omega));rw[HJ];simp only[CF];omega
theorem Xc {l:L.Sq L.Pt} (hn:0<l.n) (h:∀i,i<l.n->C2 (l.g i)=true):∀k,k<=l.n->C2 (CG l k)=true
 |0,_=>h 0 hn
 |k+1,hk=>by
   have h1:=HJ.1 (Xc hn h k (by omega));have h2:=HJ.1 (h k (by omega));rw[HJ];simp only[CG];omega
theorem Kk {l:L.Sq L.Pt}:∀k i,i<k->(CF l k).x<=(l.g i).x/\(CF l k).y<=(l.g i).y
 |0,_,h=>absurd h (Rc _)
 |k+1,i,h=>by
   rw[CF]
   by_cases e:i=k
   ·subst e;exact⟨by show min _ _<=_;omega,by show min _ _<=_;omega⟩
   ·have:=Kk (l:=l) k i (by omega);exact⟨by show min _ _<=_;omega,by show min _ _<=_;omega⟩
theorem Kl {l:L.Sq L.Pt}:∀k i,i<k->(l.g i).x<=(CG l k).x/\(l.g i).y<=(CG l k).y
 |0,_,h=>absurd h (Rc _)
 |k+1,i,h=>by
   rw[CG]
   by_cases e:i=k
   ·subst e;exact⟨by show _<=max _ _;omega,by show _<=max _ _;omega⟩
   ·have:=Kl (l:=l) k i (by omega);exact⟨by show _<=max _ _;omega,by show _<=max _ _;omega⟩
theorem PQ (l:L.Sq L.Pt):(0<=(BL l).x/\(BL l).x<=4096/\0<=(BL l).y/\(BL l).y<=4096)/\(0<=(BM l).x/\(BM l).x<=4096/\0<=(BM l).y/\(BM l).y<=4096):=by
 unfold BL BM;cases hv:AP l with
 |false =>
   rw[cond_false];have h0:(0:Int)<=0/\(0:Int)<=4096/\(0:Int)<=0/\(0:Int)<=4096:=by decide
   exact⟨h0,h0⟩
 |true =>
   rw[cond_true];obtain⟨n3,_,_,_⟩:=Gy hv;exact⟨HJ.1 (Xb (by omega) (PP hv) _ (Afo _)),HJ.1 (Xc (by omega) (PP hv) _ (Afo _))⟩
theorem Xd (l:L.Sq L.Pt):Ad .i64 ((BM l).x-(BL l).x)/\Ad .i64 ((BM l).y-(BL l).y):=by
 have:=PQ l;exact⟨jK,jK⟩
def Nu (s:Ac):SV:=.agg [.int .i64 s.w,.int .i64 s.h]
theorem Xe {l:L.Sq L.Pt} {t:Int} (h:decide (t=1)=true):Nu ⟨(BM l).y-(BL l).y,(BM l).x-(BL l).x⟩=Nu (Bv l t):=by
 unfold Bv;rw[h];rfl
theorem Xf {l:L.Sq L.Pt} {t:Int} (h:decide (t=1)=false):Nu ⟨(BM l).x-(BL l).x,(BM l).y-(BL l).y⟩=Nu (Bv l t):=by
 unfold Bv;rw[h];rfl
def Xg (l:(L.Sq L.Pt)):Prop:=l.n<=1000000
def Xh (l:(L.Sq L.Pt)):SV:=.tup [(.agg [.int .i64 ((BL l).x),.int .i64 ((BL l).y)]),(.agg [.int .i64 ((BM l).x),.int .i64 ((BM l).y)]),.int .i64 (Ff l)]
def Xi:List EV->Option (Prop×SV)
 |[.p (.sl 2 l_n l_g)]=>some ((∀i,i<l_n->l_g i = [.int .i64 ((An (l_g i)).x),.int .i64 ((An (l_g i)).y)])/\Xg (⟨l_n,fun i=>An (l_g i)⟩:(L.Sq L.Pt)),Xh (⟨l_n,fun i=>An (l_g i)⟩:(L.Sq L.Pt)))
 |_=>none
abbrev Xj:SE.Spec:=(AK Xi)
def wY:Ak:={ cC with muts:=[2,3,6],specs:=AB [(64,L5)],anys:=[2,10] }
theorem wZ (l:(L.Sq L.Pt)) (hp:Xg l):vc Tryz.prog ({ wY with loops:=AV [(5,{ T:=Nat,keep:=[0,2,3,18,19],keepO:=[],chg:=fun i=>[(20,.p (.int .i64 (i:Int)))],own:=fun i=>[(2,.blk 66 [.p (.int .i64 (CF l i).x),.p (.int .i64 (CF l i).y)]),(3,.blk 66 [.p (.int .i64 (CG l i).x),.p (.int .i64 (CG l i).y)])],inv:=fun i=>i<=l.n,mu:=fun i=>l.n-i })],rfs:=AT [] }) (Ah Tryz.f118) (Ap Tryz.f118 [.p (.sl 2 l.n (fun i=>[.int .i64 ((l.g i).x),.int .i64 ((l.g i).y)]))]) (AJ Tryz.prog Tryz.f118 (Xh l)):=
 @Eq.mpr _ (let I:=SV.int .i64;let T:=Af1;let A15:=(1:Int);let A8:=(!AP (L.Sq.mk l.n fun(i:Nat)=>l.g i));let A7:=(↑l.n:Int);let A4:=[I (BM l).x,I (BM l).y];let A3:=[I (BL l).x,I (BL l).y];let A2:=(l.n=l.n/\∀(i:Nat),let A13:=[I (l.g i).x,I (l.g i).y];i<l.n->A13=A13);let A1:=(0:Int);let A11:=(l.g (T A1));let A10:=[I A1,I A1];((∀(i:Nat),let A14:=[I (l.g i).x,I (l.g i).y];i<l.n->A14=A14)/\l.n<=(1000000:Nat))/\(A8=true->(SV.agg A10=SV.agg A3/\SV.agg A10=SV.agg A4/\A15=Ff l)/\SV.agg A10=SV.agg A3/\SV.agg A10=SV.agg A4/\A15=Ff l)/\(A8=false->(A1<=A1/\A1<A7)/\(A1<=A1/\A1<A7)/\(∃(g:Nat),A1=(↑g:Int)/\A11.x=(CF l g).x/\A11.y=(CF l g).y/\A11.x=(CG l g).x/\A11.y=(CG l g).y/\g<=l.n)/\∀(g:Nat),let A9:=(CF l g);let A6:=(CG l g);let A5:=(↑g:Int);let A12:=(l.g (T A5));g<=l.n->(decide (A5<A7)=true->(A1<=A5/\A5<A7)/\Ad .i64 (A5+A15)/\∃(g':Nat),A5+A15=(↑g':Int)/\A7=A7/\A2/\nat_lit 0=nat_lit 0/\nat_lit 0=nat_lit 0/\A2/\Min.min A9.x A12.x=(CF l g').x/\Min.min A9.y A12.y=(CF l g').y/\Max.max A6.x A12.x=(CG l g').x/\Max.max A6.y A12.y=(CG l g').y/\g'<=l.n/\l.n-g'<l.n-g)/\(decide (A5<A7)=false->(SV.agg [I A9.x,I A9.y]=SV.agg A3/\SV.agg [I A6.x,I A6.y]=SV.agg A4/\A1=Ff l)/\SV.agg [I A9.x,I A9.y]=SV.agg A3/\SV.agg [I A6.x,I A6.y]=SV.agg A4/\A1=Ff l))) (by kernel_rfl) (by
 conv=>zeta
 have hn:l.n<=1000000:=hp;refine⟨⟨fun _ _=>rfl,hn⟩,fun h=>?_,fun h=>?_⟩
 ·have h:AP l=false:=Cx h;have eL:BL l=⟨0,0⟩:=by unfold BL;rw[h];rfl
  have eH:BM l=⟨0,0⟩:=by unfold BM;rw[h];rfl
  have e3:Ff l=1:=by unfold Ff;rw[h];rfl
  rw[eL,eH,e3]
  repeat' first
   |exact rfl
   |apply And.intro
 have hv:AP l=true:=Ca h;obtain⟨n3,n24,hsm,hbd⟩:=Gy hv;have eL:BL l=CF l l.n:=by unfold BL;rw[hv];rfl
 have eH:BM l=CG l l.n:=by unfold BM;rw[hv];rfl
 have e3:Ff l=0:=by unfold Ff;rw[hv];rfl
 refine⟨⟨Af4 _,by omega⟩,⟨Af4 _,by omega⟩,⟨(0:Nat),rfl,rfl,rfl,rfl,rfl,Afg _⟩,fun g hg=>⟨fun hlt=>?_,fun hge=>?_⟩⟩
 ·have hlt:(g:Int)<(l.n:Int):=of_decide_eq_true hlt;exact⟨⟨by omega,hlt⟩,jK,g+1,by omega,rfl,⟨rfl,fun _ _=>rfl⟩,rfl,rfl,⟨rfl,fun _ _=>rfl⟩,rfl,rfl,rfl,rfl,by omega,by omega⟩
 ·have hge:¬ (g:Int)<(l.n:Int):=of_decide_eq_false hge;obtain rfl:g=l.n:=by omega
  rw[eL,eH,e3]
  repeat' first
   |exact rfl
   |apply And.intro)
theorem xA:Av Tryz.prog 118 Xj:=AM Tryz.func118 (c:=Ah Tryz.f118) (by kernel_rfl) mixed (fun args p r hs hp=>by
 unfold Xi at hs;split at hs
 ·cases hs;exact⟨_,_,wZ _ hp.2,(.p (.sl hp.1) .nil),⟨show Aa Tryz.prog _ from(Aa.cons Nl Nm Aa.nil),rfl,⟨show Ag Tryz.prog _ from Ag.nil,(Aw.none (fun _=>rfl))⟩⟩⟩
 ·cases hs)
theorem xB:Ao Tryz.prog 118:=fun args w=>by kernel_rfl
def Xk (l:(L.Sq L.Pt)):Prop:=1<=l.n/\l.n<=1000000
def Xl (l:(L.Sq L.Pt)):SV:=.tup [(.agg [.int .i64 ((CF l l.n).x),.int .i64 ((CF l l.n).y)]),(.agg [.int .i64 ((CG l l.n).x),.int .i64 ((CG l l.n).y)])]
def Xm:List EV->Option (Prop×SV)
 |[.p (.sl 2 l_n l_g)]=>some ((∀i,i<l_n->l_g i = [.int .i64 ((An (l_g i)).x),.int .i64 ((An (l_g i)).y)])/\Xk (⟨l_n,fun i=>An (l_g i)⟩:(L.Sq L.Pt)),Xl (⟨l_n,fun i=>An (l_g i)⟩:(L.Sq L.Pt)))
 |_=>none
abbrev Xn:SE.Spec:=(AK Xm)
def xC:Ak:={ cC with muts:=[2,3,4,5] }
theorem xD (l:(L.Sq L.Pt)) (hp:Xk l):vc Tryz.prog ({ xC with loops:=AV [(4,{ T:=Nat,keep:=[0,2,3,4,5],keepO:=[2,3],chg:=fun i=>[(6,.p (.int .i64 (i:Int)))],own:=fun i=>[(4,.blk 66 [.p (.int .i64 (CF l i).x),.p (.int .i64 (CF l i).y)]),(5,.blk 66 [.p (.int .i64 (CG l i).x),.p (.int .i64 (CG l i).y)])],inv:=fun i=>i<=l.n,mu:=fun i=>l.n-i })],rfs:=AT [] }) (Ah Tryz.f150) (Ap Tryz.f150 [.p (.sl 2 l.n (fun i=>[.int .i64 ((l.g i).x),.int .i64 ((l.g i).y)]))]) (AJ Tryz.prog Tryz.f150 (Xl l)):=
 @Eq.mpr _ (let I:=SV.int .i64;let T:=Af1;let A4:=(↑l.n:Int);let A2:=(0:Int);let A7:=(l.g (T A2));(A2<=A2/\A2<A4)/\(A2<=A2/\A2<A4)/\(∃(g:Nat),A2=(↑g:Int)/\A7.x=(CF l g).x/\A7.y=(CF l g).y/\A7.x=(CG l g).x/\A7.y=(CG l g).y/\g<=l.n)/\∀(g:Nat),let A6:=(CF l g);let A5:=(CG l g);let A3:=(↑g:Int);let A8:=(l.g (T A3));let A1:=(A2<=A3/\A3<A4);g<=l.n->(decide (A3<A4)=true->A1/\A1/\A1/\A1/\Ad .i64 (A3+(1:Int))/\∃(g':Nat),A3+(1:Int)=(↑g':Int)/\nat_lit 0=nat_lit 0/\nat_lit 0=nat_lit 0/\nat_lit 0=nat_lit 0/\nat_lit 0=nat_lit 0/\(l.n=l.n/\∀(i:Nat),let A9:=[I (l.g i).x,I (l.g i).y];i<l.n->A9=A9)/\Min.min A6.x A8.x=(CF l g').x/\Min.min A6.y A8.y=(CF l g').y/\Max.max A5.x A8.x=(CG l g').x/\Max.max A5.y A8.y=(CG l g').y/\A2=A2/\A2=A2/\A2=A2/\A2=A2/\g'<=l.n/\l.n-g'<l.n-g)/\(decide (A3<A4)=false->SV.agg [I A6.x,I A6.y]=SV.agg [I (CF l l.n).x,I (CF l l.n).y]/\SV.agg [I A5.x,I A5.y]=SV.agg [I (CG l l.n).x,I (CG l l.n).y])) (by kernel_rfl) (by
 conv=>zeta
 obtain⟨h1,hn⟩:=hp;refine⟨⟨Af4 _,by omega⟩,⟨Af4 _,by omega⟩,⟨(0:Nat),rfl,rfl,rfl,rfl,rfl,Afg _⟩,fun g hg=>⟨fun hlt=>?_,fun hge=>?_⟩⟩
 ·have hlt:(g:Int)<(l.n:Int):=of_decide_eq_true hlt;exact⟨⟨by omega,hlt⟩,⟨by omega,hlt⟩,⟨by omega,hlt⟩,⟨by omega,hlt⟩,jK,g+1,by omega,rfl,rfl,rfl,rfl,⟨rfl,fun _ _=>rfl⟩,rfl,rfl,rfl,rfl,rfl,rfl,rfl,rfl,by omega,by omega⟩
 ·have hge:¬ (g:Int)<(l.n:Int):=of_decide_eq_false hge;obtain rfl:g=l.n:=by omega
  exact⟨rfl,rfl⟩)
theorem xE:Av Tryz.prog 150 Xn:=AM Tryz.func150 (c:=Ah Tryz.f150) (by kernel_rfl) mixed (fun args p r hs hp=>by
 unfold Xm at hs;split at hs
 ·cases hs;exact⟨_,_,xD _ hp.2,(.p (.sl hp.1) .nil),⟨show Aa Tryz.prog _ from Aa.nil,rfl,⟨show Ag Tryz.prog _ from Ag.nil,(Aw.none (fun _=>rfl))⟩⟩⟩
 ·cases hs)
theorem xF:Ao Tryz.prog 150:=fun args w=>by kernel_rfl
def Xo (l:(L.Sq L.Pt)):Prop:=l.n<=1000000
def Xp (l:(L.Sq L.Pt)):SV:=.tup [(.agg [.int .i64 ((BL l).x),.int .i64 ((BL l).y)]),(.agg [.int .i64 ((BM l).x),.int .i64 ((BM l).y)]),.int .i64 (Ff l)]
def Xq:List EV->Option (Prop×SV)
 |[.p (.sl 2 l_n l_g)]=>some ((∀i,i<l_n->l_g i = [.int .i64 ((An (l_g i)).x),.int .i64 ((An (l_g i)).y)])/\Xo (⟨l_n,fun i=>An (l_g i)⟩:(L.Sq L.Pt)),Xp (⟨l_n,fun i=>An (l_g i)⟩:(L.Sq L.Pt)))
 |_=>none
abbrev Xr:SE.Spec:=(AK Xq)
def xG:Ak:={ cC with muts:=[2,3],specs:=AB [(24,PN),(150,Xn)] }
theorem xH (l:(L.Sq L.Pt)) (hp:Xo l):vc Tryz.prog (xG) (Ah Tryz.f123) (Ap Tryz.f123 [.p (.sl 2 l.n (fun i=>[.int .i64 ((l.g i).x),.int .i64 ((l.g i).y)]))]) (AJ Tryz.prog Tryz.f123 (Xp l)):=
 @Eq.mpr _ (let I:=SV.int .i64;let A5:=(0:Int);let A4:=[I (BM l).x,I (BM l).y];let A3:=[I (BL l).x,I (BL l).y];let A2:=(∀(i:Nat),let A6:=[I (l.g i).x,I (l.g i).y];i<l.n->A6=A6);let A1:=(L.Sq.mk l.n fun(i:Nat)=>l.g i);(A2/\True)/\((!AP A1)=true->SV.agg [I A5,I A5]=SV.agg A3/\SV.agg [I A5,I A5]=SV.agg A4/\(1:Int)=Ff l)/\((!AP A1)=false->(A2/\(1:Nat)<=l.n/\l.n<=(1000000:Nat))/\SV.agg [I (CF A1 l.n).x,I (CF A1 l.n).y]=SV.agg A3/\SV.agg [I (CG A1 l.n).x,I (CG A1 l.n).y]=SV.agg A4/\A5=Ff l)) (by kernel_rfl) (by
 conv=>zeta
 have hn:l.n<=1000000:=hp;refine⟨⟨fun _ _=>rfl,trivial⟩,fun h=>?_,fun h=>?_⟩
 ·have h:AP l=false:=Cx h;have eL:BL l=⟨0,0⟩:=by unfold BL;rw[h];rfl
  have eH:BM l=⟨0,0⟩:=by unfold BM;rw[h];rfl
  have e3:Ff l=1:=by unfold Ff;rw[h];rfl
  rw[eL,eH,e3]
  repeat' first
   |exact rfl
   |apply And.intro
 have hv:AP l=true:=Ca h;obtain⟨n3,n24,hsm,hbd⟩:=Gy hv;have eL:BL l=CF l l.n:=by unfold BL;rw[hv];rfl
 have eH:BM l=CG l l.n:=by unfold BM;rw[hv];rfl
 have e3:Ff l=0:=by unfold Ff;rw[hv];rfl
 rw[eL,eH,e3];exact⟨⟨fun _ _=>rfl,by omega,hn⟩,rfl,rfl,rfl⟩)
theorem xI:Av Tryz.prog 123 Xr:=AM Tryz.func123 (c:=Ah Tryz.f123) (by kernel_rfl) mixed (fun args p r hs hp=>by
 unfold Xq at hs;split at hs
 ·cases hs;exact⟨_,_,xH _ hp.2,(.p (.sl hp.1) .nil),⟨show Aa Tryz.prog _ from(Aa.cons WZ Xa (Aa.cons xE xF Aa.nil)),rfl,⟨show Ag Tryz.prog _ from Ag.nil,(Aw.none (fun _=>rfl))⟩⟩⟩
 ·cases hs)
theorem xJ:Ao Tryz.prog 123:=fun args w=>by kernel_rfl
def Xs (n:Int) (a:Int) (b:Int):Prop:=True
def Xt (n:Int) (a:Int) (b:Int):SV:=.bool (Ay n a b)
def Xu:List EV->Option (Prop×SV)
 |[.p (.int .i64 n),.p (.int .i64 a),.p (.int .i64 b)]=>some (Xs n a b,Xt n a b)
 |_=>none
abbrev L9:SE.Spec:=(AK Xu)
def xK:Ak:={ muts:=[],frz:=B2 [],specs:=AB [],loops:=AV [],iters:=Bw [],rfs:=AT [],nils:=B3 [] }
theorem xL (n:Int) (a:Int) (b:Int) (hp:Xs n a b):vc Tryz.prog (xK) (Ah Tryz.f33) (Ap Tryz.f33 [.p (.int .i64 n),.p (.int .i64 a),.p (.int .i64 b)]) (AJ Tryz.prog Tryz.f33 (Xt n a b)):=
 @Eq.mpr _ ((bif decide (a<=n)then decide (n<=b)else false)=Ay n a b) (by kernel_rfl) (by
 grind [Ay])
theorem Nv:Av Tryz.prog 33 L9:=AM Tryz.func33 (c:=Ah Tryz.f33) (by kernel_rfl) mixed (fun args p r hs hp=>by
 unfold Xu at hs;split at hs
 ·cases hs;exact⟨_,_,xL _ _ _ hp,(.same _ (.same _ (.same _ .nil))),⟨show Aa Tryz.prog _ from Aa.nil,rfl,⟨show Ag Tryz.prog _ from Ag.nil,(Aw.none (fun _=>rfl))⟩⟩⟩
 ·cases hs)
theorem Nw:Ao Tryz.prog 33:=fun args w=>by kernel_rfl
def Xv (n:Int) (a:Int) (b:Int):Prop:=True
def Xw (n:Int) (a:Int) (b:Int):SV:=.bool (Ay n a b)
def Xx:List EV->Option (Prop×SV)
 |[.p (.int .i64 n),.p (.int .i64 a),.p (.int .i64 b)]=>some (Xv n a b,Xw n a b)
 |_=>none
abbrev Nx:SE.Spec:=(AK Xx)
def xM:Ak:={ muts:=[],frz:=B2 [],specs:=AB [],loops:=AV [],iters:=Bw [],rfs:=AT [],nils:=B3 [] }
theorem xN (n:Int) (a:Int) (b:Int) (hp:Xv n a b):vc Tryz.prog (xM) (Ah Tryz.f39) (Ap Tryz.f39 [.p (.int .i64 n),.p (.int .i64 a),.p (.int .i64 b)]) (AJ Tryz.prog Tryz.f39 (Xw n a b)):=
 @Eq.mpr _ ((bif decide (a<=n)then decide (n<=b)else false)=Ay n a b) (by kernel_rfl) (by
 grind [Ay])
theorem PR:Av Tryz.prog 39 Nx:=AM Tryz.func39 (c:=Ah Tryz.f39) (by kernel_rfl) mixed (fun args p r hs hp=>by
 unfold Xx at hs;split at hs
 ·cases hs;exact⟨_,_,xN _ _ _ hp,(.same _ (.same _ (.same _ .nil))),⟨show Aa Tryz.prog _ from Aa.nil,rfl,⟨show Ag Tryz.prog _ from Ag.nil,(Aw.none (fun _=>rfl))⟩⟩⟩
 ·cases hs)
theorem PS:Ao Tryz.prog 39:=fun args w=>by kernel_rfl
def Xy (l:(L.Sq L.Pt)) (t:Int):Prop:=l.n<=1000000
def Xz (l:(L.Sq L.Pt)) (t:Int):SV:=(.agg [.int .i64 ((Bv l t).w),.int .i64 ((Bv l t).h)])
def X4:List EV->Option (Prop×SV)
 |[.p (.sl 2 l_n l_g),.p (.int .i64 t)]=>some ((∀i,i<l_n->l_g i = [.int .i64 ((An (l_g i)).x),.int .i64 ((An (l_g i)).y)])/\Xy (⟨l_n,fun i=>An (l_g i)⟩:(L.Sq L.Pt)) t,Xz (⟨l_n,fun i=>An (l_g i)⟩:(L.Sq L.Pt)) t)
 |_=>none
abbrev Ny:SE.Spec:=(AK X4)
def xO:Ak:={ cC with muts:=[4,5,6,8],specs:=AB [(118,Xj)] }
theorem xP (l:(L.Sq L.Pt)) (t:Int) (hp:Xy l t):vc Tryz.prog (xO) (Ah Tryz.f74) (Ap Tryz.f74 [.p (.sl 2 l.n (fun i=>[.int .i64 ((l.g i).x),.int .i64 ((l.g i).y)])),.p (.int .i64 t)]) (AJ Tryz.prog Tryz.f74 (Xz l t)):=
 @Eq.mpr _ (let I:=SV.int .i64;let A4:=[I (Bv l t).w,I (Bv l t).h];let A1:=(L.Sq.mk l.n fun(i:Nat)=>l.g i);let A3:=((BM A1).y-(BL A1).y);let A2:=((BM A1).x-(BL A1).x);((∀(i:Nat),let A5:=[I (l.g i).x,I (l.g i).y];i<l.n->A5=A5)/\l.n<=(1000000:Nat))/\Ad .i64 A2/\Ad .i64 A3/\(decide (t=(1:Int))=true->SV.agg [I A3,I A2]=SV.agg A4)/\(decide (t=(1:Int))=false->SV.agg [I A2,I A3]=SV.agg A4)) (by kernel_rfl) (by
 conv=>zeta
 obtain⟨b1,b2⟩:=Xd l;exact⟨⟨fun _ _=>rfl,hp⟩,b1,b2,fun h=>Xe h,fun h=>Xf h⟩)
theorem PT:Av Tryz.prog 74 Ny:=AM Tryz.func74 (c:=Ah Tryz.f74) (by kernel_rfl) mixed (fun args p r hs hp=>by
 unfold X4 at hs;split at hs
 ·cases hs;exact⟨_,_,xP _ _ hp.2,(.p (.sl hp.1) (.same _ .nil)),⟨show Aa Tryz.prog _ from(Aa.cons xA xB Aa.nil),rfl,⟨show Ag Tryz.prog _ from Ag.nil,(Aw.none (fun _=>rfl))⟩⟩⟩
 ·cases hs)
theorem PU:Ao Tryz.prog 74:=fun args w=>by kernel_rfl
def X5 (w:Ab) (t:Int):Prop:=w.ol.n<=1000000
def X6 (w:Ab) (t:Int):SV:=(.agg [.int .i64 ((Bv w.ol t).w),.int .i64 ((Bv w.ol t).h)])
def X7:List EV->Option (Prop×SV)
 |[.p (.agg [.int .i64 w_id,.int .i64 w_colour,.int .i64 w_grain,.sl 2 w_ol_n w_ol_g]),.p (.int .i64 t)]=>some ((∀i,i<w_ol_n->w_ol_g i = [.int .i64 ((An (w_ol_g i)).x),.int .i64 ((An (w_ol_g i)).y)])/\X5 (⟨w_id,w_colour,w_grain,(⟨w_ol_n,fun i=>An (w_ol_g i)⟩:(L.Sq L.Pt))⟩:Ab) t,X6 (⟨w_id,w_colour,w_grain,(⟨w_ol_n,fun i=>An (w_ol_g i)⟩:(L.Sq L.Pt))⟩:Ab) t)
 |_=>none
abbrev PV:SE.Spec:=(AK X7)
def xQ:Ak:={ cC with muts:=[4,5,6],specs:=AB [(123,Xr)] }
theorem xR (w:Ab) (t:Int) (hp:X5 w t):vc Tryz.prog (xQ) (Ah Tryz.f81) (Ap Tryz.f81 [.p (.agg [.int .i64 w.id,.int .i64 w.colour,.int .i64 w.grain,.sl 2 w.ol.n (fun i=>[.int .i64 ((w.ol.g i).x),.int .i64 ((w.ol.g i).y)])]),.p (.int .i64 t)]) (AJ Tryz.prog Tryz.f81 (X6 w t)):=
 @Eq.mpr _ (let I:=SV.int .i64;let A4:=[I (Bv w.ol t).w,I (Bv w.ol t).h];let A1:=(L.Sq.mk w.ol.n fun(i:Nat)=>w.ol.g i);let A3:=((BM A1).x-(BL A1).x);let A2:=((BM A1).y-(BL A1).y);((∀(i:Nat),let A5:=[I (w.ol.g i).x,I (w.ol.g i).y];i<w.ol.n->A5=A5)/\w.ol.n<=(1000000:Nat))/\(decide (t=(1:Int))=true->Ad .i64 A2/\Ad .i64 A3/\SV.agg [I A2,I A3]=SV.agg A4)/\(decide (t=(1:Int))=false->Ad .i64 A3/\Ad .i64 A2/\SV.agg [I A3,I A2]=SV.agg A4)) (by kernel_rfl) (by
 conv=>zeta
 obtain⟨b1,b2⟩:=Xd w.ol;exact⟨⟨fun _ _=>rfl,hp⟩,fun h=>⟨b2,b1,Xe (l:=w.ol) h⟩,fun h=>⟨b1,b2,Xf (l:=w.ol) h⟩⟩)
theorem X8:Av Tryz.prog 81 PV:=AM Tryz.func81 (c:=Ah Tryz.f81) (by kernel_rfl) mixed (fun args p r hs hp=>by
 unfold X7 at hs;split at hs
 ·cases hs; exact⟨_, _, xR _ _ hp.2, (.p (.agg rfl (fun i hi =>by
  rcases i with _|i
  ·exact(AX.refl _:AX _ _)
  rcases i with _|i
  ·exact(AX.refl _:AX _ _)
  rcases i with _|i
  ·exact(AX.refl _:AX _ _)
  rcases i with _|i
  ·exact(AX.sl hp.1:AX _ _)
  exact absurd hi (by simp;try omega))) (.same _ .nil)),⟨show Aa Tryz.prog _ from(Aa.cons xI xJ Aa.nil),rfl,⟨show Ag Tryz.prog _ from Ag.nil,(Aw.none (fun _=>rfl))⟩⟩⟩
 ·cases hs)
theorem X9:Ao Tryz.prog 81:=fun args w=>by kernel_rfl
def XA (s:Aj):Prop:=True
def XB (s:Aj):SV:=.bool (BH s)
def XC:List EV->Option (Prop×SV)
 |[.p (.agg [.int .i64 s_id,.int .i64 s_colour,.int .i64 s_w,.int .i64 s_h,.int .i64 s_grain])]=>some (XA (⟨s_id,s_colour,s_w,s_h,s_grain⟩:Aj),XB (⟨s_id,s_colour,s_w,s_h,s_grain⟩:Aj))
 |_=>none
abbrev XD:SE.Spec:=(AK XC)
def xS:Ak:={ cC with specs:=AB [(33,L9)] }
theorem xT (s:Aj) (hp:XA s):vc Tryz.prog (xS) (Ah Tryz.f117) (Ap Tryz.f117 [.p (.agg [.int .i64 s.id,.int .i64 s.colour,.int .i64 s.w,.int .i64 s.h,.int .i64 s.grain])]) (AJ Tryz.prog Tryz.f117 (XB s)):=
 @Eq.mpr _ (let A4:=(16:Int);let A3:=(4096:Int);let A2:=(65535:Int);let A1:=(1:Int);True/\(Ay s.id A1 A2=true->True)/\((bif Ay s.id A1 A2 then Ay s.colour A1 A4 else false)=true->True)/\((bif bif Ay s.id A1 A2 then Ay s.colour A1 A4 else false then Ay s.w A1 A3 else false)=true->True)/\((bif bif bif Ay s.id A1 A2 then Ay s.colour A1 A4 else false then Ay s.w A1 A3 else false then Ay s.h A1 A3 else false)=true->True)/\(bif bif bif bif Ay s.id A1 A2 then Ay s.colour A1 A4 else false then Ay s.w A1 A3 else false then Ay s.h A1 A3 else false then Ay s.grain (0:Int) (2:Int)else false)=BH s) (by kernel_rfl) (by
 conv=>zeta
 exact⟨trivial,fun _=>trivial,fun _=>trivial,fun _=>trivial,fun _=>trivial,rfl⟩)
theorem xU:Av Tryz.prog 117 XD:=AM Tryz.func117 (c:=Ah Tryz.f117) (by kernel_rfl) mixed (fun args p r hs hp=>by
 unfold XC at hs;split at hs
 ·cases hs;exact⟨_,_,xT _ hp,(.same _ .nil),⟨show Aa Tryz.prog _ from(Aa.cons Nv Nw Aa.nil),rfl,⟨show Ag Tryz.prog _ from Ag.nil,(Aw.none (fun _=>rfl))⟩⟩⟩
 ·cases hs)
theorem xV:Ao Tryz.prog 117:=fun args w=>by kernel_rfl
def XE (w:Ab):Prop:=w.ol.n<=1000000
def XF (w:Ab):SV:=.bool (Di w)
def XG:List EV->Option (Prop×SV)
 |[.p (.agg [.int .i64 w_id,.int .i64 w_colour,.int .i64 w_grain,.sl 2 w_ol_n w_ol_g])]=>some ((∀i,i<w_ol_n->w_ol_g i = [.int .i64 ((An (w_ol_g i)).x),.int .i64 ((An (w_ol_g i)).y)])/\XE (⟨w_id,w_colour,w_grain,(⟨w_ol_n,fun i=>An (w_ol_g i)⟩:(L.Sq L.Pt))⟩:Ab),XF (⟨w_id,w_colour,w_grain,(⟨w_ol_n,fun i=>An (w_ol_g i)⟩:(L.Sq L.Pt))⟩:Ab))
 |_=>none
abbrev XH:SE.Spec:=(AK XG)
def xW:Ak:={ cC with specs:=AB [(33,L9),(64,L5)] }
theorem xX (w:Ab) (hp:XE w):vc Tryz.prog (xW) (Ah Tryz.f116) (Ap Tryz.f116 [.p (.agg [.int .i64 w.id,.int .i64 w.colour,.int .i64 w.grain,.sl 2 w.ol.n (fun i=>[.int .i64 ((w.ol.g i).x),.int .i64 ((w.ol.g i).y)])])]) (AJ Tryz.prog Tryz.f116 (XF w)):=
 @Eq.mpr _ (let A3:=(65535:Int);let A2:=(1:Int);True/\(Ay w.id A2 A3=true->True)/\((bif Ay w.id A2 A3 then Ay w.colour A2 (16:Int)else false)=true->True)/\((bif bif Ay w.id A2 A3 then Ay w.colour A2 (16:Int)else false then Ay w.grain (0:Int) (2:Int)else false)=true->(∀(i:Nat),let A1:=[SV.int .i64 (w.ol.g i).x,SV.int .i64 (w.ol.g i).y];i<w.ol.n->A1=A1)/\w.ol.n<=(1000000:Nat))/\(bif bif bif Ay w.id A2 A3 then Ay w.colour A2 (16:Int)else false then Ay w.grain (0:Int) (2:Int)else false then AP (L.Sq.mk w.ol.n fun(i:Nat)=>w.ol.g i)else false)=Di w) (by kernel_rfl) (by
 conv=>zeta
 exact⟨trivial,fun _=>trivial,fun _=>trivial,fun _=>⟨fun _ _=>rfl,hp⟩,rfl⟩)
theorem xY:Av Tryz.prog 116 XH:=AM Tryz.func116 (c:=Ah Tryz.f116) (by kernel_rfl) mixed (fun args p r hs hp=>by
 unfold XG at hs;split at hs
 ·cases hs; exact⟨_, _, xX _ hp.2, (.p (.agg rfl (fun i hi =>by
  rcases i with _|i
  ·exact(AX.refl _:AX _ _)
  rcases i with _|i
  ·exact(AX.refl _:AX _ _)
  rcases i with _|i
  ·exact(AX.refl _:AX _ _)
  rcases i with _|i
  ·exact(AX.sl hp.1:AX _ _)
  exact absurd hi (by simp;try omega))) .nil),⟨show Aa Tryz.prog _ from(Aa.cons Nv Nw (Aa.cons Nl Nm Aa.nil)),rfl,⟨show Ag Tryz.prog _ from Ag.nil,(Aw.none (fun _=>rfl))⟩⟩⟩
 ·cases hs)
theorem xZ:Ao Tryz.prog 116:=fun args w=>by kernel_rfl
def XI (a:Int) (b:Int) (t:Int):Prop:=True
def XJ (a:Int) (b:Int) (t:Int):SV:=.bool (Cz a b t)
def XK:List EV->Option (Prop×SV)
 |[.p (.int .i64 a),.p (.int .i64 b),.p (.int .i64 t)]=>some (XI a b t,XJ a b t)
 |_=>none
abbrev PW:SE.Spec:=(AK XK)
def yA:Ak:={ muts:=[],frz:=B2 [],specs:=AB [],loops:=AV [],iters:=Bw [],rfs:=AT [],nils:=B3 [] }
theorem yB (a:Int) (b:Int) (t:Int) (hp:XI a b t):vc Tryz.prog (yA) (Ah Tryz.f73) (Ap Tryz.f73 [.p (.int .i64 a),.p (.int .i64 b),.p (.int .i64 t)]) (AJ Tryz.prog Tryz.f73 (XJ a b t)):=
 @Eq.mpr _ ((bif bif decide (a=(0:Int))then true else decide (b=(0:Int))then true else decide (t=(0:Int)) == decide (a=b))=Cz a b t) (by kernel_rfl) (by
 rfl)
theorem XL:Av Tryz.prog 73 PW:=AM Tryz.func73 (c:=Ah Tryz.f73) (by kernel_rfl) mixed (fun args p r hs hp=>by
 unfold XK at hs;split at hs
 ·cases hs;exact⟨_,_,yB _ _ _ hp,(.same _ (.same _ (.same _ .nil))),⟨show Aa Tryz.prog _ from Aa.nil,rfl,⟨show Ag Tryz.prog _ from Ag.nil,(Aw.none (fun _=>rfl))⟩⟩⟩
 ·cases hs)
theorem XM:Ao Tryz.prog 73:=fun args w=>by kernel_rfl
def XN (s:Aj):Prop:=True
def XO (s:Aj):SV:=.bool (BH s)
def XP:List EV->Option (Prop×SV)
 |[.p (.agg [.int .i64 s_id,.int .i64 s_colour,.int .i64 s_w,.int .i64 s_h,.int .i64 s_grain])]=>some (XN (⟨s_id,s_colour,s_w,s_h,s_grain⟩:Aj),XO (⟨s_id,s_colour,s_w,s_h,s_grain⟩:Aj))
 |_=>none
abbrev XQ:SE.Spec:=(AK XP)
def yC:Ak:={ cC with specs:=AB [(39,Nx)] }
theorem yD (s:Aj) (hp:XN s):vc Tryz.prog (yC) (Ah Tryz.f84) (Ap Tryz.f84 [.p (.agg [.int .i64 s.id,.int .i64 s.colour,.int .i64 s.w,.int .i64 s.h,.int .i64 s.grain])]) (AJ Tryz.prog Tryz.f84 (XO s)):=
 @Eq.mpr _ (let A4:=(16:Int);let A3:=(4096:Int);let A2:=(65535:Int);let A1:=(1:Int);True/\(Ay s.id A1 A2=true->True)/\((bif Ay s.id A1 A2 then Ay s.colour A1 A4 else false)=true->True)/\((bif bif Ay s.id A1 A2 then Ay s.colour A1 A4 else false then Ay s.w A1 A3 else false)=true->True)/\((bif bif bif Ay s.id A1 A2 then Ay s.colour A1 A4 else false then Ay s.w A1 A3 else false then Ay s.h A1 A3 else false)=true->True)/\(bif bif bif bif Ay s.id A1 A2 then Ay s.colour A1 A4 else false then Ay s.w A1 A3 else false then Ay s.h A1 A3 else false then Ay s.grain (0:Int) (2:Int)else false)=BH s) (by kernel_rfl) (by
 conv=>zeta
 exact⟨trivial,fun _=>trivial,fun _=>trivial,fun _=>trivial,fun _=>trivial,rfl⟩)
theorem yE:Av Tryz.prog 84 XQ:=AM Tryz.func84 (c:=Ah Tryz.f84) (by kernel_rfl) mixed (fun args p r hs hp=>by
 unfold XP at hs;split at hs
 ·cases hs;exact⟨_,_,yD _ hp,(.same _ .nil),⟨show Aa Tryz.prog _ from(Aa.cons PR PS Aa.nil),rfl,⟨show Ag Tryz.prog _ from Ag.nil,(Aw.none (fun _=>rfl))⟩⟩⟩
 ·cases hs)
theorem yF:Ao Tryz.prog 84:=fun args w=>by kernel_rfl
def XR (w:Ab):Prop:=w.ol.n<=1000000
def XS (w:Ab):SV:=.bool (Di w)
def XT:List EV->Option (Prop×SV)
 |[.p (.agg [.int .i64 w_id,.int .i64 w_colour,.int .i64 w_grain,.sl 2 w_ol_n w_ol_g])]=>some ((∀i,i<w_ol_n->w_ol_g i = [.int .i64 ((An (w_ol_g i)).x),.int .i64 ((An (w_ol_g i)).y)])/\XR (⟨w_id,w_colour,w_grain,(⟨w_ol_n,fun i=>An (w_ol_g i)⟩:(L.Sq L.Pt))⟩:Ab),XS (⟨w_id,w_colour,w_grain,(⟨w_ol_n,fun i=>An (w_ol_g i)⟩:(L.Sq L.Pt))⟩:Ab))
 |_=>none
abbrev XU:SE.Spec:=(AK XT)
def yG:Ak:={ cC with specs:=AB [(39,Nx),(24,PN)] }
theorem yH (w:Ab) (hp:XR w):vc Tryz.prog (yG) (Ah Tryz.f77) (Ap Tryz.f77 [.p (.agg [.int .i64 w.id,.int .i64 w.colour,.int .i64 w.grain,.sl 2 w.ol.n (fun i=>[.int .i64 ((w.ol.g i).x),.int .i64 ((w.ol.g i).y)])])]) (AJ Tryz.prog Tryz.f77 (XS w)):=
 @Eq.mpr _ (let A3:=(65535:Int);let A2:=(1:Int);True/\(Ay w.id A2 A3=true->True)/\((bif Ay w.id A2 A3 then Ay w.colour A2 (16:Int)else false)=true->True)/\((bif bif Ay w.id A2 A3 then Ay w.colour A2 (16:Int)else false then Ay w.grain (0:Int) (2:Int)else false)=true->(∀(i:Nat),let A1:=[SV.int .i64 (w.ol.g i).x,SV.int .i64 (w.ol.g i).y];i<w.ol.n->A1=A1)/\True)/\(bif bif bif Ay w.id A2 A3 then Ay w.colour A2 (16:Int)else false then Ay w.grain (0:Int) (2:Int)else false then AP (L.Sq.mk w.ol.n fun(i:Nat)=>w.ol.g i)else false)=Di w) (by kernel_rfl) (by
 conv=>zeta
 exact⟨trivial,fun _=>trivial,fun _=>trivial,fun _=>⟨fun _ _=>rfl,trivial⟩,rfl⟩)
theorem yI:Av Tryz.prog 77 XU:=AM Tryz.func77 (c:=Ah Tryz.f77) (by kernel_rfl) mixed (fun args p r hs hp=>by
 unfold XT at hs;split at hs
 ·cases hs; exact⟨_, _, yH _ hp.2, (.p (.agg rfl (fun i hi =>by
  rcases i with _|i
  ·exact(AX.refl _:AX _ _)
  rcases i with _|i
  ·exact(AX.refl _:AX _ _)
  rcases i with _|i
  ·exact(AX.refl _:AX _ _)
  rcases i with _|i
  ·exact(AX.sl hp.1:AX _ _)
  exact absurd hi (by simp;try omega))) .nil),⟨show Aa Tryz.prog _ from(Aa.cons PR PS (Aa.cons WZ Xa Aa.nil)),rfl,⟨show Ag Tryz.prog _ from Ag.nil,(Aw.none (fun _=>rfl))⟩⟩⟩
 ·cases hs)
theorem yJ:Ao Tryz.prog 77:=fun args w=>by kernel_rfl
def XV (a:Int) (b:Int) (t:Int):Prop:=True
def XW (a:Int) (b:Int) (t:Int):SV:=.bool (Cz a b t)
def XX:List EV->Option (Prop×SV)
 |[.p (.int .i64 a),.p (.int .i64 b),.p (.int .i64 t)]=>some (XV a b t,XW a b t)
 |_=>none
abbrev PX:SE.Spec:=(AK XX)
def yK:Ak:={ muts:=[],frz:=B2 [],specs:=AB [],loops:=AV [],iters:=Bw [],rfs:=AT [],nils:=B3 [] }
theorem yL (a:Int) (b:Int) (t:Int) (hp:XV a b t):vc Tryz.prog (yK) (Ah Tryz.f79) (Ap Tryz.f79 [.p (.int .i64 a),.p (.int .i64 b),.p (.int .i64 t)]) (AJ Tryz.prog Tryz.f79 (XW a b t)):=
 @Eq.mpr _ ((bif bif decide (a=(0:Int))then true else decide (b=(0:Int))then true else decide (a=b) == decide (t=(0:Int)))=Cz a b t) (by kernel_rfl) (by
 unfold Cz;cases decide (a=b)<;>cases decide (t=0)<;>rfl)
theorem XY:Av Tryz.prog 79 PX:=AM Tryz.func79 (c:=Ah Tryz.f79) (by kernel_rfl) mixed (fun args p r hs hp=>by
 unfold XX at hs;split at hs
 ·cases hs;exact⟨_,_,yL _ _ _ hp,(.same _ (.same _ (.same _ .nil))),⟨show Aa Tryz.prog _ from Aa.nil,rfl,⟨show Ag Tryz.prog _ from Ag.nil,(Aw.none (fun _=>rfl))⟩⟩⟩
 ·cases hs)
theorem XZ:Ao Tryz.prog 79:=fun args w=>by kernel_rfl
def Ai (f:Int->L.Sq Ac) (k:Int):SV:=.sl 2 (f k).n (fun i=>[.int .i64 ((f k).g i).w,.int .i64 ((f k).g i).h])
def Ya (g:Int):Int:=D6 g (0-g)
def F1 (g:Int):Int:=Dv g (Ya g)
def DE (g:Int):Nat->Int
 |0=>0
 |k+1=>D6 (DE g k-F1 g) (F1 g)
def AD (g:Int):Nat:=((Afm 16).find? (fun k=>decide (DE g k=F1 g))).getD 0
def Al (g:Int) (k:Nat):Int:=Gl (DE g k) (Ya g)
def Yb (n:Nat):Bool:=decide (DE n (AD n)=F1 n)&&(Afm (AD n)).all (fun k=>!decide (DE n k=F1 n)&&decide (-16<=DE n k-F1 n)&&decide (DE n k-F1 n<=16))
theorem yM:((Afm 16).all Yb)=true:=by kernel_rfl
theorem yN {g:Int} (h:0<=g) (h':g<=15):DE g (AD g)=F1 g/\∀k,k<AD g->DE g k≠F1 g /\ -16<=DE g k-F1 g/\DE g k-F1 g<=16:=by
 obtain⟨n,rfl⟩:=Afw h;have hn:n<16:=by omega
 have h1:=Afj.1 yM n (Afl.2 hn);unfold Yb at h1;rw[nT,decide_eq_true_eq]at h1;refine⟨h1.1,fun k hk=>?_⟩;have h2:=Afj.1 h1.2 k (Afl.2 hk);rw[nT,nT,decide_eq_true_eq,decide_eq_true_eq,AfA,decide_eq_false_iff_not]at h2;exact⟨h2.1.1,h2.1.2,h2.2⟩
abbrev HK:Mk:={ T:=(L.Sq Ab)×(Int)×(Int->L.Sq Ac),U:=Nat,args:=fun t=>(fun w gr f=>[.p ((.sl 4 w.n (fun i=>[.int .i64 ((w.g i).id),.int .i64 ((w.g i).colour),.int .i64 ((w.g i).grain),.sl 2 (w.g i).ol.n (fun i1=>[.int .i64 (((w.g i).ol.g i1).x),.int .i64 (((w.g i).ol.g i1).y)])]))),.p (.int .i64 gr)]) t.1 t.2.1 t.2.2,lkeys:=[],keys:=[9,7],lent:=fun t=>(fun w gr f=>[]) t.1 t.2.1 t.2.2,pre:=fun t=>(fun w gr f=>True) t.1 t.2.1 t.2.2,post:=fun t u=>(fun w gr f=>fun uu=>True) t.1 t.2.1 t.2.2 u,lent':=fun t u=>(fun w gr f=>fun uu=>[]) t.1 t.2.1 t.2.2 u,own:=fun t u=>(fun w gr f=>fun uu=>[(9,.blk 130 [.p ((.sl 4 w.n (fun i=>[.int .i64 ((w.g i).id),.int .i64 ((w.g i).colour),.int .i64 ((w.g i).grain),.sl 2 (w.g i).ol.n (fun i1=>[.int .i64 (((w.g i).ol.g i1).x),.int .i64 (((w.g i).ol.g i1).y)])]))),.p (.int .i64 gr),.mapv 7]),(7,.mq 3 27 (fun _=>false) (Ai f))]) t.1 t.2.1 t.2.2 u,res:=fun t u=>(fun w gr f=>fun uu=>.loc 9 0) t.1 t.2.1 t.2.2 u }
theorem yO (w:L.Sq Ab) (gr:Int) (f:Int->L.Sq Ac) (hp:HK.pre (w,gr,f)):vc Tryz.prog ({ cC with muts:=[9],mqs:=Tw [(7,Ai f)] }) (Ah Tryz.f34) (D7 Tryz.f34 (HK.args (w,gr,f)) (HK.lent (w,gr,f))) (Fx Tryz.prog Tryz.f34 HK (w,gr,f)):=
 @Eq.mpr _ (let I:=SV.int .i64;∃(u:Nat),nat_lit 0=(0:Nat)/\(w.n=w.n/\∀(i:Nat),let A1:=[I (w.g i).id,I (w.g i).colour,I (w.g i).grain,SV.sl (2:Nat) (w.g i).ol.n fun(i1:Nat)=>[I ((w.g i).ol.g i1).x,I ((w.g i).ol.g i1).y]];i<w.n->A1=A1)/\gr=gr/\(∀(x:Int),false=false)/\(∀(x:Int),false=true->Ai f x=Ai f x)/\True) (by kernel_rfl) (by
 conv=>zeta
 exact⟨(0:Nat),rfl,⟨rfl,fun _ _=>rfl⟩,rfl,fun _=>rfl,fun _ _=>rfl,trivial⟩)
theorem Nz:Ao Tryz.prog 34:=fun args w=>by kernel_rfl
theorem N0:Dq Tryz.prog 34 HK:=FE (n:=2) Tryz.func34 (c:=Ah Tryz.f34) (by kernel_rfl) mixed ⟨fun t=>rfl,fun t=>rfl,fun t u=>rfl,fun t u=>rfl,fun t u=>rfl,fun t u=>⟨rfl,rfl⟩,by kernel_rfl,by kernel_rfl⟩ (fun⟨w,gr,f⟩ hp=>⟨_,yO w gr f hp,⟨show Aa Tryz.prog _ from Aa.nil,rfl,⟨show Ag Tryz.prog _ from Ag.nil,(Aw.none (fun _=>rfl))⟩⟩⟩)
def Yc (g:Int):Prop:=0<=g/\g<=15
def PY (g:Int):Nat:=AD g
def Yd (g:Int):Nat->List SV:=fun k=>[.int .i64 (Al g k)]
def Ye:List SV->Option (Prop×Nat×(Nat->List SV))
 |[.ref [.int .i64 g] 0]=>some (Yc g,PY g,Yd g)
 |_=>none
abbrev PZ:FQ:=JY Ye
def yP:Ak:={ muts:=[],frz:=B2 [],specs:=AB [],loops:=fun _=>none,iters:=Bw [],rfs:=AT [] }
theorem yQ (yl:Nat) (g:Int) (hp:Yc g):vc Tryz.prog { yP with loops:=AV [(3,{ T:=Nat,keep:=[0,1,3,4],keepO:=[],chg:=fun i=>[(5,.p (.int .i64 (DE g i)))],own:=fun _=>[],inv:=fun i=>i<=AD g,mu:=fun i=>AD g-i,yk:=some (fun i=>i) })],yld:=some ⟨yl,PY g,Yd g⟩ } (Ah Tryz.f119) (Ap Tryz.f119 (.yield yl::([.ref [.int .i64 g] 0]:List SV).map .p)) (JX Tryz.prog Tryz.f119 (PY g)):=
 @Eq.mpr _ (let A6:=[SV.int .i64 g];let A5:=(1:Nat);let A3:=((0:Int)-g);let A1:=(D6 g A3);let A7:=(Dv g A1);Ad .i64 A3/\(∃(g_1:Nat),nat_lit 0=g_1/\false=false/\(0:Int)=DE g g_1/\g_1<=AD g)/\∀(g_1:Nat),let A4:=(!decide (DE g g_1=Dv g A1));let A2:=(DE g g_1-Dv g A1);g_1<=AD g->(A4=true->yl=yl/\g_1<AD g /\ [SV.int .i64 (Gl (DE g g_1) A1)]= [SV.int .i64 (Al g g_1)]/\((false=true->g_1+A5=AD g\/g_1+A5=AD g+A5)/\(false=false->Ad .i64 A2/\∃(g':Nat),g_1+A5=g'/\false=false/\D6 A2 A7=DE g g'/\Dv g A1=Dv g A1/\D6 g A3=D6 g A3/\yl=yl/\SV.ref A6 (nat_lit 0)=SV.ref A6 (nat_lit 0)/\g'<=AD g/\AD g-g'<AD g-g_1))/\(true=true->AD g+A5=AD g\/AD g+A5=AD g+A5)/\(true=false->Ad .i64 A2/\∃(g':Nat),AD g+A5=g'/\false=false/\D6 A2 A7=DE g g'/\Dv g A1=Dv g A1/\D6 g A3=D6 g A3/\yl=yl/\False/\g'<=AD g/\AD g-g'<AD g-g_1))/\(A4=false->g_1=AD g\/g_1=AD g+A5)) (by kernel_rfl) (by
 conv=>zeta
 obtain⟨h1,h2⟩:=hp;obtain⟨t1,t2⟩:=yN h1 h2;refine⟨jK,⟨(0:Nat),rfl,rfl,rfl,Afg _⟩,fun k hk=>⟨fun hne=>?_,fun he=>?_⟩⟩
 ·have hne:¬ DE g k=F1 g:=of_decide_eq_false (Cx hne);have hlt:k<AD g:=by
   rcases AfP k (AD g)with h|h
   ·exact h
   ·obtain rfl:k=AD g:=by omega
    exact absurd t1 hne
  obtain⟨_,b1,b2⟩:=t2 k hlt;refine⟨rfl,hlt,rfl,⟨(fun h=>by cases h),fun _=>⟨Ad.of (show _<=DE g k-F1 g by omega) (show DE g k-F1 g<=_ by omega),k+1,rfl,rfl,rfl,rfl,rfl,rfl,rfl,by omega,by omega⟩⟩,fun _=>.inr rfl,(fun h=>by cases h)⟩
 ·have he:DE g k=F1 g:=of_decide_eq_true (Ca he);rcases AfP k (AD g)with h|h
  ·exact absurd he (t2 k h).1
  ·exact .inl (by omega))
theorem Yf:H7 Tryz.prog 119 PZ:=Na Tryz.func119 (c:=Ah Tryz.f119) (by kernel_rfl) mixed (fun caps l p n g hs hp=>by
 unfold Ye at hs;split at hs
 ·cases hs;exact⟨_,_,yQ l _ hp,(.cons (AX.refl _) .nil),rfl,show Aa Tryz.prog _ from Aa.nil,⟨show Ag Tryz.prog _ from Ag.nil,Aw.none (fun _=>rfl)⟩⟩
 ·cases hs)
theorem Yg:Ao Tryz.prog 119:=fun args w=>by kernel_rfl
instance:Inhabited Ac:=⟨⟨0,0⟩⟩
def Yh (p:Ac):List Int:=[p.w,p.h]
def D8 (a b:Ac):Int:=HG (Br a.w b.w) (Br a.h b.h)
theorem Yi {a b:Ac}:D8 a b<0↔a.w<b.w\/(a.w=b.w/\a.h<b.h):=by
 unfold D8 HG Br;rcases Int.lt_trichotomy a.w b.w with h1|h1|h1<;>rcases Int.lt_trichotomy a.h b.h with h2|h2|h2<;>grind
theorem yR:Go.Sort.SWO (Go.Proofs.ltOf D8):=by
 have k:∀x y,Go.Proofs.ltOf D8 x y=true↔x.w<y.w\/(x.w=y.w/\x.h<y.h):=fun x y=>by
  unfold Go.Proofs.ltOf;rw[decide_eq_true_iff,Yi]
 have kf:∀x y,Go.Proofs.ltOf D8 x y=false↔¬ (x.w<y.w\/(x.w=y.w/\x.h<y.h)):=fun x y=>by
  rw[<- k,Bool.not_eq_true]
 refine⟨fun x=>?_,fun x y z=>?_,fun x y z=>?_⟩
 ·rw[kf];omega
 ·simp only[k];omega
 ·simp only[kf];omega
def yS:Go.Shelf.Ren:=⟨fun|6=>120|15=>142|14=>149|28=>170|29=>171|20=>174|21=>175|22=>176|23=>177|24=>178|25=>179|26=>180|27=>181|46=>191|47=>187|48=>188|49=>192|50=>193|57=>203|n=>n,fun|22=>27|24=>74|25=>177|3=>3|39=>199|0=>0|53=>227|55=>229|4=>4|46=>220|45=>219|50=>224|5=>5|9=>9|66=>240|70=>244|76=>253|77=>254|n=>n,fun|n=>n⟩
theorem yT:Go.Proofs.SlLaysF0.n6 Tryz.prog yS:={
 mixed:=by kernel_rfl
 f6:=⟨Tryz.f120.name,by decide,Tryz.func120.trans (congrArg some (by kernel_rfl))⟩
 f14:=⟨Tryz.f149.name,by decide,Tryz.func149.trans (congrArg some (by kernel_rfl))⟩
 f15:=Tryz.func142.trans (congrArg some (by kernel_rfl))
 f20:=⟨Tryz.f174.name,by decide,Tryz.func174.trans (congrArg some (by kernel_rfl))⟩
 f21:=⟨Tryz.f175.name,by decide,Tryz.func175.trans (congrArg some (by kernel_rfl))⟩
 f22:=⟨Tryz.f176.name,by decide,Tryz.func176.trans (congrArg some (by kernel_rfl))⟩
 f23:=⟨Tryz.f177.name,by decide,Tryz.func177.trans (congrArg some (by kernel_rfl))⟩
 f24:=⟨Tryz.f178.name,by decide,Tryz.func178.trans (congrArg some (by kernel_rfl))⟩
 f25:=⟨Tryz.f179.name,by decide,Tryz.func179.trans (congrArg some (by kernel_rfl))⟩
 f26:=⟨Tryz.f180.name,by decide,Tryz.func180.trans (congrArg some (by kernel_rfl))⟩
 f27:=⟨Tryz.f181.name,by decide,Tryz.func181.trans (congrArg some (by kernel_rfl))⟩
 f28:=Tryz.func170.trans (congrArg some (by kernel_rfl))
 f29:=Tryz.func171.trans (congrArg some (by kernel_rfl))
 f46:=⟨Tryz.f191.name,by decide,Tryz.func191.trans (congrArg some (by kernel_rfl))⟩
 f47:=Tryz.func187.trans (congrArg some (by kernel_rfl))
 f48:=Tryz.func188.trans (congrArg some (by kernel_rfl))
 f49:=⟨Tryz.f192.name,by decide,Tryz.func192.trans (congrArg some (by kernel_rfl))⟩
 f50:=⟨Tryz.f193.name,by decide,Tryz.func193.trans (congrArg some (by kernel_rfl))⟩
 f57:=⟨Tryz.f203.name,by decide,Tryz.func203.trans (congrArg some (by kernel_rfl))⟩
 t0:=Tryz.underlying0
 a0:=Tryz.isAgg0
 z0:=Tryz.sizeOf0
 v0:=Tryz.zeroValue0
 t3:=Tryz.underlying3
 a3:=Tryz.isAgg3
 z3:=Tryz.sizeOf3
 v3:=Tryz.zeroValue3
 t4:=Tryz.underlying4
 a4:=Tryz.isAgg4
 z4:=Tryz.sizeOf4
 v4:=Tryz.zeroValue4
 t5:=Tryz.underlying5
 a5:=Tryz.isAgg5
 z5:=Tryz.sizeOf5
 v5:=Tryz.zeroValue5
 t9:=Tryz.underlying9
 a9:=Tryz.isAgg9
 z9:=Tryz.sizeOf9
 v9:=Tryz.zeroValue9
 t22:=Tryz.underlying27
 a22:=Tryz.isAgg27
 z22:=Tryz.sizeOf27
 v22:=Tryz.zeroValue27
 t25:=Tryz.underlying177
 a25:=Tryz.isAgg177
 z25:=Tryz.sizeOf177
 v25:=Tryz.zeroValue177
 t39:=Tryz.underlying199
 a39:=Tryz.isAgg199
 z39:=Tryz.sizeOf199
 v39:=Tryz.zeroValue199
 t45:=Tryz.underlying219
 a45:=Tryz.isAgg219
 z45:=Tryz.sizeOf219
 v45:=Tryz.zeroValue219
 t46:=Tryz.underlying220
 a46:=Tryz.isAgg220
 z46:=Tryz.sizeOf220
 v46:=Tryz.zeroValue220
 t50:=Tryz.underlying224
 a50:=Tryz.isAgg224
 z50:=Tryz.sizeOf224
 v50:=Tryz.zeroValue224
 t53:=Tryz.underlying227
 a53:=Tryz.isAgg227
 z53:=Tryz.sizeOf227
 v53:=Tryz.zeroValue227
 t55:=Tryz.underlying229
 a55:=Tryz.isAgg229
 z55:=Tryz.sizeOf229
 v55:=Tryz.zeroValue229
 t66:=Tryz.underlying240
 a66:=Tryz.isAgg240
 z66:=Tryz.sizeOf240
 v66:=Tryz.zeroValue240
 t70:=Tryz.underlying244
 a70:=Tryz.isAgg244
 z70:=Tryz.sizeOf244
 v70:=Tryz.zeroValue244
 t76:=Tryz.underlying253
 a76:=Tryz.isAgg253
 z76:=Tryz.sizeOf253
 v76:=Tryz.zeroValue253
 t77:=Tryz.underlying254
 a77:=Tryz.isAgg254
 z77:=Tryz.sizeOf254
 v77:=Tryz.zeroValue254 }
def Yj (g:Int):Prop:=True
def Yk (g:Int):SV:=.clo 119 [.ref [.int .i64 g] 0]
def Yl:List EV->Option (Prop×SV)
 |[.p (.int .i64 g)]=>some (Yj g,Yk g)
 |_=>none
abbrev Qa:SE.Spec:=(AK Yl)
def yU:Ak:={ muts:=[],frz:=B2 [],specs:=AB [],loops:=AV [],iters:=Bw [],rfs:=AT [],nils:=B3 [] }
theorem yV (g:Int) (hp:Yj g):vc Tryz.prog (yU) (Ah Tryz.f75) (Ap Tryz.f75 [.p (.int .i64 g)]) (AJ Tryz.prog Tryz.f75 (Yk g)):=
 @Eq.mpr _ (SV.clo (nat_lit 119) [SV.ref [SV.int .i64 g] (nat_lit 0)]=SV.clo (nat_lit 119) [SV.ref [SV.int .i64 g] (nat_lit 0)]) (by kernel_rfl) (by
 rfl)
theorem Ym:Av Tryz.prog 75 Qa:=AM Tryz.func75 (c:=Ah Tryz.f75) (by kernel_rfl) mixed (fun args p r hs hp=>by
 unfold Yl at hs;split at hs
 ·cases hs;exact⟨_,_,yV _ hp,(.same _ .nil),⟨show Aa Tryz.prog _ from Aa.nil,rfl,⟨show Ag Tryz.prog _ from Ag.nil,(Aw.none (fun _=>rfl))⟩⟩⟩
 ·cases hs)
theorem Yn:Ao Tryz.prog 75:=fun args w=>by kernel_rfl
def Yo (a:Ac) (b:Ac):Prop:=True
def Yp (a:Ac) (b:Ac):SV:=.int .i64 (D8 a b)
def Qb:List EV->Option (Prop×SV)
 |[.p (.agg [.int .i64 a_w,.int .i64 a_h]),.p (.agg [.int .i64 b_w,.int .i64 b_h])]=>some (Yo (⟨a_w,a_h⟩:Ac) (⟨b_w,b_h⟩:Ac),Yp (⟨a_w,a_h⟩:Ac) (⟨b_w,b_h⟩:Ac))
 |_=>none
abbrev yW:SE.Spec:=(AK Qb)
def yX:Ak:={ cC with specs:=AB [(111,Kc),(122,P2)] }
theorem yY (a:Ac) (b:Ac) (hp:Yo a b):vc Tryz.prog (yX) (Ah Tryz.f121) (Ap Tryz.f121 [.p (.agg [.int .i64 a.w,.int .i64 a.h]),.p (.agg [.int .i64 b.w,.int .i64 b.h])]) (AJ Tryz.prog Tryz.f121 (Yp a b)):=
 @Eq.mpr _ (let I:=SV.int .i64;let A1:=[I (Br a.w b.w),I (Br a.h b.h)];True/\True/\((∀(i:Nat),i<nat_lit 2->BX A1 (nat_lit 1) i = [I (DK (BX A1 (nat_lit 1) i))])/\nat_lit 2<=(1000000:Nat))/\GM (fun(i:Nat)=>DK (BX A1 (nat_lit 1) i)) (2:Nat)=D8 a b) (by kernel_rfl) (by
 conv=>zeta
 exact⟨trivial,trivial,⟨fun i hi=>by match i,hi with|0,_=>rfl|1,_=>rfl,by decide⟩,rfl⟩)
theorem yZ:Av Tryz.prog 121 yW:=AM Tryz.func121 (c:=Ah Tryz.f121) (by kernel_rfl) mixed (fun args p r hs hp=>by
 unfold Qb at hs;split at hs
 ·cases hs;exact⟨_,_,yY _ _ hp,(.same _ (.same _ .nil)),⟨show Aa Tryz.prog _ from(Aa.cons L1 L2 (Aa.cons TY TZ Aa.nil)),rfl,⟨show Ag Tryz.prog _ from Ag.nil,(Aw.none (fun _=>rfl))⟩⟩⟩
 ·cases hs)
theorem zA:Ao Tryz.prog 121:=fun args w=>by kernel_rfl
abbrev Yq:Tr:=Nd 74 2 121 1005 Yh D8
theorem zB:Gn Tryz.prog 120 Yq:=Pr (enc:=Yh) yT (by decide) (fun w=>Tryz.isAgg74 w) (fun w=>Tryz.sizeOf74 w) (fun _=>rfl) yR yZ zA (fun x y=>show Fw Qb [.p (.agg [.int .i64 x.w,.int .i64 x.h]),.p (.agg [.int .i64 y.w,.int .i64 y.h])]from trivial) (fun x y=>rfl) _ _
theorem zC:Ao Tryz.prog 120:=fun args w=>by kernel_rfl
def Dd (u:Nat->Ac):Nat->List Ac
 |0=>[]
 |k+1=>match (Dd u k).getLast? with
   |none=>Dd u k ++ [u k]
   |some x=>if (u k).h<x.h then Dd u k ++ [u k]else Dd u k
def Bb (u:Nat->Ac) (k:Nat):Nat:=(Dd u k).length
def BN (u:Nat->Ac) (k i:Nat):Ac:=(Dd u k).getD i ⟨0,0⟩
theorem Yr (u:Nat->Ac):∀k,Bb u k<=k
 |0=>Afo _
 |k+1=>by
   have:=Yr u k;unfold Bb at this ⊢;rw[Dd];split
   ·simp;omega
   ·split
    ·simp;omega
    ·omega
theorem Ys {u:Nat->Ac} {k:Nat} {x:Ac} (h:(Dd u k).getLast? = some x):Bb u k≠0/\BN u k (((Bb u k:Nat):Int)-1).toNat=x:=by
 rw[List.getLast?_eq_getElem?]at h;obtain⟨h1,h2⟩:=List.getElem?_eq_some_iff.1 h;have e:(((Bb u k:Nat):Int)-1).toNat=(Dd u k).length-1:=by unfold Bb;omega
 refine⟨by unfold Bb;omega,?_⟩;rw[e];unfold BN;rw[AS,h];rfl
theorem zD {u:Nat->Ac} {k:Nat} (h:(bif decide (((Bb u k:Nat):Int)=0)then true else decide ((u k).h<(BN u k (((Bb u k:Nat):Int)-1).toNat).h))=true):Dd u (k+1)=Dd u k ++ [u k]:=by
 rw[Dd];cases hl:(Dd u k).getLast? with
 |none=>rfl
 |some x =>
   obtain⟨h1,h2⟩:=Ys hl;rw[h2,decide_eq_false (show ¬ ((Bb u k:Nat):Int)=0 by omega),cond_false,decide_eq_true_eq]at h;exact if_pos h
theorem zF {u:Nat->Ac} {k:Nat} (h:(bif decide (((Bb u k:Nat):Int)=0)then true else decide ((u k).h<(BN u k (((Bb u k:Nat):Int)-1).toNat).h))=false):Dd u (k+1)=Dd u k:=by
 rw[Dd];cases hl:(Dd u k).getLast? with
 |none =>
   have e:Dd u k = []:=List.getLast?_eq_none_iff.1 hl;have e2:Bb u k=0:=by unfold Bb;rw[e];rfl
   rw[e2]at h;cases h
 |some x =>
   obtain⟨h1,h2⟩:=Ys hl;rw[h2,decide_eq_false (show ¬ ((Bb u k:Nat):Int)=0 by omega),cond_false,decide_eq_false_iff_not]at h;exact if_neg h
theorem zG {u:Nat->Ac} {k:Nat} (h:Dd u (k+1)=Dd u k ++ [u k]):Bb u (k+1)=Bb u k+1/\∀i,i<Bb u k+1->BN u (k+1) i=if i<Bb u k then BN u k i else u k:=by
 unfold Bb BN;rw[h];refine⟨by simp,fun i hi=>?_⟩;simp only[AS]
 by_cases e:i<(Dd u k).length
 ·rw[if_pos e,Af2 e]
 ·rw[if_neg e,Af6 (by omega),show i-(Dd u k).length=0 by omega];rfl
abbrev Km:Mk:={ T:=(Nat)×(Nat->Ac),U:=Nat->Ac,args:=fun t=>(fun n f=>[.row 1010]) t.1 t.2,lkeys:=[1010],keys:=[32],lent:=fun t=>(fun n f=>[(1010,.row 74 2 n (fun j=>[.int .i64 (f j).w,.int .i64 (f j).h]))]) t.1 t.2,pre:=fun t=>(fun n f=>n<=1000000) t.1 t.2,post:=fun t u=>(fun n f=>fun u=>Dw D8 n f u) t.1 t.2 u,lent':=fun t u=>(fun n f=>fun u=>[(1010,.row 74 2 n (fun j=>[.int .i64 (u j).w,.int .i64 (u j).h]))]) t.1 t.2 u,own:=fun t u=>(fun n f=>fun u=>[(32,.row 74 2 (Bb u n) (fun j=>[.int .i64 (BN u n j).w,.int .i64 (BN u n j).h]))]) t.1 t.2 u,res:=fun t u=>(fun n f=>fun u=>.row 32) t.1 t.2 u }
theorem zH (n:Nat) (f:Nat->Ac) (hp:Km.pre (n,f)):vc Tryz.prog ({ muts:=[5,32],frz:=B2 [],specs:=AB [],loops:=AV [(4,{ T:=(Nat->Ac)×Nat,keep:=[0,8,9],keepO:=[],chg:=fun t=>[(10,.p (.int .i64 (t.2:Int))),(3,.row 32)],own:=fun t=>[(1010,.row 74 2 n (fun j=>[.int .i64 (t.1 j).w,.int .i64 (t.1 j).h])),(32,.row 74 2 (Bb t.1 t.2) (fun j=>[.int .i64 (BN t.1 t.2 j).w,.int .i64 (BN t.1 t.2 j).h]))],inv:=fun t=>t.2<=n/\Dw D8 n f t.1,mu:=fun t=>n-t.2 })],iters:=Bw [],rfs:=AT [],nils:=B3 [],trs:=HF [(120,Yq)],ren:=fun k=>k+5,nilsL:=B3 [(4,[(3,32,74,2)])] }) (Ah Tryz.f76) (D7 Tryz.f76 (Km.args (n,f)) (Km.lent (n,f))) (Fx Tryz.prog Tryz.f76 Km (n,f)):=
 @Eq.mpr _ (let I:=SV.int .i64;let T:=Af1;let A7:=(0:Int);let A5:=(1:Int);∃(t:Nat×(Nat->Ac)),let A6:=(↑t.1:Int);SV.clo (nat_lit 121) []=SV.clo (121:Nat) []/\(n=t.1/\∀(i:Nat),i<n -> [I (f i).w,I (f i).h]= [I (t.2 i).w,I (t.2 i).h])/\t.1<=(1000000:Nat)/\∀(u:Nat->Ac),Dw D8 t.1 t.2 u->(∃(g:(Nat->Ac)×Nat),A7=(↑g.2:Int)/\(t.1=n/\∀(i:Nat),i<t.1 -> [I (u i).w,I (u i).h]= [I (g.1 i).w,I (g.1 i).h])/\((0:Nat)=Bb g.1 g.2/\∀(i:Nat),i<(0:Nat) -> []= [I (BN g.1 g.2 i).w,I (BN g.1 g.2 i).h])/\g.2<=n/\Dw D8 n f g.1)/\∀(g:(Nat->Ac)×Nat),let A3:=(↑g.2:Int);let A8:=(g.1 (T A3));let A1:=(↑(Bb g.1 g.2):Int);let A4:=(!decide (A1=A7));let A2:=(bif decide (A1=A7)then true else decide (A8.h<(BN g.1 g.2 (T (A1-A5))).h));g.2<=n/\Dw D8 n f g.1->(decide (A3<A6)=true->(A7<=A3/\A3<(↑n:Int))/\T A3<n/\(A4=true->Ad .i64 (A1-A5))/\(A4=true->A7<=A1-A5/\A1-A5<A1)/\(A4=true->T (A1-A5)<Bb g.1 g.2)/\(A2=true->(Bb g.1 g.2+nat_lit 1)*nat_lit 16<=(140737488355328:Nat)/\Ad .i64 (A3+A5)/\∃(g':(Nat->Ac)×Nat),A3+A5=(↑g'.2:Int)/\A6=A6/\(n=n/\∀(i:Nat),i<n -> [I (g.1 i).w,I (g.1 i).h]= [I (g'.1 i).w,I (g'.1 i).h])/\(Bb g.1 g.2+nat_lit 1=Bb g'.1 g'.2/\∀(i:Nat),i<Bb g.1 g.2+nat_lit 1->AU (Bb g.1 g.2) (fun(j:Nat)=>[I (BN g.1 g.2 j).w,I (BN g.1 g.2 j).h]) (fun(x:Nat)=>[I A8.w,I A8.h]) i = [I (BN g'.1 g'.2 i).w,I (BN g'.1 g'.2 i).h])/\(g'.2<=n/\Dw D8 n f g'.1)/\n-g'.2<n-g.2)/\(A2=false->Ad .i64 (A3+A5)/\∃(g':(Nat->Ac)×Nat),A3+A5=(↑g'.2:Int)/\A6=A6/\(n=n/\∀(i:Nat),i<n -> [I (g.1 i).w,I (g.1 i).h]= [I (g'.1 i).w,I (g'.1 i).h])/\(Bb g.1 g.2=Bb g'.1 g'.2/\∀(i:Nat),i<Bb g.1 g.2 -> [I (BN g.1 g.2 i).w,I (BN g.1 g.2 i).h]= [I (BN g'.1 g'.2 i).w,I (BN g'.1 g'.2 i).h])/\(g'.2<=n/\Dw D8 n f g'.1)/\n-g'.2<n-g.2))/\(decide (A3<A6)=false->∃(u:Nat->Ac),(n=n/\∀(i:Nat),i<n -> [I (g.1 i).w,I (g.1 i).h]= [I (u i).w,I (u i).h])/\(Bb g.1 g.2=Bb u n/\∀(i:Nat),i<Bb g.1 g.2 -> [I (BN g.1 g.2 i).w,I (BN g.1 g.2 i).h]= [I (BN u n i).w,I (BN u n i).h])/\Dw D8 n f u)) (by kernel_rfl) (by
 conv=>zeta
 have hp:n<=1000000:=hp;refine⟨(n,f),rfl,⟨rfl,fun _ _=>rfl⟩,hp,fun u hu=>⟨⟨(u,0),rfl,⟨rfl,fun _ _=>rfl⟩,⟨rfl,fun i hi=>absurd hi (Rc _)⟩,Afg _,hu⟩,fun⟨v,k⟩ ⟨hk,hv⟩=>⟨fun hlt=>?_,fun hge=>?_⟩⟩⟩
 ·have hlt:(k:Int)<(n:Int):=of_decide_eq_true hlt;have hk:k<n:=by omega
  have c2:((k:Int)).toNat=k:=Afy k;have hs:=Yr v k;have nz:(!decide (((Bb v k:Nat):Int)=0))=true->0<Bb v k:=fun h=>by
   have:¬ ((Bb v k:Nat):Int)=0:=of_decide_eq_false (Cx h);omega
  refine⟨⟨Af7 _,hlt⟩,by show(k:Int).toNat<n;omega,fun h=>Ad.of (by have:=nz h;show _<=((Bb v k:Nat):Int)-1;omega) (by show((Bb v k:Nat):Int)-1<=_;omega),fun h=>⟨by have:=nz h;show _<=((Bb v k:Nat):Int)-1;omega,by show((Bb v k:Nat):Int)-1<((Bb v k:Nat):Int);omega⟩,fun h=>by have:=nz h;show(((Bb v k:Nat):Int)-1).toNat<Bb v k;omega,fun h=>?_,fun h=>?_⟩
  ·have e:=zD (u:=v) (k:=k) (by have h':(bif decide (((Bb v k:Nat):Int)=0)then true else decide ((v (k:Int).toNat).h<(BN v k (((Bb v k:Nat):Int)-1).toNat).h))=true:=h;rw[c2]at h';exact h');obtain⟨e1,e2⟩:=zG e;refine⟨by show(Bb v k+1)*16<=140737488355328;omega,Ad.of (by show _<=(k:Int)+1;omega) (by show(k:Int)+1<=_;omega),(v,k+1),by show(k:Int)+1=((k+1:Nat):Int);omega,rfl,⟨rfl,fun _ _=>rfl⟩,⟨e1.symm,fun i hi=>?_⟩,⟨by show k+1<=n;omega,hv⟩,by show n-(k+1)<n-k;omega⟩;have hi:i<Bb v k+1:=hi;have e3:=e2 i hi;show AU (Bb v k) _ _ i = [SV.int .i64 (BN v (k+1) i).w,SV.int .i64 (BN v (k+1) i).h];rw[e3];unfold AU
   by_cases h4:i<Bb v k
   ·rw[if_pos h4,if_pos h4]
   ·rw[if_neg h4,if_neg h4];show [SV.int .i64 (v (k:Int).toNat).w,SV.int .i64 (v (k:Int).toNat).h]=_;rw[c2]
  ·have e:=zF (u:=v) (k:=k) (by have h':(bif decide (((Bb v k:Nat):Int)=0)then true else decide ((v (k:Int).toNat).h<(BN v k (((Bb v k:Nat):Int)-1).toNat).h))=false:=h;rw[c2]at h';exact h');have e1:Bb v (k+1)=Bb v k:=by unfold Bb;rw[e]
   have e2:∀i,BN v (k+1) i=BN v k i:=fun i=>by unfold BN;rw[e]
   exact⟨Ad.of (by show _<=(k:Int)+1;omega) (by show(k:Int)+1<=_;omega),(v,k+1),by show(k:Int)+1=((k+1:Nat):Int);omega,rfl,⟨rfl,fun _ _=>rfl⟩,⟨e1.symm,fun i _=>by rw[e2]⟩,⟨by show k+1<=n;omega,hv⟩,by show n-(k+1)<n-k;omega⟩
 ·have hge:¬ (k:Int)<(n:Int):=of_decide_eq_false hge;have hk:k<=n:=hk;obtain rfl:k=n:=by omega
  exact⟨v,⟨rfl,fun _ _=>rfl⟩,⟨rfl,fun _ _=>rfl⟩,hv⟩)
theorem zI:Ao Tryz.prog 76:=fun args w=>by kernel_rfl
theorem zJ:Dq Tryz.prog 76 Km:=FE (n:=1) Tryz.func76 (c:=Ah Tryz.f76) (by kernel_rfl) mixed ⟨fun t=>rfl,fun t=>rfl,fun t u=>rfl,fun t u=>rfl,fun t u=>rfl,fun t u=>⟨rfl,rfl⟩,by kernel_rfl,by kernel_rfl⟩ (fun⟨n,f⟩ hp=>⟨_,zH n f hp,⟨show Aa Tryz.prog _ from Aa.nil,rfl,⟨show Ag Tryz.prog _ from Ag.nil,⟨show DS Tryz.prog _ from(DS.cons zB zC DS.nil),⟨GE.no1 (fun _=>rfl),FamsOk.none (fun _=>rfl)⟩⟩⟩⟩⟩)
def Az (n:Nat):Int:=BJ 1 n-1
theorem G0 {n:Nat} (h:n<=4):0<=Az n/\Az n<=15/\0<=BJ 1 n/\BJ 1 n<=16:=by
 have:n=0\/n=1\/n=2\/n=3\/n=4:=by omega
 rcases this with rfl|rfl|rfl|rfl|rfl<;>decide
abbrev Iq:Mk:={ T:=(L.Sq Ab)×(Int)×(Int->L.Sq Ac)×(Int->Bool),U:=Nat,args:=fun t=>(fun w gr f dom=>[.loc 1000 0]) t.1 t.2.1 t.2.2.1 t.2.2.2,lkeys:=[1000,1001],keys:=[],lent:=fun t=>(fun w gr f dom=>[(1000,.blk 130 [.p ((.sl 4 w.n (fun i=>[.int .i64 ((w.g i).id),.int .i64 ((w.g i).colour),.int .i64 ((w.g i).grain),.sl 2 (w.g i).ol.n (fun i1=>[.int .i64 (((w.g i).ol.g i1).x),.int .i64 (((w.g i).ol.g i1).y)])]))),.p (.int .i64 gr),.mapv 1001]),(1001,.mq 3 27 dom (Ai f))]) t.1 t.2.1 t.2.2.1 t.2.2.2,pre:=fun t=>(fun w gr f dom=>w.n<=4) t.1 t.2.1 t.2.2.1 t.2.2.2,post:=fun t u=>(fun w gr f dom=>fun uu=>True) t.1 t.2.1 t.2.2.1 t.2.2.2 u,lent':=fun t u=>(fun w gr f dom=>fun uu=>[(1000,.blk 130 [.p ((.sl 4 w.n (fun i=>[.int .i64 ((w.g i).id),.int .i64 ((w.g i).colour),.int .i64 ((w.g i).grain),.sl 2 (w.g i).ol.n (fun i1=>[.int .i64 (((w.g i).ol.g i1).x),.int .i64 (((w.g i).ol.g i1).y)])]))),.p (.int .i64 gr),.mapv 1001]),(1001,.mq 3 27 dom (Ai f))]) t.1 t.2.1 t.2.2.1 t.2.2.2 u,own:=fun t u=>(fun w gr f dom=>fun uu=>[]) t.1 t.2.1 t.2.2.1 t.2.2.2 u,res:=fun t u=>(fun w gr f dom=>fun uu=>.p (.int .i64 (Az w.n))) t.1 t.2.1 t.2.2.1 t.2.2.2 u }
theorem zK (w:L.Sq Ab) (gr:Int) (f:Int->L.Sq Ac) (dom:Int->Bool) (hp:Iq.pre (w,gr,f,dom)):vc Tryz.prog (cC) (Ah Tryz.f37) (D7 Tryz.f37 (Iq.args (w,gr,f,dom)) (Iq.lent (w,gr,f,dom))) (Fx Tryz.prog Tryz.f37 Iq (w,gr,f,dom)):=
 @Eq.mpr _ (let I:=SV.int .i64;let A3:=(1:Int);let A2:=(↑w.n:Int);(0:Int)<=A2/\Ad .i64 (BJ A3 A2)/\Ad .i64 (BJ A3 A2-A3)/\∃(u:Nat),BJ A3 A2-A3=Az w.n/\(w.n=w.n/\∀(i:Nat),let A1:=[I (w.g i).id,I (w.g i).colour,I (w.g i).grain,SV.sl (2:Nat) (w.g i).ol.n fun(i1:Nat)=>[I ((w.g i).ol.g i1).x,I ((w.g i).ol.g i1).y]];i<w.n->A1=A1)/\gr=gr/\(∀(x:Int),dom x=dom x)/\(∀(x:Int),dom x=true->Ai f x=Ai f x)/\True) (by kernel_rfl) (by
 conv=>zeta
 obtain⟨a1,a2,a3,a4⟩:=G0 (n:=w.n) hp;exact⟨Af7 _,jK,Ad.of (by show _<=Az w.n;omega) (by show Az w.n<=_;omega),(0:Nat),rfl,⟨rfl,fun _ _=>rfl⟩,rfl,fun _=>rfl,fun _ _=>rfl,trivial⟩)
theorem Qc:Ao Tryz.prog 37:=fun args w=>by kernel_rfl
theorem Qd:Dq Tryz.prog 37 Iq:=FE (n:=1) Tryz.func37 (c:=Ah Tryz.f37) (by kernel_rfl) mixed ⟨fun t=>rfl,fun t=>rfl,fun t u=>rfl,fun t u=>rfl,fun t u=>rfl,fun t u=>⟨rfl,rfl⟩,by kernel_rfl,by kernel_rfl⟩ (fun⟨w,gr,f,dom⟩ hp=>⟨_,zK w gr f dom hp,⟨show Aa Tryz.prog _ from Aa.nil,rfl,⟨show Ag Tryz.prog _ from Ag.nil,(Aw.none (fun _=>rfl))⟩⟩⟩)
def Cu.le (a b:Ac):Prop:=a.w<=b.w/\a.h<=b.h
def Cu.leB (a b:Ac):Bool:=decide (a.w<=b.w)&&decide (a.h<=b.h)
theorem Cu.leB_iff {a b:Ac}:leB a b=true↔le a b:=by unfold leB le;rw[nT,decide_eq_true_eq,decide_eq_true_eq]
theorem Cu.le_refl (a:Ac):le a a:=⟨Af4 _,Af4 _⟩
theorem Cu.le_trans {a b c:Ac} (h:le a b) (k:le b c):le a c:=⟨Ag0 h.1 k.1,Ag0 h.2 k.2⟩
theorem Cu.sz_ext {a b:Ac} (h:a.w=b.w) (k:a.h=b.h):a=b:=by
 cases a;cases b;simp only at h k;subst h k;rfl
def Cu.Stair (l:List Ac):Prop:=l.Pairwise fun a b=>a.w<b.w/\b.h<a.h
def Cu.cov (l:List Ac) (s:Ac):Prop:=∃x,x∈l/\le x s
def Cu.Same (l m:List Ac):Prop:=∀s,cov l s↔cov m s
theorem Cu.Same.refl (l:List Ac):Same l l:=fun _=>Iff.rfl
theorem Cu.Same.symm {l m:List Ac} (h:Same l m):Same m l:=fun s=>(h s).symm
theorem Cu.Same.trans {l m n:List Ac} (h:Same l m) (k:Same m n):Same l n:=fun s=>(h s).trans (k s)
theorem Cu.cov_append {l m:List Ac} {s:Ac}:cov (l++m) s↔cov l s\/cov m s:=by
 unfold cov;simp only[Afz];constructor
 ·rintro⟨x,h|h,k⟩
  ·exact .inl ⟨x,h,k⟩
  ·exact .inr ⟨x,h,k⟩
 ·rintro(⟨x,h,k⟩|⟨x,h,k⟩)
  ·exact⟨x,.inl h,k⟩
  ·exact⟨x,.inr h,k⟩
theorem Cu.Same.append {l l' m m':List Ac} (h:Same l l') (k:Same m m'):Same (l++m) (l'++m'):=fun s=>by
 rw[cov_append,cov_append,h s,k s]
theorem Cu.Same.of_mem {l m:List Ac} (h:∀x,x∈l↔x∈m):Same l m:=fun s=>by
 unfold cov;simp only[h]
theorem Cu.cov_mem {l:List Ac} {x:Ac} (h:x∈l):cov l x:=⟨x,h,le_refl x⟩
theorem Cu.Same.of_sub {l m:List Ac} (h:∀x,x∈l->cov m x) (k:∀x,x∈m->cov l x):Same l m:=fun s=>by
 constructor
 ·rintro⟨x,hx,hs⟩;obtain⟨y,hy,hyx⟩:=h x hx;exact⟨y,hy,le_trans hyx hs⟩
 ·rintro⟨x,hx,hs⟩;obtain⟨y,hy,hyx⟩:=k x hx;exact⟨y,hy,le_trans hyx hs⟩
theorem Cu.stair_le {l:List Ac} (h:Stair l):∀a,a∈l->∀b,b∈l->le a b->a=b:=by
 intro a ha b hb hab;obtain⟨i,hi,rfl⟩:=Af9 ha;obtain⟨j,hj,rfl⟩:=Af9 hb;have hp:=Agt.1 h;rcases Nat.lt_trichotomy i j with hlt|heq|hgt
 ·have:=hp i j hi hj hlt;have:=hab.2;omega
 ·subst heq;rfl
 ·have:=hp j i hj hi hgt;have:=hab.1;omega
theorem Cu.mem_of_same {l m:List Ac} (hl:Stair l) (hm:Stair m) (h:Same l m):∀x,x∈l->x∈m:=fun x hx=>by
 obtain⟨y,hy,hyx⟩:=(h x).1 (cov_mem hx);obtain⟨z,hz,hzy⟩:=(h y).2 (cov_mem hy);have e1:=stair_le hl z hz x hx (le_trans hzy hyx);subst e1;have:y=z:=sz_ext (Int.le_antisymm hyx.1 hzy.1) (Int.le_antisymm hyx.2 hzy.2);exact this ▸ hy
theorem Cu.stair_ext:∀{l m:List Ac},Stair l->Stair m->(∀x,x∈l↔x∈m)->l=m
 |[],[],_,_,_=>rfl
 |[],b::m,_,_,h=>by have:=(h b).2 (Afs ..);cases this
 |a::l,[],_,_,h=>by have:=(h a).1 (Afs ..);cases this
 |a::l,b::m,hl,hm,h=>by
   unfold Stair at hl hm;rw[Agd]at hl hm;have e:a=b:=by
    rcases Afk.1 ((h a).1 (Afs ..))with e|e
    ·exact e
    ·rcases Afk.1 ((h b).2 (Afs ..))with e2|e2
     ·exact e2.symm
     ·have:=(hm.1 a e).1;have:=(hl.1 b e2).1;omega
   subst e;rw[stair_ext hl.2 hm.2 (fun x=>?_)];constructor
   ·intro hx;rcases Afk.1 ((h x).1 (Afn _ hx))with e|e
    ·subst e;have:=(hl.1 x hx).1;omega
    ·exact e
   ·intro hx;rcases Afk.1 ((h x).2 (Afn _ hx))with e|e
    ·subst e;have:=(hm.1 x hx).1;omega
    ·exact e
theorem Cu.stair_uniq {l m:List Ac} (hl:Stair l) (hm:Stair m) (h:Same l m):l=m :=
 stair_ext hl hm (fun x=>⟨mem_of_same hl hm h x,mem_of_same hm hl h.symm x⟩)
def Cu.ins (l:List Ac) (s:Ac):List Ac:=if l.any (fun x=>leB x s)then l else l.filter (fun x=>decide (x.w<s.w))++s::l.filter (fun x=>decide (s.w<x.w) && !leB s x)
theorem Cu.ins_ok {l:List Ac} (h:Stair l) (s:Ac):Stair (ins l s)/\Same (ins l s) (l ++ [s]):=by
 unfold ins;split
 ·rename_i hc;obtain⟨x,hx,hxs⟩:=Ag5.1 hc;refine⟨h,Same.of_sub (fun y hy=>cov_mem (AfQ _ hy)) (fun y hy=>?_)⟩;rcases Afz.1 hy with hy|hy
  ·exact cov_mem hy
  ·rw[Afr.1 hy];exact⟨x,hx,leB_iff.1 hxs⟩
 ·rename_i hc;have hc:∀x,x∈l->¬ le x s:=fun x hx e=>hc (Ag5.2 ⟨x,hx,leB_iff.2 e⟩);refine⟨?_,Same.of_sub (fun y hy=>?_) (fun y hy=>?_)⟩
  ·unfold Stair;rw[AgR,Agd];refine⟨List.Pairwise.filter _ h,⟨fun y hy=>?_,List.Pairwise.filter _ h⟩,fun x hx y hy=>?_⟩
   ·obtain⟨_,q⟩:=Afh.1 hy;simp only[nT,decide_eq_true_eq,AfA]at q;refine⟨q.1,?_⟩;have:¬ le s y:=fun e=>by rw[leB_iff.2 e]at q;cases q.2
    unfold le at this;omega
   ·obtain⟨m1,q⟩:=Afh.1 hx;have q:x.w<s.w:=by simpa using q
    have hs:s.h<x.h:=by
     have:=hc x m1;unfold le at this;omega
    rcases Afk.1 hy with rfl|hy
    ·exact⟨q,hs⟩
    ·obtain⟨_,q2⟩:=Afh.1 hy;simp only[nT,decide_eq_true_eq,AfA]at q2;have:¬ le s y:=fun e=>by rw[leB_iff.2 e]at q2;cases q2.2
     unfold le at this;omega
  ·rcases Afz.1 hy with hy|hy
   ·exact cov_mem (AfQ _ (Afh.1 hy).1)
   ·rcases Afk.1 hy with rfl|hy
    ·exact cov_mem (AfL _ (Afr.2 rfl))
    ·exact cov_mem (AfQ _ (Afh.1 hy).1)
  ·rcases Afz.1 hy with hy|hy
   ·by_cases e1:y.w<s.w
    ·exact cov_mem (AfQ _ (Afh.2 ⟨hy,by simpa using e1⟩))
    ·by_cases e2:le s y
     ·exact⟨s,AfL _ (Afs ..),e2⟩
     ·have e3 : s.w<y.w :=by
       have:=hc y hy;unfold le at this e2;omega
      refine cov_mem (AfL _ (Afn _ (Afh.2 ⟨hy,?_⟩)));rw[nT];refine⟨decide_eq_true e3,?_⟩;cases h2:leB s y with
      |false=>rfl
      |true=>exact absurd (leB_iff.1 h2) e2
   ·rw[Afr.1 hy];exact cov_mem (AfL _ (Afs ..))
def Cu.stair (l:List Ac):List Ac:=l.foldl ins []
theorem Cu.foldl_ok:∀(l a:List Ac),Stair a->Stair (l.foldl ins a)/\Same (l.foldl ins a) (a++l)
 |[],a,h=>⟨h,by rw[Aga];exact Same.refl _⟩
 |s::l,a,h=>by
   obtain⟨h1,h2⟩:=ins_ok h s;obtain⟨h3,h4⟩:=foldl_ok l (ins a s) h1;refine⟨h3,h4.trans ?_⟩;have:=h2.append (Same.refl l);rwa[AfS]at this
theorem Cu.stair_ok (l:List Ac):Stair (stair l)/\Same (stair l) l:=foldl_ok l [] List.Pairwise.nil
theorem Cu.stair_eq {l m:List Ac} (h:Stair m) (k:Same m l):m=stair l:=stair_uniq h (stair_ok l).1 (k.trans (stair_ok l).2.symm)
theorem Cu.stair_congr {l m:List Ac} (h:Same l m):stair l=stair m:=stair_eq (stair_ok l).1 ((stair_ok l).2.trans h)
def Cu.scan:List Ac->List Ac->List Ac
 |out,[]=>out
 |out,s::l=>scan (match out.getLast? with
   |none=>out ++ [s]
   |some x=>if s.h<x.h then out ++ [s]else out) l
def Cu.Asc (l:List Ac):Prop:=l.Pairwise fun a b=>a.w<b.w\/(a.w=b.w/\a.h<=b.h)
theorem Cu.scan_ok:∀(l out:List Ac),Stair out->Asc l->(∀x,x∈out->∀s,s∈l->x.w<s.w\/(x.w=s.w/\x.h<=s.h))->Stair (scan out l)/\Same (scan out l) (out++l)
 |[],out,h,_,_=>⟨h,by rw[Aga];exact Same.refl _⟩
 |s::l,out,h,ha,hx=>by
   unfold Asc at ha;rw[Agd]at ha;have key:∀out',Stair out'->Same out' (out ++ [s])->(∀x,x∈out'->x∈out\/x=s)->Stair (scan out' l)/\Same (scan out' l) (out++s::l):=fun out' h1 h2 h3=>by
    obtain⟨k1,k2⟩:=scan_ok l out' h1 ha.2 (fun x hx' y hy=>by
     rcases h3 x hx' with e|rfl
     ·exact hx x e y (Afn _ hy)
     ·exact ha.1 y hy)
    refine⟨k1,k2.trans ?_⟩;have:=h2.append (Same.refl l);rwa[AfS]at this
   unfold scan;cases hl:out.getLast? with
   |none =>
     have e:out = []:=List.getLast?_eq_none_iff.1 hl;subst e;exact key [s] (AgW ..) (Same.refl _) (fun x hx'=>.inr (Afr.1 hx'))
   |some x =>
     obtain⟨pre,hpre⟩:=List.getLast?_eq_some_iff.1 hl;have hxm:x∈out:=by rw[hpre];exact AfL _ (Afr.2 rfl)
     have hxs:=hx x hxm s (Afs ..);show Stair (scan (if s.h<x.h then out ++ [s]else out) l)/\Same (scan (if s.h<x.h then out ++ [s]else out) l) (out++s::l)
     by_cases hh:s.h<x.h
     ·rw[if_pos hh];have hlow:∀y,y∈out->x.h<=y.h/\y.w<=x.w:=fun y hy=>by
       rw[hpre]at hy;rcases Afz.1 hy with hy|hy
       ·have h':=h;unfold Stair at h';rw[hpre,AgR]at h';have:=h'.2.2 y hy x (Afr.2 rfl);omega
       ·rw[Afr.1 hy];omega
      refine key (out ++ [s]) ?_ (Same.refl _) (fun y hy=>?_)
      ·unfold Stair;rw[AgR];refine⟨h,AgW ..,fun y hy z hz=>?_⟩;rw[Afr.1 hz];have:=hlow y hy;omega
      ·rcases Afz.1 hy with hy|hy
       ·exact .inl hy
       ·exact .inr (Afr.1 hy)
     ·rw[if_neg hh];refine key out h (Same.of_sub (fun y hy=>cov_mem (AfQ _ hy)) (fun y hy=>?_)) (fun y hy=>.inl hy);rcases Afz.1 hy with hy|hy
      ·exact cov_mem hy
      ·rw[Afr.1 hy];exact⟨x,hxm,by omega,by omega⟩
theorem Cu.scan_stair {l m:List Ac} (ha:Asc l) (hp:l.Perm m):scan [] l=stair m:=by
 obtain⟨h1,h2⟩:=scan_ok l [] List.Pairwise.nil ha (fun x hx=>by cases hx);exact stair_eq h1 (h2.trans (Same.of_mem (fun x=>hp.mem_iff)))
def FJ (a b:Ac):List Ac:=[⟨a.w+b.w,max a.h b.h⟩,⟨max a.w b.w,a.h+b.h⟩]
def Fg (A B:List Ac):List Ac:=A.flatMap fun a=>B.flatMap fun b=>FJ a b
def AI (g:Int):Nat:=((Afm 4).find? (fun i=>decide (g=2 ^ i))).getD 0
def GQ (w:L.Sq Ab) (gr:Int) (i:Nat):List Ac:=([0,1].filter fun t=>Cz (w.g i).grain gr t).map fun t=>Bv (w.g i).ol t
def AO (g:Int) (k:Nat):Int:=Dv g (Al g k)
def E3 (T:Int->List Ac) (g:Int):Nat->List Ac
 |0=>[]
 |k+1=>E3 T g k++Fg (T (Al g k)) (T (AO g k))
def Bs (g:Int):Bool:=decide (D6 g (g-1)=0)
def Ir (w:L.Sq Ab) (gr:Int) (T:Int->List Ac) (g:Int):List Ac :=
 if g=0 then [⟨0,0⟩]else if Bs g=true then Cu.stair (GQ w gr (AI g))else Cu.stair (E3 T g (AD g))
def EQ (w:L.Sq Ab) (gr:Int):Nat->List (List Ac)
 |0=>[]
 |k+1=>EQ w gr k ++ [Ir w gr (fun g=>(EQ w gr k).getD g.toNat []) k]
def AW (w:L.Sq Ab) (gr:Int) (g:Int):List Ac:=(EQ w gr 16).getD g.toNat []
def AC (l:List Ac):L.Sq Ac:=⟨l.length,fun i=>l.getD i ⟨0,0⟩⟩
def Ae (w:L.Sq Ab) (gr:Int) (g:Int):L.Sq Ac:=AC (AW w gr g)
def Qe (n:Nat):Bool:=decide (n=0)||(if Bs n=true then decide ((n:Int)=2 ^ AI n)&&decide (AI n<4)else decide (0<AD n)&&(Afm (AD n)).all (fun k=>decide (0<Al n k)&&decide (Al n k<n)&&decide (0<AO n k)&&decide (AO n k<n)&&decide (Al n k+AO n k=n)))
theorem Yt:((Afm 16).all Qe)=true:=by kernel_rfl
theorem LA {g:Int} (h:1<=g) (h':g<=15) (h1:Bs g=true):g=2 ^ AI g/\AI g<4:=by
 obtain⟨n,rfl⟩:=Afw (show 0<=g by omega);have:=Afj.1 Yt n (Afl.2 (by omega));unfold Qe at this;rw[if_pos h1,AfE,decide_eq_true_eq,nT,decide_eq_true_eq,decide_eq_true_eq]at this;rcases this with h|h
 ·omega
 ·exact h
theorem FK {g:Int} (h:1<=g) (h':g<=15) (h1:Bs g=false):0<AD g/\∀k,k<AD g->0<Al g k/\Al g k<g/\0<AO g k/\AO g k<g/\Al g k+AO g k=g:=by
 obtain⟨n,rfl⟩:=Afw (show 0<=g by omega);have:=Afj.1 Yt n (Afl.2 (by omega));unfold Qe at this;rw[if_neg (by rw[h1];decide),AfE,decide_eq_true_eq,nT,decide_eq_true_eq,Afj]at this;rcases this with h|⟨h,hk⟩
 ·omega
 ·refine⟨h,fun k hkk=>?_⟩;have:=hk k (Afl.2 hkk);simp only[nT,decide_eq_true_eq]at this;exact⟨this.1.1.1.1,this.1.1.1.2,this.1.1.2,this.1.2,this.2⟩
theorem Yu {T T':Int->List Ac} {g:Int} (h:∀p,0<=p->p<g->T p=T' p) (hp:∀k,k<AD g->0<Al g k/\Al g k<g/\0<AO g k/\AO g k<g/\Al g k+AO g k=g):∀k,k<=AD g->E3 T g k=E3 T' g k
 |0,_=>rfl
 |k+1,hk=>by
   obtain⟨h1,h2,h3,h4,_⟩:=hp k (by omega);rw[E3,E3,Yu h hp k (by omega),h _ (by omega) h2,h _ (by omega) h4]
theorem zL {w:L.Sq Ab} {gr:Int} {T T':Int->List Ac} {g:Int} (h0:0<=g) (h15:g<=15) (h:∀p,0<=p->p<g->T p=T' p):Ir w gr T g=Ir w gr T' g:=by
 unfold Ir
 by_cases e:g=0
 ·rw[if_pos e,if_pos e]
 ·rw[if_neg e,if_neg e];cases h1:Bs g with
  |true=>rfl
  |false =>
    rw[if_neg (by decide),if_neg (by decide),Yu h (FK (by omega) h15 h1).2 _ (Afo _)]
theorem N1 (w:L.Sq Ab) (gr:Int):∀k,(EQ w gr k).length=k
 |0=>rfl
 |k+1=>by rw[EQ,AfK,N1 w gr k];rfl
theorem Qf (w:L.Sq Ab) (gr:Int):∀k m,m<=k->∀j,j<m->(EQ w gr k).getD j []=(EQ w gr m).getD j []
 |0,m,h,j,hj=>by omega
 |k+1,m,h,j,hj=>by
   by_cases e:m=k+1
   ·rw[e]
   ·rw[<- Qf w gr k m (by omega) j hj,EQ];simp only[AS];rw[Af2 (by rw[N1];omega)]
theorem Qg (w:L.Sq Ab) (gr:Int) {g:Int} (h0:0<=g) (h15:g<=15):AW w gr g=Ir w gr (AW w gr) g:=by
 obtain⟨n,rfl⟩:=Afw h0;have e1:AW w gr n=Ir w gr (fun g=>(EQ w gr n).getD g.toNat []) n:=by
  unfold AW;rw[Afy,Qf w gr 16 (n+1) (by omega) n (by omega),EQ];simp only[AS];rw[Af6 (by rw[N1];omega),N1,Nat.sub_self];rfl
 rw[e1];refine zL (by omega) h15 (fun p hp hpg=>?_);unfold AW;rw[Qf w gr 16 n (by omega) p.toNat (by omega)]
theorem Kn (w:L.Sq Ab) (gr:Int):AW w gr 0 = [⟨0,0⟩]:=by
 rw[Qg w gr (by decide) (by decide)];rfl
theorem Ko (w:L.Sq Ab) (gr:Int) {g:Int} (h:1<=g) (h15:g<=15) (h1:Bs g=true):AW w gr g=Cu.stair (GQ w gr (AI g)):=by
 rw[Qg w gr (by omega) h15];unfold Ir;rw[if_neg (by omega),if_pos h1]
theorem Ji (w:L.Sq Ab) (gr:Int) {g:Int} (h:1<=g) (h15:g<=15) (h1:Bs g=false):AW w gr g=Cu.stair (E3 (AW w gr) g (AD g)):=by
 rw[Qg w gr (by omega) h15];unfold Ir;rw[if_neg (by omega),if_neg (by rw[h1];decide)]
theorem zM (l:List Ac) (s:Ac):(Cu.ins l s).length<=l.length+1:=by
 unfold Cu.ins;split
 ·omega
 ·rw[AfK,AfZ];have h:∀l:List Ac,(l.filter (fun x=>decide (x.w<s.w))).length+(l.filter (fun x=>decide (s.w<x.w) && !Cu.leB s x)).length<=l.length:=fun l=>by
   induction l with
   |nil=>simp
   |cons a l ih =>
     by_cases h1:a.w<s.w
     ·rw[List.filter_cons_of_pos (by simpa using h1),List.filter_cons_of_neg (by simp;omega),AfZ,AfZ];omega
     ·rw[List.filter_cons_of_neg (by simpa using h1),AfZ];have:=Agv (fun x=>decide (s.w<x.w) && !Cu.leB s x) [a];rw[show a::l = [a]++l from rfl,List.filter_append,AfK];simp at this;omega
  have:=h l;omega
theorem Qh (l:List Ac):(Cu.stair l).length<=l.length:=by
 have h:∀(l a:List Ac),(l.foldl Cu.ins a).length<=a.length+l.length:=fun l=>by
  induction l with
  |nil=>intro a;simp
  |cons s l ih=>intro a;rw[List.foldl_cons,AfZ];have:=ih (Cu.ins a s);have:=zM a s;omega
 have:=h l [];simpa[Cu.stair]using this
theorem zN {l:List Ac} {s x:Ac} (h:x∈Cu.ins l s):x∈l\/x=s:=by
 unfold Cu.ins at h;split at h
 ·exact .inl h
 ·rcases Afz.1 h with h|h
  ·exact .inl (Afh.1 h).1
  ·rcases Afk.1 h with h|h
   ·exact .inr h
   ·exact .inl (Afh.1 h).1
theorem Qi {l:List Ac} {x:Ac} (h:x∈Cu.stair l):x∈l:=by
 have k:∀(l a:List Ac),x∈l.foldl Cu.ins a->x∈a\/x∈l:=fun l=>by
  induction l with
  |nil=>intro a h;exact .inl h
  |cons s l ih =>
    intro a h;rcases ih _ h with h|h
    ·rcases zN h with h|h
     ·exact .inl h
     ·exact .inr (h ▸ Afs ..)
    ·exact .inr (Afn _ h)
 rcases k l [] h with h|h
 ·cases h
 ·exact h
theorem Yv (A B:List Ac):(Fg A B).length=2*(A.length*B.length):=by
 have h:∀a:Ac,(B.flatMap fun b=>FJ a b).length=2*B.length:=fun a=>by
  induction B with
  |nil=>rfl
  |cons b B ih=>rw[List.flatMap_cons,AfK,ih,AfZ];show 2+_=_;omega
 unfold Fg
 induction A with
 |nil=>simp
 |cons a A ih=>rw[List.flatMap_cons,AfK,h,ih,AfZ,Nat.add_mul];omega
def Yw:Nat->List Nat
 |0=>[]
 |n+1=>let T:=Yw n;T ++ [if n=0 then 1 else if Bs n=true then 2 else((Afm (AD n)).map fun k=>2*(T.getD (Al n k).toNat 0*T.getD (AO n k).toNat 0)).sum]
def cb (g:Int):Nat:=(Yw 16).getD g.toNat 0
def Jj (g:Int) (k:Nat):Nat:=((Afm k).map fun k=>2*(cb (Al g k)*cb (AO g k))).sum
def Yx (n:Nat):Bool:=decide (cb n<=2000)&&(decide (n=0)||(if Bs n=true then decide (cb n=2)else decide (cb n=Jj n (AD n))))
theorem zO:((Afm 16).all Yx)=true:=by kernel_rfl
theorem LB {g:Int} (h:0<=g) (h':g<=15):cb g<=2000/\(1<=g->Bs g=true->cb g=2)/\(1<=g->Bs g=false->cb g=Jj g (AD g)):=by
 obtain⟨n,rfl⟩:=Afw h;have:=Afj.1 zO n (Afl.2 (by omega));unfold Yx at this;rw[nT,decide_eq_true_eq,AfE,decide_eq_true_eq]at this;obtain⟨h1,h2⟩:=this;refine⟨h1,fun h3 h4=>?_,fun h3 h4=>?_⟩
 ·rcases h2 with h2|h2
  ·omega
  ·rw[if_pos h4,decide_eq_true_eq]at h2;exact h2
 ·rcases h2 with h2|h2
  ·omega
  ·rw[if_neg (by rw[h4];decide),decide_eq_true_eq]at h2;exact h2
theorem zP (f:Nat->Nat) (k:Nat):((Afm (k+1)).map f).sum=((Afm k).map f).sum+f k:=by
 rw[Ag8,Ag4,List.sum_append];simp
theorem Qj (g:Int) (k:Nat):Jj g (k+1)=Jj g k+2*(cb (Al g k)*cb (AO g k)):=zP _ _
theorem Yy (g:Int):∀{k m},k<=m->Jj g k<=Jj g m:=fun {k m} h=>by
 induction m with
 |zero=>rw[show k=0 by omega];exact Afo _
 |succ m ih =>
   by_cases e:k=m+1
   ·rw[e];exact Afo _
   ·rw[Qj];have:=ih (by omega);omega
structure N3 (T:Int->List Ac) (g:Int):Prop where
 len:(T g).length<=cb g
 bd:∀s,s∈T g->0<=s.w/\s.w<=4096*g/\0<=s.h/\s.h<=4096*g
theorem zQ {A B:List Ac} {p q g:Int} (hA:∀s,s∈A->0<=s.w/\s.w<=4096*p/\0<=s.h/\s.h<=4096*p) (hB:∀s,s∈B->0<=s.w/\s.w<=4096*q/\0<=s.h/\s.h<=4096*q) (e:p+q=g):∀s,s∈Fg A B->0<=s.w/\s.w<=4096*g/\0<=s.h/\s.h<=4096*g:=fun s hs=>by
 unfold Fg at hs;obtain⟨a,ha,hs⟩:=AfO.1 hs;obtain⟨b,hb,hs⟩:=AfO.1 hs;have h1:=hA a ha;have h2:=hB b hb;unfold FJ at hs;rcases Afk.1 hs with rfl|hs
 ·simp only;omega
 ·rcases Afk.1 hs with rfl|hs
  ·simp only;omega
  ·cases hs
theorem Qk (l:L.Sq L.Pt) (t:Int):0<=(Bv l t).w/\(Bv l t).w<=4096/\0<=(Bv l t).h/\(Bv l t).h<=4096:=by
 have hb:=PQ l;have hle:(BL l).x<=(BM l).x/\(BL l).y<=(BM l).y:=by
  unfold BL BM;cases hv:AP l with
  |false=>exact⟨Af4 _,Af4 _⟩
  |true =>
    obtain⟨n3,_,_,_⟩:=Gy hv;simp only[cond_true];have h1:=Kk (l:=l) l.n 0 (by omega);have h2:=Kl (l:=l) l.n 0 (by omega);omega
 unfold Bv;cases decide (t=1)<;>simp only[cond_true,cond_false]<;>omega
theorem Ql {T:Int->List Ac} {g:Int} (hT:∀p,0<=p->p<g->N3 T p) (hp:∀k,k<AD g->0<Al g k/\Al g k<g/\0<AO g k/\AO g k<g/\Al g k+AO g k=g):∀k,k<=AD g->(E3 T g k).length<=Jj g k/\∀s,s∈E3 T g k->0<=s.w/\s.w<=4096*g/\0<=s.h/\s.h<=4096*g
 |0,_=>⟨Afg _,fun s hs=>by cases hs⟩
 |k+1,hk=>by
   obtain⟨h1,h2⟩:=Ql hT hp k (by omega);obtain⟨p1,p2,p3,p4,p5⟩:=hp k (by omega);have hA:=hT _ (Af8 p1) p2;have hB:=hT _ (Af8 p3) p4;rw[E3];refine⟨?_,fun s hs=>?_⟩
   ·rw[AfK,Yv,Qj];have:=Nat.mul_le_mul hA.len hB.len;omega
   ·rcases Afz.1 hs with hs|hs
    ·exact h2 s hs
    ·exact zQ hA.bd hB.bd p5 s hs
theorem Yz (w:L.Sq Ab) (gr:Int) (i:Nat):(GQ w gr i).length<=2:=by
 unfold GQ;rw[AfT];exact Agv _ _
theorem zR (w:L.Sq Ab) (gr:Int):∀(n:Nat),n<=15->N3 (AW w gr) n:=by
 intro n
 induction n using Nat.strongRecOn with
 |_ n ih =>
   intro hn
   by_cases h0:n=0
   ·subst h0;refine⟨by rw[show((0:Nat):Int)=0 from rfl,Kn];decide,fun s hs=>?_⟩;rw[show((0:Nat):Int)=0 from rfl,Kn]at hs;rw[Afr.1 hs];decide
   have hc:=LB (g:=n) (by omega) (by omega);cases h1:Bs n with
   |true =>
     have e:=Ko w gr (g:=n) (by omega) (by omega) h1;refine⟨?_,fun s hs=>?_⟩
     ·rw[e,hc.2.1 (by omega) h1];exact AfI (Qh _) (Yz _ _ _)
     ·rw[e]at hs;have hs:=Qi hs;unfold GQ at hs;obtain⟨t,_,rfl⟩:=List.mem_map.1 hs;have:=Qk (w.g (AI n)).ol t;omega
   |false =>
     have e:=Ji w gr (g:=n) (by omega) (by omega) h1;obtain⟨h2,h3⟩:=Ql (T:=AW w gr) (g:=n) (fun p hp hpn=>by
      obtain⟨m,rfl⟩:=Afw hp;exact ih m (by omega) (by omega)) (FK (by omega) (by omega) h1).2 _ (Afo _)
     refine⟨?_,fun s hs=>?_⟩
     ·rw[e,hc.2.2 (by omega) h1];exact AfI (Qh _) h2
     ·rw[e]at hs;exact h3 s (Qi hs)
theorem Jk (w:L.Sq Ab) (gr:Int) {g:Int} (h:0<=g) (h':g<=15):N3 (AW w gr) g:=by
 obtain⟨n,rfl⟩:=Afw h;exact zR w gr n (by omega)
theorem zS {n:Nat} {f u:Nat->Ac} (h:Dw D8 n f u):Dd u n=Cu.stair ((Afm n).map f):=by
 have e:∀k,Dd u k=Cu.scan [] ((Afm k).map u):=fun k=>by
  have step:∀(l:List Ac) (x:Ac) (out:List Ac),Cu.scan out (l ++ [x])=(match (Cu.scan out l).getLast? with|none=>Cu.scan out l ++ [x]|some y=>if x.h<y.h then Cu.scan out l ++ [x]else Cu.scan out l):=fun l x=>by
   induction l with
   |nil=>intro out;simp only[List.nil_append,Cu.scan]
   |cons a l ih=>intro out;simp only[List.cons_append,Cu.scan];exact ih _
  induction k with
  |zero=>rfl
  |succ k ih=>rw[Dd,Ag8,Ag4,List.map_singleton,step,<- ih];all_goals (cases(Dd u k).getLast?<;>rfl)
 rw[e];refine Cu.scan_stair ?_ h.perm;unfold Cu.Asc;rw[Agt];intro i j hi hj hij;simp only[AfT,List.length_range]at hi hj;have:=h.asc i j hij hj;simp only[List.getElem_map,List.getElem_range];rw[Yi]at this;omega
theorem zT (l:List Ac):Cu.stair (Cu.stair l)=Cu.stair l:=Cu.stair_congr (Cu.stair_ok l).2
theorem zU (l m:List Ac):Cu.stair (Cu.stair l++m)=Cu.stair (l++m):=Cu.stair_congr ((Cu.stair_ok l).2.append (Cu.Same.refl m))
theorem zV (l:List Ac):(Afm l.length).map (AC l).g=l:=by
 apply List.ext_getElem
 ·simp
 ·intro i h1 h2;simp[AC,AS,h2]
section
attribute [local irreducible] EQ AW
def E4 (w:L.Sq Ab) (gr:Int) (i t:Nat):List Ac:=(([0,1]:List Int).take t |>.filter fun t=>Cz (w.g i).grain gr t).map fun t=>Bv (w.g i).ol t
def ER (w:L.Sq Ab) (gr g:Int) (k:Nat):List Ac:=Cu.stair (E3 (AW w gr) g k)
def DY (w:L.Sq Ab) (gr g:Int) (k i:Nat):List Ac:=ER w gr g k++Fg ((AW w gr (Al g k)).take i) (AW w gr (AO g k))
def Fh (w:L.Sq Ab) (gr g:Int) (k i j:Nat):List Ac:=DY w gr g k i++((AW w gr (AO g k)).take j).flatMap fun b=>FJ ((Ae w gr (Al g k)).g i) b
def Jl (w:L.Sq Ab) (gr g:Int) (X:List Ac):Prop:=Cu.stair X=AW w gr g/\X.length<=1000000
def B7 (w:L.Sq Ab):Prop:=w.n<=4/\∀i,i<w.n->(w.g i).ol.n<=1000000
theorem iK {n:Int} (h : -9223372036854775808<=n:=by omega) (k:n<=9223372036854775807:=by omega):Ad .i64 n:=⟨h,k⟩
def Y0 (n:Nat):Bool:=Bs n||(Afm (AD n)).all (fun k=>(Afm (AD n)).all fun k'=>decide (k=k') || !decide (Al n k=Al n k'))
theorem zW:((Afm 16).all Y0)=true:=by kernel_rfl
theorem N4 {g:Int} (h:1<=g) (h':g<=15) (h1:Bs g=false) {k k':Nat} (hk:k<AD g) (hk':k'<AD g) (e:Al g k=Al g k'):k=k':=by
 obtain⟨n,rfl⟩:=Afw (show 0<=g by omega);have:=Afj.1 zW n (Afl.2 (by omega));unfold Y0 at this;rw[h1,Bool.false_or,Afj]at this;have:=Afj.1 (this k (Afl.2 hk)) k' (Afl.2 hk');rw[AfE,decide_eq_true_eq]at this;rcases this with h|h
 ·exact h
 ·rw[e]at h;simp at h
theorem Y1 {n:Nat} (h:n<=4):Az n=2 ^ n-1:=by
 have:n=0\/n=1\/n=2\/n=3\/n=4:=by omega
 rcases this with rfl|rfl|rfl|rfl|rfl<;>decide
theorem N5 {n:Nat} (h:n<=4):Az n<=15:=(G0 h).2.1
theorem Y2 {n:Nat} (h:n<=4) {g:Int} (h1:1<=g) (hg:g<=Az n) (ho:Bs g=true):AI g<n:=by
 obtain⟨e,hl⟩:=LA h1 (Ag0 hg (N5 h)) ho;rw[e,Y1 h]at hg;generalize AI g=i at *;have h2:n=0\/n=1\/n=2\/n=3\/n=4:=by omega
 have h3:i=0\/i=1\/i=2\/i=3:=by omega
 rcases h2 with rfl|rfl|rfl|rfl|rfl<;>rcases h3 with rfl|rfl|rfl|rfl<;>simp at hg ⊢
theorem N6 {i k:Nat} (hi:i<4) (hk:k<=i):(1<Fo (2 ^ i) k)↔k<i:=by
 have h3:i=0\/i=1\/i=2\/i=3:=by omega
 have h4:k=0\/k=1\/k=2\/k=3:=by omega
 rcases h3 with rfl|rfl|rfl|rfl<;>rcases h4 with rfl|rfl|rfl|rfl<;>first|(exfalso;omega)|decide
def E5 (s:Ac):List SV:=[.int .i64 s.w,.int .i64 s.h]
theorem N7 {X Y:List Ac} (h:X=Y):(AC X).n=(AC Y).n/\∀i,i<(AC X).n->E5 ((AC X).g i)=E5 ((AC Y).g i):=by rw[h];exact⟨rfl,fun _ _=>rfl⟩
theorem LC {X Y Z:List Ac} (h:Y=X++Z) {r:Nat->List SV} (hr:∀i,i<Z.length->r i=E5 (Z.getD i ⟨0,0⟩)):(AC X).n+Z.length=(AC Y).n/\∀i,i<(AC X).n+Z.length->AU (AC X).n (fun j=>E5 ((AC X).g j)) r i=E5 ((AC Y).g i):=by
 subst h;refine⟨by simp[AC],fun i hi=>?_⟩;unfold AU
 by_cases e:i<(AC X).n
 ·rw[if_pos e];have e':i<X.length:=e;simp[AC,AS,Af2 e']
 ·rw[if_neg e];have e':¬ i<X.length:=e;have hi:i<X.length+Z.length:=hi;rw[show(AC X).n=X.length from rfl,hr (i-X.length) (by omega)];simp[AC,AS,Af6 (show X.length<=i by omega)]
theorem Y3 {X:List Ac} {u:Nat->Ac} (h:Dw D8 (AC X).n (AC X).g u) {Y:List Ac} (hY:Cu.stair X=Y):Bb u (AC X).n=(AC Y).n/\∀i,i<Bb u (AC X).n->E5 (BN u (AC X).n i)=E5 ((AC Y).g i):=by
 have e:Dd u (AC X).n=Y:=by rw[zS h,show(AC X).n=X.length from rfl,zV,hY]
 unfold Bb BN AC at *;simp only at e ⊢;rw[e];exact⟨rfl,fun _ _=>rfl⟩
theorem zX (w:L.Sq Ab) (gr g:Int) (k i:Nat) {j:Nat} (hj:j<(Ae w gr (AO g k)).n):Fh w gr g k i (j+1)=Fh w gr g k i j++FJ ((Ae w gr (Al g k)).g i) ((Ae w gr (AO g k)).g j):=by
 have hj:j<(AW w gr (AO g k)).length:=hj;unfold Fh;rw[AgN,oE hj,Ag2,<- AfS];simp[Ae,AC,AS,hj]
theorem zY (w:L.Sq Ab) (gr g:Int) (k:Nat) {i:Nat} (hi:i<(Ae w gr (Al g k)).n):Fh w gr g k i (Ae w gr (AO g k)).n=DY w gr g k (i+1):=by
 have hi:i<(AW w gr (Al g k)).length:=hi;unfold Fh DY;rw[show(Ae w gr (AO g k)).n=(AW w gr (AO g k)).length from rfl,AgX,AgN,oE hi];unfold Fg;rw[Ag2,<- AfS];simp[Ae,AC,AS,hi]
theorem zZ (w:L.Sq Ab) (gr g:Int) (k:Nat):DY w gr g k 0=ER w gr g k:=by unfold DY Fg;simp
theorem Aaa (w:L.Sq Ab) (gr g:Int) (k i:Nat):Fh w gr g k i 0=DY w gr g k i:=by unfold Fh;simp
theorem Aab (w:L.Sq Ab) (gr g:Int) (k:Nat):Cu.stair (DY w gr g k (Ae w gr (Al g k)).n)=ER w gr g (k+1):=by
 unfold DY ER;rw[show(Ae w gr (Al g k)).n=(AW w gr (Al g k)).length from rfl,AgX,zU];rfl
theorem Y4 (w:L.Sq Ab) (gr:Int) (i:Nat) {t:Nat} (ht:t<2):E4 w gr i (t+1)=E4 w gr i t++(if Cz (w.g i).grain gr t=true then [Bv (w.g i).ol t]else []):=by
 unfold E4;have h:t=0\/t=1:=by omega
 rcases h with rfl|rfl
 ·simp only[List.take,List.filter_nil,List.map_nil,List.nil_append];show Ago _ (AgS _ [0])=_;cases h:Cz (w.g i).grain gr 0<;>simp[AgS,h]
 ·show Ago _ (AgS _ [0,1])=Ago _ (AgS _ [0])++_;cases h:Cz (w.g i).grain gr 0<;>cases h2:Cz (w.g i).grain gr 1<;>simp[AgS,h,h2]
theorem Y5 (w:L.Sq Ab) (gr:Int) {g:Int} (h:1<=g) (h':g<=15) (h1:Bs g=false) {k i j:Nat} (hk:k<AD g):(Fh w gr g k i j).length<=10000/\(DY w gr g k i).length<=10000/\(ER w gr g k).length<=2000:=by
 obtain⟨hp0,hp⟩:=FK h h' h1;obtain⟨p1,p2,p3,p4,p5⟩:=hp k hk;have hc:=LB (g:=g) (by omega) h';have hT:∀p,0<=p->p<g->N3 (AW w gr) p:=fun p hp hpg=>Jk w gr hp (by omega);have e1:(ER w gr g k).length<=2000:=by
  have h2:=(Ql hT hp k (by omega)).1;have h3:=Qh (E3 (AW w gr) g k);have h4:=Yy g (show k<=AD g by omega);have h5:=hc.2.2 h h1;unfold ER;omega
 have hpk:2*(cb (Al g k)*cb (AO g k))<=2000:=by
  have h4:=Yy g (show k+1<=AD g by omega);rw[Qj]at h4;have h5:=hc.2.2 h h1;omega
 have hA:=(hT _ (Af8 p1) p2).len;have hB:=(hT _ (Af8 p3) p4).len;have hc2:=(LB (g:=AO g k) (by omega) (by omega)).1;have e2:(DY w gr g k i).length<=4000:=by
  unfold DY;rw[AfK,Yv];have:(List.take i (AW w gr (Al g k))).length<=cb (Al g k):=by rw[AgU];omega
  have:=Nat.mul_le_mul this hB;omega
 refine⟨?_,by omega,e1⟩;unfold Fh;rw[AfK];have hfm:∀(a:Ac) (B:List Ac),(B.flatMap fun b=>FJ a b).length=2*B.length:=fun a B=>by
  induction B with
  |nil=>rfl
  |cons b B ih=>rw[List.flatMap_cons,AfK,ih,AfZ];show 2+_=_;omega
 rw[hfm,AgU];omega
theorem Hv (w:L.Sq Ab) (gr:Int) {g:Int} (h:0<=g) (h':g<=15):(AW w gr g).length<=2000:=AfI (Jk w gr h h').len (LB h h').1
theorem Is {w:L.Sq Ab} {gr g:Int} {i:Nat} (h:i<(Ae w gr g).n):(Ae w gr g).g i∈AW w gr g:=by
 have h:i<(AW w gr g).length:=h;show(AW w gr g).getD i ⟨0,0⟩∈_;rw[AS,oE h];exact List.getElem_mem h
theorem Aac (w:L.Sq Ab) (gr:Int) {g:Int} (h:1<=g) (h15:g<=15) (h1:Bs g=false):Jl w gr g (ER w gr g (AD g)):=by
 have e:ER w gr g (AD g)=AW w gr g:=(Ji w gr h h15 h1).symm;refine⟨?_,?_⟩
 ·rw[e,Ji w gr h h15 h1,zT]
 ·rw[e];have:=(Jk w gr (by omega) h15 (g:=g)).len;have:=(LB (g:=g) (by omega) h15).1;omega
section
attribute [local irreducible] AD Al Az
abbrev HL:Mk:={ T:=(L.Sq Ab)×(Int)×(Int->Bool)×(Int),U:=Int->Bool,args:=fun t=>(fun w gr dom g=>[.loc 1000 0,.p (.int .i64 g)]) t.1 t.2.1 t.2.2.1 t.2.2.2,lkeys:=[1000,1001],keys:=[],lent:=fun t=>(fun w gr dom g=>[(1000,.blk 130 [.p ((.sl 4 w.n (fun i=>[.int .i64 ((w.g i).id),.int .i64 ((w.g i).colour),.int .i64 ((w.g i).grain),.sl 2 (w.g i).ol.n (fun i1=>[.int .i64 (((w.g i).ol.g i1).x),.int .i64 (((w.g i).ol.g i1).y)])]))),.p (.int .i64 gr),.mapv 1001]),(1001,.mq 3 27 dom (Ai (Ae w gr)))]) t.1 t.2.1 t.2.2.1 t.2.2.2,pre:=fun t=>(fun w gr dom g=>B7 w/\0<=g/\g<=Az w.n) t.1 t.2.1 t.2.2.1 t.2.2.2,post:=fun t u=>(fun w gr dom g=>fun u=>True) t.1 t.2.1 t.2.2.1 t.2.2.2 u,lent':=fun t u=>(fun w gr dom g=>fun u=>[(1000,.blk 130 [.p ((.sl 4 w.n (fun i=>[.int .i64 ((w.g i).id),.int .i64 ((w.g i).colour),.int .i64 ((w.g i).grain),.sl 2 (w.g i).ol.n (fun i1=>[.int .i64 (((w.g i).ol.g i1).x),.int .i64 (((w.g i).ol.g i1).y)])]))),.p (.int .i64 gr),.mapv 1001]),(1001,.mq 3 27 u (Ai (Ae w gr)))]) t.1 t.2.1 t.2.2.1 t.2.2.2 u,own:=fun t u=>(fun w gr dom g=>fun u=>[]) t.1 t.2.1 t.2.2.1 t.2.2.2 u,res:=fun t u=>(fun w gr dom g=>fun u=>.p (Ai (Ae w gr) g)) t.1 t.2.1 t.2.2.1 t.2.2.2 u }
abbrev Y6:HL.T->Nat:=fun t=>(fun w gr dom g=>g.toNat) t.1 t.2.1 t.2.2.1 t.2.2.2
theorem Aad (rn:Nat) (w:L.Sq Ab) (gr:Int) (dom:Int->Bool) (g:Int) (hp:HL.pre (w,gr,dom,g)) (hmu:g.toNat<rn+1):vc Tryz.prog ({ muts:=[2,80],frz:=B2 [],specs:=AB [(75,Qa),(73,PW),(74,Ny)],loops:=AV [(21,{ T:=Nat,keep:=[2,3,7],keepO:=[2,7,80,1000,1001],chg:=fun i=>[(8,.p (.int .i64 (i:Int)))],own:=fun _=>[],inv:=fun i=>i<=AI g,mu:=fun i=>AI g-i }),(24,{ T:=Nat,keep:=[2,3,7,8],keepO:=[2,1000,1001],chg:=fun i=>[(93,.p (.int .i64 (i:Int)))],own:=fun t=>[(7,.blk 27 [.row 80]),(80,.row 74 2 (AC (E4 w gr (AI g) t)).n (fun j=>[.int .i64 ((AC (E4 w gr (AI g) t)).g j).w,.int .i64 ((AC (E4 w gr (AI g) t)).g j).h]))],inv:=fun i=>i<=2,mu:=fun i=>2-i }),(8,{ T:=Nat×(Int->Bool)×Nat,keep:=[2,3,7,10,31,32],keepO:=[2,1000],chg:=fun t=>[(33,.p (.int .i64 (t.1:Int)))],own:=fun t=>[(7,.blk 27 [.row 80]),(80,.row 74 2 (AC (DY w gr g t.2.2 t.1)).n (fun j=>[.int .i64 ((AC (DY w gr g t.2.2 t.1)).g j).w,.int .i64 ((AC (DY w gr g t.2.2 t.1)).g j).h])),(1001,.mq 3 27 t.2.1 (Ai (Ae w gr)))],inv:=fun t=>t.1<=(Ae w gr (Al g t.2.2)).n/\t.2.2<AD g,mu:=fun t=>(Ae w gr (Al g t.2.2)).n-t.1,tie:=fun t=>[(10,.int .i64 (Al g t.2.2))] }),(11,{ T:=Nat×Nat×Nat,keep:=[2,3,7,10,12,31,32,33,41,42],keepO:=[2,12,1000,1001],chg:=fun t=>[(43,.p (.int .i64 (t.1:Int)))],own:=fun t=>[(7,.blk 27 [.row 80]),(80,.row 74 2 (AC (Fh w gr g t.2.1 t.2.2 t.1)).n (fun j=>[.int .i64 ((AC (Fh w gr g t.2.1 t.2.2 t.1)).g j).w,.int .i64 ((AC (Fh w gr g t.2.1 t.2.2 t.1)).g j).h]))],inv:=fun t=>t.1<=(Ae w gr (AO g t.2.1)).n/\t.2.1<AD g,mu:=fun t=>(Ae w gr (AO g t.2.1)).n-t.1,tie:=fun t=>[(10,.int .i64 (Al g t.2.1)),(33,.int .i64 (t.2.2:Int))] })],iters:=Bw [(119,PZ)],rfs:=AT [(6,{ T:=Int->Bool,keep:=[2,3,7],keepO:=[1000,2],own:=fun k d=>[(7,.blk 27 [.row 80]),(80,.row 74 2 (AC (ER w gr g k)).n (fun j=>[.int .i64 ((AC (ER w gr g k)).g j).w,.int .i64 ((AC (ER w gr g k)).g j).h])),(1001,.mq 3 27 d (Ai (Ae w gr)))],inv:=fun k _=>k<=AD g })],nils:=B3 [(5,[(7,80,74,2)]),(20,[(7,80,74,2)])],mks:=El [(76,Km),(36,Mk.lt HL Y6 rn)],ren:=fun k=>if k=1010 then 131 else if k=32 then 80 else k,joins:=AV [(29,{ T:=(Int->Bool)×List Ac,keep:=[2,3,7],keepO:=[2,1000],chg:=fun _=>[],own:=fun t=>[(7,.blk 27 [.row 80]),(80,.row 74 2 (AC (t.2)).n (fun j=>[.int .i64 ((AC (t.2)).g j).w,.int .i64 ((AC (t.2)).g j).h])),(1001,.mq 3 27 t.1 (Ai (Ae w gr)))],inv:=fun t=>Jl w gr g t.2,mu:=fun _=>0 }),(30,{ T:=Int->Bool,keep:=[2,3],keepO:=[2,1000],chg:=fun _=>[],own:=fun t=>[(1001,.mq 3 27 t (Ai (Ae w gr)))],inv:=fun t=>t g=true,mu:=fun _=>0 })],anys:=[1,27,29,30],rek:=KJ [(16,[(80,131)]),(29,[(80,131)])] }) (Ah Tryz.f36) (D7 Tryz.f36 (HL.args (w,gr,dom,g)) (HL.lent (w,gr,dom,g))) (Fx Tryz.prog Tryz.f36 HL (w,gr,dom,g)):=
 @Eq.mpr _ (let I:=SV.int .i64;let T:=Af1;let A68:=(0:Nat);let A63:=(nat_lit 3);let A62:=(nat_lit 7);let A48:=(nat_lit 2);let A46:=(AC (ER w gr g A68));let A42:=(140737488355328:Nat);let A41:=(1000000:Nat);let A32:=(AI g);let A29:=(AC (ER w gr g (AD g)));let A26:=(∀(x:Int),dom x=dom x);let A25:=(0:Int);let A24:=(1
:Int);let A21:=(2:Nat);let A13:=(nat_lit 0);let A12:=(Ae w gr);let A10:=(Ae w gr g);let A16:=(A10.n=A10.n/\∀(i:Nat),let A76:=[I (A10.g i).w,I (A10.g i).h];i<A10.n->A76=A76);let A7:=(∀(x:Int),dom x=true->Ai A12 x=Ai A12 x);let A2:=(w.n=w.n/\∀(i:Nat),let A20:=[I (w.g i).id,I (w.g i).colour,I (w.g i).grain,SV.sl
 A21 (w.g i).ol.n fun(i1:Nat)=>[I ((w.g i).ol.g i1).x,I ((w.g i).ol.g i1).y]];i<w.n->A20=A20);let A1:=((decide (g=A25)=true->∃(g_1:(Int->Bool)×List Ac),let A80:=(AC g_1.2);nat_lit 0=nat_lit 0/\SV.ref [I g] A13=SV.ref [I g] A13/\nat_lit 0=nat_lit 0/\(nat_lit 1=A80.n/\∀(i:Nat),i<nat_lit 1->BX [I A25,I A25]
 A48 i = [I (A80.g i).w,I (A80.g i).h])/\(∀(x:Int),dom x=g_1.1 x)/\A7/\nat_lit 0=nat_lit 0/\A2/\gr=gr/\Jl w gr g g_1.2)/\(decide (g=A25)=false->Ad .i64 (g-A24)/\(decide (D6 g (g-A24)=A25)=true->(∃(g_1:Nat),A25=(↑g_1:Int)/\g_1<=AI g)/\∀(g_1:Nat),let A18:=(↑g_1:Int);let A71:=(A25 <=
 A18/\A18<(↑w.n:Int));let A9:=(w.g (T A18));let A22:=((∀(i:Nat),let A69:=[I (A9.ol.g i).x,I (A9.ol.g i).y];i<A9.ol.n->A69=A69)/\A9.ol.n<=A41);g_1<=AI g->A25<=A18/\(decide (A24<Fo g A18)=true->Ad .i64 (A18+A24)/\∃(g':Nat),A18+A24=(↑g':Int)/\nat_lit 0=nat_lit 0/\SV.ref [I g] A13=SV.ref [I
 g] A13/\nat_lit 0=nat_lit 0/\(nat_lit 0=nat_lit 0/\∀(i:Nat),i<nat_lit 0->([]:List SV)= [])/\nat_lit 0=nat_lit 0/\A2/\gr=gr/\A26/\A7/\g'<=AI g/\AI g-g'<AI g-g_1)/\(decide (A24<Fo g A18)=false->(∃(g_2:Nat),let A50:=(AC (E4 w gr A32 g_2));A25=(↑g_2:Int)/\(nat_lit 0=A50.n/\∀(i:Nat),i<nat_lit 0
 -> []= [I (A50.g i).w,I (A50.g i).h])/\g_2<=A21)/\∀(g_2:Nat),let A19:=(↑g_2:Int);let A79:=(A19+A24);let A6:=(AC (E4 w gr A32 g_2));let A70:=(A6.n+nat_lit 1);g_2<=A21->(decide (A19<(2:Int))=true->A71/\True/\(Cz A9.grain gr A19=true->A71/\(A22/\A70*nat_lit 16<=A42/\Ad .i64 A79/\∃(g':Nat),let A54 :=
 (AC (E4 w gr A32 g'));A19+A24=(↑g':Int)/\A18=A18/\nat_lit 0=nat_lit 0/\SV.ref [I g] A13=SV.ref [I g] A13/\nat_lit 0=nat_lit 0/\(A6.n+nat_lit 1=A54.n/\∀(i:Nat),let A51:=(Bv (L.Sq.mk A9.ol.n fun(i:Nat)=>A9.ol.g i) A19);i<A6.n+nat_lit 1->AU A6.n (fun(j:Nat)=>[I (A6.g j).w,I (A6.g j).h]) (fun(x:Nat)=>[I A51.w,I A51.h])
 i = [I (A54.g i).w,I (A54.g i).h])/\nat_lit 0=nat_lit 0/\A2/\gr=gr/\A26/\A7/\g'<=A21/\A21-g'<A21-g_2)/\A22/\(A70*nat_lit 16<=A42/\Ad .i64 A79/\∃(g':Nat),let A55:=(AC (E4 w gr A32 g'));A19+A24=(↑g':Int)/\A18=A18/\nat_lit 0=nat_lit 0/\SV.ref [I g] A13=SV.ref [I g] A13/\nat_lit 0=nat_lit 0/\(A6.n+nat_lit 1 =
 A55.n/\∀(i:Nat),let A52:=(Bv (L.Sq.mk A9.ol.n fun(i:Nat)=>A9.ol.g i) A19);i<A6.n+nat_lit 1->AU A6.n (fun(j:Nat)=>[I (A6.g j).w,I (A6.g j).h]) (fun(x:Nat)=>[I A52.w,I A52.h]) i = [I (A55.g i).w,I (A55.g i).h])/\nat_lit 0=nat_lit 0/\A2/\gr=gr/\A26/\A7/\g'<=A21/\A21-g'<A21-g_2)/\A70*nat_lit 16<=A42/\Ad .i64 A79/\∃(g' :
 Nat),let A56:=(AC (E4 w gr A32 g'));A19+A24=(↑g':Int)/\A18=A18/\nat_lit 0=nat_lit 0/\SV.ref [I g] A13=SV.ref [I g] A13/\nat_lit 0=nat_lit 0/\(A6.n+nat_lit 1=A56.n/\∀(i:Nat),let A53:=(Bv (L.Sq.mk A9.ol.n fun(i:Nat)=>A9.ol.g i) A19);i<A6.n+nat_lit 1->AU A6.n (fun(j:Nat)=>[I (A6.g j).w,I (A6.g j).h]) (fun(x:Nat)=>[I
 A53.w,I A53.h]) i = [I (A56.g i).w,I (A56.g i).h])/\nat_lit 0=nat_lit 0/\A2/\gr=gr/\A26/\A7/\g'<=A21/\A21-g'<A21-g_2)/\(Cz A9.grain gr A19=false->Ad .i64 A79/\∃(g':Nat),let A57:=(AC (E4 w gr A32 g'));A19+A24=(↑g':Int)/\A18=A18/\nat_lit 0=nat_lit 0/\SV.ref [I g] A13=SV.ref [I g] A13/\nat_lit 0=nat_lit 0 /\
 (A6.n=A57.n/\∀(i:Nat),i<A6.n -> [I (A6.g i).w,I (A6.g i).h]= [I (A57.g i).w,I (A57.g i).h])/\nat_lit 0=nat_lit 0/\A2/\gr=gr/\A26/\A7/\g'<=A21/\A21-g'<A21-g_2))/\(decide (A19<(2:Int))=false->∃(g_3:(Int->Bool)×List Ac),let A81:=(AC g_3.2);nat_lit 0=nat_lit 0/\SV.ref [I g] A13=SV.ref [I g] A13/\nat_lit 0=nat_lit
 0/\(A6.n=A81.n/\∀(i:Nat),i<A6.n -> [I (A6.g i).w,I (A6.g i).h]= [I (A81.g i).w,I (A81.g i).h])/\(∀(x:Int),dom x=g_3.1 x)/\A7/\nat_lit 0=nat_lit 0/\A2/\gr=gr/\Jl w gr g g_3.2)))/\(decide (D6 g (g-A24)=A25)=false->True/\((A25<=g/\g<=(15:Int))/\∃(t:Int->Bool),(nat_lit 0=A46.n/\∀(i:Nat),i<nat_lit 0 -> []= [I (A46.g
 i).w,I (A46.g i).h])/\(∀(x:Int),dom x=t x)/\A7/\nat_lit 0=nat_lit 0/\A2/\gr=gr/\A68<=AD g)/\(∀(k:Nat) (t:Int->Bool) (vk:Nat->Go.Value),let A39:=(AC (ER w gr g k));let A35:=(AC (ER w gr g (k+(1:Nat))));k<AD g->k<=AD g->∃(t_1:L.Sq Ab×Int×(Int->Bool)×Int),let A83:=(Ae t_1.1 t_1.2.1);let A5:=(Ae t_1.1
 t_1.2.1 t_1.snd.2.2);let A43:=(↑A5.n:Int);let A28:=(A5.n=A5.n/\∀(i:Nat),let A77:=[I (A5.g i).w,I (A5.g i).h];i<A5.n->A77=A77);nat_lit 0=A68/\Al g k=t_1.snd.2.2/\(w.n=t_1.1.n/\∀(i:Nat),let A58:=(t_1.1.g i);i<w.n -> [I (w.g i).id,I (w.g i).colour,I (w.g i).grain,SV.sl A21 (w.g i).ol.n fun(i1:Nat)=>[I ((w.g i).ol.g i1).x,I ((w.g i).ol.g
 i1).y]]= [I A58.id,I A58.colour,I A58.grain,SV.sl A21 A58.ol.n fun(i1:Nat)=>[I (A58.ol.g i1).x,I (A58.ol.g i1).y]])/\gr=t_1.2.1/\(∀(x:Int),t x=t_1.snd.2.1 x)/\(∀(x:Int),t x=true->Ai A12 x=Ai A83 x)/\((B7 t_1.1/\A25<=t_1.snd.2.2/\t_1.snd.2.2<=Az t_1.1.n)/\T t_1.snd.2.2<rn)/\∀(u:Int->Bool),True->(∃(g_1:Nat×(Int->Bool)×Nat),
 let A38:=(AC (DY w gr g g_1.2.2 g_1.1));A25=(↑g_1.1:Int)/\(A39.n=A38.n/\∀(i:Nat),i<A39.n -> [I (A39.g i).w,I (A39.g i).h]= [I (A38.g i).w,I (A38.g i).h])/\(∀(x:Int),u x=g_1.2.1 x)/\(∀(x:Int),u x=true->Ai A83 x=Ai A12 x)/\Al g k=Al g g_1.2.2/\g_1.1<=(Ae w gr (Al g g_1.2.2)).n/\g_1.2.2<AD g)/\∀(g_1:Nat×(Int ->
 Bool)×Nat),let A72:=(Ae w gr (Al g g_1.2.2));let A15:=(↑g_1.1:Int);let A27:=(A5.g (T A15));let A14:=(AC (DY w gr g g_1.2.2 g_1.1));Al g k=Al g g_1.2.2/\g_1.1<=A72.n/\g_1.2.2<AD g->(decide (A15<A43)=true->(A25<=A15/\A15<A43)/\∃(t_2:L.Sq Ab×Int×(Int->Bool)×Int),let A47:=(Ae t_2.1 t_2.2.1);let A8 :=
 (Ae t_2.1 t_2.2.1 t_2.snd.2.2);let A61:=(↑A8.n:Int);nat_lit 0=A68/\Dv g (Al g k)=t_2.snd.2.2/\(t_1.1.n=t_2.1.n/\∀(i:Nat),let A60:=(t_2.1.g i);let A59:=(t_1.1.g i);i<t_1.1.n -> [I A59.id,I A59.colour,I A59.grain,SV.sl A21 A59.ol.n fun(i1:Nat)=>[I (A59.ol.g i1).x,I (A59.ol.g i1).y]]= [I A60.id,I A60.colour,I A60.grain,SV.sl A21
 A60.ol.n fun(i1:Nat)=>[I (A60.ol.g i1).x,I (A60.ol.g i1).y]])/\t_1.2.1=t_2.2.1/\(∀(x:Int),g_1.2.1 x=t_2.snd.2.1 x)/\(∀(x:Int),g_1.2.1 x=true->Ai A12 x=Ai A47 x)/\((B7 t_2.1/\A25<=t_2.snd.2.2/\t_2.snd.2.2<=Az t_2.1.n)/\T t_2.snd.2.2<rn)/\∀(u_1:Int->Bool),True->(∃(g_2:Nat×Nat×Nat),let A33:=(AC (Fh w gr g g_2.2.1 g_2.2.2
 g_2.1));A25=(↑g_2.1:Int)/\(A14.n=A33.n/\∀(i:Nat),i<A14.n -> [I (A14.g i).w,I (A14.g i).h]= [I (A33.g i).w,I (A33.g i).h])/\Al g k=Al g g_2.2.1/\A15=(↑g_2.2.2:Int)/\g_2.1<=(Ae w gr (AO g g_2.2.1)).n/\g_2.2.1<AD g)/\∀(g_2:Nat×Nat×Nat),let A73:=(Ae w gr (AO g g_2.2.1));let A23:=(↑g_2.1:Int);let A49:=(A8.g (T A23));let A11
:=(AC (Fh w gr g g_2.2.1 g_2.2.2 g_2.1));Al g k=Al g g_2.2.1/\A15=(↑g_2.2.2:Int)/\g_2.1<=A73.n/\g_2.2.1<AD g->(decide (A23<A61)=true->(A25<=A23/\A23<A61)/\Ad .i64 (A27.w+A49.w)/\Ad .i64 (A27.h+A49.h)/\(A11.n+nat_lit 2)*nat_lit 16<=A42/\Ad .i64 (A23+A24)/\∃(g':Nat×Nat ×
 Nat),let A74:=(Ae w gr (AO g g'.2.1));let A34:=(AC (Fh w gr g g'.2.1 g'.2.2 g'.1));A23+A24=(↑g'.1:Int)/\A61=A61/\(A8.n=A8.n/\∀(i:Nat),let A78:=[I (A8.g i).w,I (A8.g i).h];i<A8.n->A78=A78)/\nat_lit 0=nat_lit 0/\A15=A15/\A43=A43/\A28/\Al g k=Al g k/\nat_lit 0=nat_lit 0/\SV.ref [I g] A13=SV.ref [I g] A13/\nat_lit 0
 = nat_lit 0/\vk A62=vk A62/\vk A63=vk A63/\vk A48=vk A48/\(A11.n+nat_lit 2=A34.n/\∀(i:Nat),i<A11.n+nat_lit 2->AU A11.n (fun(j:Nat)=>[I (A11.g j).w,I (A11.g j).h]) (BX [I (A27.w+A49.w),I (Max.max A27.h A49.h),I (Max.max A27.w A49.w),I (A27.h+A49.h)] A48) i = [I (A34.g i).w,I (A34.g i).h])/\A27.w=A27.w/\A27.h=A27.h/\(∀(x:Int),u_1 x
 = u_1 x)/\(∀(x:Int),u_1 x=true->Ai A47 x=Ai A47 x)/\nat_lit 0=nat_lit 0/\(t_2.1.n=t_2.1.n/\∀(i:Nat),let A64:=(t_2.1.g i);let A17:=[I A64.id,I A64.colour,I A64.grain,SV.sl A21 A64.ol.n fun(i1:Nat)=>[I (A64.ol.g i1).x,I (A64.ol.g i1).y]];i<t_2.1.n->A17=A17)/\t_2.2.1=t_2.2.1/\(Al g k=Al g g'.2.1/\A15=(↑g'.2.2:Int)/\g'.1 <=
 A74.n/\g'.2.1<AD g)/\A74.n-g'.1<A73.n-g_2.1)/\(decide (A23<A61)=false->Ad .i64 (A15+A24)/\∃(g':Nat×(Int->Bool)×Nat),let A75:=(Ae w gr (Al g g'.2.2));let A40:=(AC (DY w gr g g'.2.2 g'.1));A15+A24=(↑g'.1:Int)/\A43=A43/\A28/\Al g k=Al g k/\nat_lit 0=nat_lit 0/\SV.ref [I g] A13 =
 SV.ref [I g] A13/\nat_lit 0=nat_lit 0/\vk A62=vk A62/\vk A63=vk A63/\vk A48=vk A48/\(A11.n=A40.n/\∀(i:Nat),i<A11.n -> [I (A11.g i).w,I (A11.g i).h]= [I (A40.g i).w,I (A40.g i).h])/\(∀(x:Int),u_1 x=g'.2.1 x)/\(∀(x:Int),u_1 x=true->Ai A47 x=Ai A12 x)/\nat_lit 0=nat_lit 0/\(t_2.1.n=t_1.1.n/\∀(i:Nat),let A66:=(t_1.1.g i);let A65
:=(t_2.1.g i);i<t_2.1.n -> [I A65.id,I A65.colour,I A65.grain,SV.sl A21 A65.ol.n fun(i1:Nat)=>[I (A65.ol.g i1).x,I (A65.ol.g i1).y]]= [I A66.id,I A66.colour,I A66.grain,SV.sl A21 A66.ol.n fun(i1:Nat)=>[I (A66.ol.g i1).x,I (A66.ol.g i1).y]])/\t_2.2.1=t_1.2.1/\(Al g k=Al g g'.2.2/\g'.1<=A75.n/\g'.2.2<AD g)/\A75.n-g'.1<A72.n-g_1.1)) /\
 (decide (A15<A43)=false->∃(t:Nat×(Nat->Ac)),(A14.n=t.1/\∀(i:Nat),i<A14.n -> [I (A14.g i).w,I (A14.g i).h]= [I (t.2 i).w,I (t.2 i).h])/\t.1<=A41/\∀(u:Nat->Ac),Dw D8 t.1 t.2 u->∃(t':Int->Bool),nat_lit 0=nat_lit 0/\SV.ref [I g] A13=SV.ref [I g] A13/\nat_lit 0=nat_lit 0/\vk A62=vk A62/\vk A63=vk A63
 /\ vk A48=vk A48/\(Bb u t.1=A35.n/\∀(i:Nat),i<Bb u t.1 -> [I (BN u t.1 i).w,I (BN u t.1 i).h]= [I (A35.g i).w,I (A35.g i).h])/\(∀(x:Int),g_1.2.1 x=t' x)/\(∀(x:Int),g_1.2.1 x=true->Ai A12 x=Ai A12 x)/\nat_lit 0=nat_lit 0/\(t_1.1.n=w.n/\∀(i:Nat),let A67:=(t_1.1.g i);i<t_1.1.n -> [I A67.id,I A67.colour,I A67.grain,SV.sl
 A21 A67.ol.n fun(i1:Nat)=>[I (A67.ol.g i1).x,I (A67.ol.g i1).y]]= [I (w.g i).id,I (w.g i).colour,I (w.g i).grain,SV.sl A21 (w.g i).ol.n fun(i1:Nat)=>[I ((w.g i).ol.g i1).x,I ((w.g i).ol.g i1).y]])/\t_1.2.1=gr/\k+(1:Nat)<=AD g))/\∀(t:Int->Bool),AD g<=AD g->∃(g_1:(Int->Bool)×List Ac),let A82:=(AC g_1.2);nat_lit 0=nat_lit 0 /\
 SV.ref [I g] A13=SV.ref [I g] A13/\nat_lit 0=nat_lit 0/\(A29.n=A82.n/\∀(i:Nat),i<A29.n -> [I (A29.g i).w,I (A29.g i).h]= [I (A82.g i).w,I (A82.g i).h])/\(∀(x:Int),t x=g_1.1 x)/\(∀(x:Int),t x=true->Ai A12 x=Ai A12 x)/\nat_lit 0=nat_lit 0/\A2/\gr=gr/\Jl w gr g g_1.2)));(dom g=true->(true=true->∃(u:Int ->
 Bool),A16/\A2/\gr=gr/\(∀(x:Int),dom x=u x)/\A7/\True)/\(true=false->A1/\∀(g_1:(Int->Bool)×List Ac),let A36:=(AC g_1.2);let A30:=(∀(x:Int),(decide (x=g)||g_1.1 x)=true->Ai A12 x=Ai A12 x);let A3:=(∃(t:Nat×(Nat->Ac)),(A36.n=t.1/\∀(i:Nat),i<A36.n -> [I (A36.g i).w,I (A36.g i).h]= [I (t.2 i).w,
 I (t.2 i).h])/\t.1<=A41/\∀(u:Nat->Ac),Dw D8 t.1 t.2 u->(Bb u t.1=A10.n/\∀(i:Nat),i<Bb u t.1 -> [I (BN u t.1 i).w,I (BN u t.1 i).h]= [I (A10.g i).w,I (A10.g i).h])/\∃(g_2:Int->Bool),SV.ref [I g] A13=SV.ref [I g] A13/\nat_lit 0=nat_lit 0/\(∀(x:Int),(decide (x=g)||g_1.1 x)=g_2 x)/\A30/\nat_lit 0 =
 nat_lit 0/\A2/\gr=gr/\g_2 g=true);Jl w gr g g_1.2->(A3/\A3/\A3/\A3/\A3/\A3/\A3/\A3/\A3/\∃(t:Nat×(Nat->Ac)),(A36.n=t.1/\∀(i:Nat),i<A36.n -> [I (A36.g i).w,I (A36.g i).h]= [I (t.2 i).w,I (t.2 i).h])/\t.1<=A41/\∀(u:Nat->Ac),Dw D8 t.1 t.2 u->(Bb u t.1=A10.n/\∀(i:Nat),i<Bb u t.1 -> [I (BN u t.1 i).w,I (BN
 u t.1 i).h]= [I (A10.g i).w,I (A10.g i).h])/\∃(g_2:Int->Bool),SV.ref [I g] A13=SV.ref [I g] A13/\nat_lit 0=nat_lit 0/\(∀(x:Int),(decide (x=g)||g_1.1 x)=g_2 x)/\A30/\nat_lit 0=nat_lit 0/\A2/\gr=gr/\g_2 g=true)/\∀(g_2:Int->Bool),let A44:=(∀(x:Int),g_2 x=true->Ai A12 x=Ai A12 x);g_2 g=true->(g_2 g =
 true->∃(u:Int->Bool),A16/\A2/\gr=gr/\(∀(x:Int),g_2 x=u x)/\A44/\True)/\(g_2 g=false->∃(u:Int->Bool),A10.n=A68/\A2/\gr=gr/\(∀(x:Int),g_2 x=u x)/\A44/\True)))/\(dom g=false->(false=true->∃(u:Int->Bool),A10.n=A68/\A2/\gr=gr/\(∀(x:Int),dom x=u x)/\A7/\True)/\(false=false->A1/\∀(g_1:(Int ->
 Bool)×List Ac),let A37:=(AC g_1.2);let A31:=(∀(x:Int),(decide (x=g)||g_1.1 x)=true->Ai A12 x=Ai A12 x);let A4:=(∃(t:Nat×(Nat->Ac)),(A37.n=t.1/\∀(i:Nat),i<A37.n -> [I (A37.g i).w,I (A37.g i).h]= [I (t.2 i).w,I (t.2 i).h])/\t.1<=A41/\∀(u:Nat->Ac),Dw D8 t.1 t.2 u->(Bb u t.1=A10.n/\∀(i :
 Nat),i<Bb u t.1 -> [I (BN u t.1 i).w,I (BN u t.1 i).h]= [I (A10.g i).w,I (A10.g i).h])/\∃(g_2:Int->Bool),SV.ref [I g] A13=SV.ref [I g] A13/\nat_lit 0=nat_lit 0/\(∀(x:Int),(decide (x=g)||g_1.1 x)=g_2 x)/\A31/\nat_lit 0=nat_lit 0/\A2/\gr=gr/\g_2 g=true);Jl w gr g g_1.2->(A4/\A4/\A4/\A4/\A4/\A4/\A4/\A4/\A4/\∃(t :
 Nat×(Nat->Ac)),(A37.n=t.1/\∀(i:Nat),i<A37.n -> [I (A37.g i).w,I (A37.g i).h]= [I (t.2 i).w,I (t.2 i).h])/\t.1<=A41/\∀(u:Nat->Ac),Dw D8 t.1 t.2 u->(Bb u t.1=A10.n/\∀(i:Nat),i<Bb u t.1 -> [I (BN u t.1 i).w,I (BN u t.1 i).h]= [I (A10.g i).w,I (A10.g i).h])/\∃(g_2:Int->Bool),SV.ref [I g] A13=SV.ref [I g] A13 /\
 nat_lit 0=nat_lit 0/\(∀(x:Int),(decide (x=g)||g_1.1 x)=g_2 x)/\A31/\nat_lit 0=nat_lit 0/\A2/\gr=gr/\g_2 g=true)/\∀(g_2:Int->Bool),let A45:=(∀(x:Int),g_2 x=true->Ai A12 x=Ai A12 x);g_2 g=true->(g_2 g=true->∃(u:Int->Bool),A16/\A2/\gr=gr/\(∀(x:Int),g_2 x=u x)/\A45/\True)/\(g_2 g=false->∃
 (u:Int->Bool),A10.n=A68/\A2/\gr=gr/\(∀(x:Int),g_2 x=u x)/\A45/\True)))) (by kernel_rfl) (by
  conv=>zeta
  have hp:B7 w/\0<=g/\g<=Az w.n:=hp;have hmu:g.toNat<rn+1:=hmu;obtain⟨⟨hw4,hwl⟩,hg0,hga⟩:=hp;have hg15:g<=15:=Ag0 hga (N5 hw4);refine⟨fun hd=>⟨fun _=>?_,fun h=>(by cases h)⟩,fun hd=>⟨fun h=>(by cases h),fun _=>⟨⟨fun h0=>?_,fun h0=>?_⟩,fun x hx=>?_⟩⟩⟩
  ·exact⟨dom,⟨rfl,fun _ _=>rfl⟩,⟨rfl,fun _ _=>rfl⟩,rfl,fun _=>rfl,fun _ _=>rfl,trivial⟩
  ·have h0:g=0:=of_decide_eq_true h0;subst h0;refine⟨(dom,[⟨0,0⟩]),rfl,rfl,rfl,⟨rfl,fun i hi=>?_⟩,fun _=>rfl,fun _ _=>rfl,rfl,⟨rfl,fun _ _=>rfl⟩,rfl,⟨by rw[Kn];rfl,show 1<=1000000 by decide⟩⟩;have hi:i<1:=hi;obtain rfl:i=0:=by omega
   rfl
  ·have h0:¬ g=0:=of_decide_eq_false h0;have hg1:1<=g:=by omega
   refine⟨iK,fun h1=>?_,fun h1=>?_⟩
   ·have h1:Bs g=true:=h1;obtain⟨ge,gi⟩:=LA hg1 hg15 h1;have gn:=Y2 hw4 hg1 hga h1;refine⟨⟨0,rfl,Afg _⟩,fun k hk=>⟨Af7 _,fun hc=>?_,fun hc=>?_⟩⟩
    ·have hc:1<Fo g k:=of_decide_eq_true hc;have hlt:k<AI g:=by rw[ge]at hc;exact(N6 gi hk).1 hc
     exact⟨iK,k+1,rfl,rfl,rfl,rfl,⟨rfl,fun _ _=>rfl⟩,rfl,⟨rfl,fun _ _=>rfl⟩,rfl,fun _=>rfl,fun _ _=>rfl,hlt,by omega⟩
    ·have hc:¬ 1<Fo g k:=of_decide_eq_false hc;have hke:k=AI g:=by
      rcases AfP k (AI g)with h|h
      ·exact absurd (by rw[ge];exact(N6 gi hk).2 h) hc
      ·omega
     subst hke;have e1:((AI g:Nat):Int).toNat=AI g:=Afy _;have kn:0<=((AI g:Nat):Int)/\((AI g:Nat):Int)<(w.n:Int):=⟨Af7 _,by omega⟩;refine⟨⟨0,rfl,⟨rfl,fun i hi=>absurd hi (Rc _)⟩,Afg _⟩,fun t ht=>⟨fun hlt=>?_,fun hge=>?_⟩⟩
     ·have hlt:(t:Int)<2:=of_decide_eq_true hlt;have ht2:t<2:=by omega
      have hl:(AC (E4 w gr (AI g) t)).n<=2:=by
       show(E4 w gr (AI g) t).length<=2;unfold E4;rw[AfT];exact AfI (Agv _ _) (by rw[AgU];exact Nat.min_le_right _ _)
      have nx:=Y4 w gr (AI g) ht2;rw[e1];refine⟨kn,trivial,fun ha=>⟨kn,?_⟩,fun ha=>?_⟩
      ·have ha:Cz (w.g (AI g)).grain gr t=true:=ha;rw[if_pos ha]at nx;have leaf:=LC (r:=fun _=>E5 (Bv (w.g (AI g)).ol t)) nx (fun i hi=>by
        have hi:i<1:=hi;obtain rfl:i=0:=by omega
        rfl)
       have pb:(∀i,i<(w.g (AI g)).ol.n -> [SV.int .i64 ((w.g (AI g)).ol.g i).x,SV.int .i64 ((w.g (AI g)).ol.g i).y]= [SV.int .i64 ((w.g (AI g)).ol.g i).x,SV.int .i64 ((w.g (AI g)).ol.g i).y])/\(w.g (AI g)).ol.n<=1000000:=⟨fun _ _=>rfl,hwl _ gn⟩;have sz:((AC (E4 w gr (AI g) t)).n+1)*16<=140737488355328:=by omega
       exact⟨⟨pb,sz,iK,t+1,rfl,rfl,rfl,rfl,rfl,leaf,rfl,⟨rfl,fun _ _=>rfl⟩,rfl,fun _=>rfl,fun _ _=>rfl,by omega,by omega⟩,pb,⟨sz,iK,t+1,rfl,rfl,rfl,rfl,rfl,leaf,rfl,⟨rfl,fun _ _=>rfl⟩,rfl,fun _=>rfl,fun _ _=>rfl,by omega,by omega⟩,⟨sz,iK,t+1,rfl,rfl,rfl,rfl,rfl,leaf,rfl,⟨rfl,fun _ _=>rfl⟩,rfl,fun _=>rfl,fun _ _=>rfl,by omega,by omega⟩⟩
      ·have ha:Cz (w.g (AI g)).grain gr t=false:=ha;rw[if_neg (by rw[ha];decide),Aga]at nx;exact⟨iK,t+1,rfl,rfl,rfl,rfl,rfl,N7 nx.symm,rfl,⟨rfl,fun _ _=>rfl⟩,rfl,fun _=>rfl,fun _ _=>rfl,by omega,by omega⟩
     ·have hge:¬ (t:Int)<2:=of_decide_eq_false hge;obtain rfl:t=2:=by omega
      have eC:E4 w gr (AI g) 2=GQ w gr (AI g):=rfl;exact⟨(dom,E4 w gr (AI g) 2),rfl,rfl,rfl,⟨rfl,fun _ _=>rfl⟩,fun _=>rfl,fun _ _=>rfl,rfl,⟨rfl,fun _ _=>rfl⟩,rfl,⟨by rw[Ko w gr hg1 hg15 h1,eC],by have:=Yz w gr (AI g);show(GQ w gr (AI g)).length<=1000000;omega⟩⟩
   ·have h1:Bs g=false:=h1;obtain⟨hp0,hpt⟩:=FK hg1 hg15 h1;refine⟨trivial,⟨⟨hg0,hg15⟩,dom,⟨rfl,fun i hi=>absurd hi (Rc _)⟩,fun _=>rfl,fun _ _=>rfl,rfl,⟨rfl,fun _ _=>rfl⟩,rfl,Afg _⟩,fun k d vk hk _=>?_,fun d _=>?_⟩
    ·obtain⟨p1,p2,p3,p4,p5⟩:=hpt k hk;refine⟨(w,gr,d,Al g k),rfl,rfl,⟨rfl,fun _ _=>rfl⟩,rfl,fun _=>rfl,fun _ _=>rfl,⟨⟨⟨hw4,hwl⟩,Af8 p1,by show Al g k<=Az w.n;omega⟩,by show(Al g k).toNat<rn;omega⟩,fun u _=>⟨⟨(0,u,k),rfl,N7 (zZ w gr g k).symm,fun _=>rfl,fun _ _=>rfl,rfl,Afg _,hk⟩,fun x hx=>?_⟩⟩;obtain⟨i,d1,k'⟩:=x;obtain⟨hk1,hi,hk2⟩:=hx;obtain rfl:=N4 hg1 hg15 h1 hk hk2 hk1;have hi:i<=(Ae w gr (Al g k)).n:=hi;refine⟨fun hc=>?_,fun hc=>?_⟩
     ·have hc:(i:Int)<((Ae w gr (Al g k)).n:Int):=of_decide_eq_true hc;have hiA:i<(Ae w gr (Al g k)).n:=by omega
      refine⟨⟨Af7 _,hc⟩,(w,gr,d1,AO g k),rfl,rfl,⟨rfl,fun _ _=>rfl⟩,rfl,fun _=>rfl,fun _ _=>rfl,⟨⟨⟨hw4,hwl⟩,Af8 p3,by show AO g k<=Az w.n;omega⟩,by show(AO g k).toNat<rn;omega⟩,fun u1 _=>⟨⟨(0,k,i),rfl,N7 (Aaa w gr g k i).symm,rfl,rfl,Afg _,hk⟩,fun y hy=>?_⟩⟩;obtain⟨j,k2,i2⟩:=y;obtain⟨hk3,hi2,hj,hk4⟩:=hy;obtain rfl:=N4 hg1 hg15 h1 hk hk4 hk3;have hi2:(i:Int)=(i2:Int):=hi2;obtain rfl:i=i2:=by omega
      have hj:j<=(Ae w gr (AO g k)).n:=hj;refine⟨fun hb=>?_,fun hb=>?_⟩
      ·have hb:(j:Int)<((Ae w gr (AO g k)).n:Int):=of_decide_eq_true hb;have hjB:j<(Ae w gr (AO g k)).n:=by omega
       have bA:=(Jk w gr (Af8 p1) (by omega)).bd _ (Is hiA);have bB:=(Jk w gr (Af8 p3) (by omega)).bd _ (Is hjB);have ei:((i:Nat):Int).toNat=i:=Afy i;have ej:((j:Nat):Int).toNat=j:=Afy j;have hl:=(Y5 w gr hg1 hg15 h1 (i:=i) (j:=j) hk).1;rw[ei,ej];refine⟨⟨Af7 _,hb⟩,iK (by show _<=((Ae w gr (Al g k)).g i).w+((Ae w gr (AO g k)).g j).w;omega) (by show((Ae w gr (Al g k)).g i).w+((Ae w gr (AO g k)).g j).w<=_;omega),iK (by show _<=((Ae w gr (Al g k)).g i).h+((Ae w gr (AO g k)).g j).h;omega) (by show((Ae w gr (Al g k)).g i).h+((Ae w gr (AO g k)).g j).h<=_;omega),
        by show((Fh w gr g k i j).length+2)*16<=140737488355328;omega,iK (by show _<=(j:Int)+1;omega) (by show(j:Int)+1<=_;have:=Hv w gr (Af8 p3) (show AO g k<=15 by omega);have hj2:j<=(AW w gr (AO g k)).length:=hj;omega),(j+1,k,i),rfl,rfl,⟨rfl,fun _ _=>rfl⟩,rfl,rfl,rfl,⟨rfl,fun _ _=>rfl⟩,rfl,rfl,rfl,rfl,rfl,rfl,rfl,?_,rfl,rfl,fun _=>rfl,fun _ _=>rfl,rfl,⟨rfl,fun _ _=>rfl⟩,rfl,⟨rfl,rfl,hjB,hk⟩,by show(Ae w gr (AO g k)).n-(j+1)<(Ae w gr (AO g k)).n-j;omega⟩
       exact LC (zX w gr g k i hjB) (fun q hq=>by
        have hq:q<2:=hq;have:q=0\/q=1:=by omega
        rcases this with rfl|rfl<;>rfl)
      ·have hb:¬ (j:Int)<((Ae w gr (AO g k)).n:Int):=of_decide_eq_false hb;obtain rfl:j=(Ae w gr (AO g k)).n:=by omega
       refine⟨iK (by show _<=(i:Int)+1;omega) (by show(i:Int)+1<=_;have:=Hv w gr (Af8 p1) (show Al g k<=15 by omega);have hi2:i<=(AW w gr (Al g k)).length:=hi;omega),(i+1,u1,k),rfl,rfl,⟨rfl,fun _ _=>rfl⟩,rfl,rfl,rfl,rfl,rfl,rfl,rfl,N7 (zY w gr g k hiA),fun _=>rfl,fun _ _=>rfl,rfl,⟨rfl,fun _ _=>rfl⟩,rfl,⟨rfl,hiA,hk⟩,by show(Ae w gr (Al g k)).n-(i+1)<(Ae w gr (Al g k)).n-i;omega⟩
     ·have hc:¬ (i:Int)<((Ae w gr (Al g k)).n:Int):=of_decide_eq_false hc;obtain rfl:i=(Ae w gr (Al g k)).n:=by omega
      have hl:=(Y5 w gr hg1 hg15 h1 (i:=(Ae w gr (Al g k)).n) (j:=0) hk).2.1;exact⟨((AC (DY w gr g k (Ae w gr (Al g k)).n)).n,(AC (DY w gr g k (Ae w gr (Al g k)).n)).g),⟨rfl,fun _ _=>rfl⟩,by show(DY w gr g k (Ae w gr (Al g k)).n).length<=1000000;omega,fun u hu=>⟨d1,rfl,rfl,rfl,rfl,rfl,rfl,Y3 hu (Aab w gr g k),fun _=>rfl,fun _ _=>rfl,rfl,⟨rfl,fun _ _=>rfl⟩,rfl,hk⟩⟩
    ·exact⟨(d,ER w gr g (AD g)),rfl,rfl,rfl,⟨rfl,fun _ _=>rfl⟩,fun _=>rfl,fun _ _=>rfl,rfl,⟨rfl,fun _ _=>rfl⟩,rfl,Aac w gr hg1 hg15 h1⟩
  ·obtain⟨d,X⟩:=x;obtain⟨hX1,hX2⟩:=hx;refine⟨?_,fun e he=>⟨fun _=>⟨e,⟨rfl,fun _ _=>rfl⟩,⟨rfl,fun _ _=>rfl⟩,rfl,fun _=>rfl,fun _ _=>rfl,trivial⟩,fun h=>?_⟩⟩
   ·repeat' apply And.intro
    all_goals exact⟨((AC X).n,(AC X).g),⟨rfl,fun _ _=>rfl⟩,hX2,fun u hu=>⟨Y3 hu hX1,fun x=>decide (x=g)||d x,rfl,rfl,fun _=>rfl,fun _ _=>rfl,rfl,⟨rfl,fun _ _=>rfl⟩,rfl,by show(decide (g=g)||d g)=true;simp⟩⟩
   ·have he:e g=true:=he;rw[he]at h;cases h)
theorem Qm:Ao Tryz.prog 36:=fun args w=>by kernel_rfl
theorem Y7:Dq Tryz.prog 36 HL:=Lu Y6 ⟨fun t=>rfl,fun t u=>rfl,fun t u=>rfl,fun t u=>⟨rfl,rfl,rfl⟩,.inl rfl,fun k h=>(by cases h)⟩ (fun rn ih=>FE (n:=2) Tryz.func36 (c:=Ah Tryz.f36) (by kernel_rfl) mixed ⟨fun t=>rfl,fun t=>rfl,fun t u=>rfl,fun t u=>rfl,fun t u=>rfl,fun t u=>⟨rfl,rfl⟩,by kernel_rfl,by kernel_rfl⟩ (fun⟨w,gr,dom,g⟩ hp=>⟨_,Aad rn w gr dom g hp.1 hp.2,⟨show Aa Tryz.prog _ from(Aa.cons Ym Yn (Aa.cons XL XM (Aa.cons PT PU Aa.nil))),rfl,⟨show Ag Tryz.prog _ from(Ag.cons Yf Yg Ag.nil),⟨Aw.no1 (fun _=>rfl),⟨show Bm Tryz.prog _ from(Bm.cons zJ zI (Bm.cons ih Qm Bm.nil)),FamsOk.none (fun _=>rfl)⟩⟩⟩⟩⟩))
end
end
def DZ (x r:Ac):Bool:=bif decide (x.w<=r.w)then decide (x.h<=r.h)else false
def Cd (w:L.Sq Ab) (gr g:Int) (r:Ac):Bool:=Cl (Ae w gr g).n fun i=>DZ ((Ae w gr g).g i) r
def CX (v:Nat->Bool) (id:Nat->Int) (i:Nat):Bool:=bif !v i then true else bif decide (0<(i:Int))then decide (id i<=id (i-1))else false
def Dj (w:L.Sq Ab):Bool:=CD w.n fun i=>!CX (fun i=>Di (w.g i)) (fun i=>(w.g i).id) i
def G1 (s:L.Sq Aj):Bool:=CD s.n fun i=>!CX (fun i=>BH (s.g i)) (fun i=>(s.g i).id) i
def CY (w:L.Sq Ab) (s:L.Sq Aj) (right:Bool):Int:=bif !Dj w then 50 else bif (bif !G1 s then true else !right)then 1 else bif (bif decide (7<(w.n:Int))then true else decide (7<(s.n:Int)))then 2 else 0
def Dz (w:L.Sq Ab):Prop:=(w.n<=4\/7<w.n)/\w.n<=1000000/\∀i,i<w.n->(w.g i).ol.n<=1000000
def Qn:L.Sq Aj:=⟨0,fun _=>⟨0,0,0,0,0⟩⟩
def N8 (s:Aj):L.Sq Aj:=⟨1,fun _=>s⟩
def Ds (w:L.Sq Ab) (gr:Int):Int:=CY w Qn (Ay gr 0 2)
def Ea (w:L.Sq Ab) (gr:Int):Nat:=bif decide (Ds w gr=0)then(Ae w gr (Az w.n)).n else 0
def BO (w:L.Sq Ab) (s:Aj):Int:=CY w (N8 s) true
def CZ (w:L.Sq Ab) (s:Aj):Bool:=bif decide (BO w s=0)then Cd w s.grain (Az w.n) ⟨s.w,s.h⟩else false
theorem Qo {n i:Nat} {f:Nat->Bool} (hi:i<n) (h:f i=false):CD n f=false:=FF hi h
theorem Kp {w:L.Sq Ab} {s:L.Sq Aj} {b:Bool} (h:CY w s b=0):Dj w=true/\G1 s=true/\b=true/\w.n<=7/\s.n<=7:=by
 unfold CY at h;cases h1:Dj w
 ·rw[h1]at h;simp at h
 ·cases h2:G1 s
  ·rw[h1,h2]at h;simp at h
  ·cases b
   ·rw[h1,h2]at h;simp at h
   ·rw[h1,h2]at h;refine⟨rfl,rfl,rfl,?_⟩
    by_cases h3:(7:Int)<w.n
    ·simp[h3]at h
    ·by_cases h4:(7:Int)<s.n
     ·simp[h4]at h
     ·omega
theorem Hw {w:L.Sq Ab} (h:Dz w) (h7:w.n<=7):B7 w:=⟨by have:=h.1;omega,h.2.2⟩
def Y8 (l:(L.Sq Ac)) (p:BV):Prop:=l.n<=1000000/\∀i,i<l.n->p.pre [(.agg [.int .i64 ((l.g i).w),.int .i64 ((l.g i).h)])]
def Y9 (l:(L.Sq Ac)) (p:BV):SV:=.int .i64 (Cw l.n (fun i=>Bt p [(.agg [.int .i64 ((l.g i).w),.int .i64 ((l.g i).h)])]))
def YA:List EV->Option (Prop×SV)
 |[.p (.sl 2 l_n l_g),.fn p]=>some ((∀i,i<l_n->l_g i = [.int .i64 ((Cc (l_g i)).w),.int .i64 ((Cc (l_g i)).h)])/\FD p/\Y8 (⟨l_n,fun i=>Cc (l_g i)⟩:(L.Sq Ac)) p,Y9 (⟨l_n,fun i=>Cc (l_g i)⟩:(L.Sq Ac)) p)
 |_=>none
abbrev YB:SE.Spec:=(AK YA)
def Aae:Ak:={ muts:=[],frz:=B2 [],specs:=AB [],loops:=fun _=>none,iters:=Bw [],rfs:=AT [],nils:=B3 [] }
theorem Aaf (l:(L.Sq Ac)) (p:BV) (hp:Y8 l p):vc Tryz.prog ({ Aae with loops:=AV [(2,{ T:=Nat,keep:=[0,1,6,7],keepO:=[],chg:=fun i=>[(8,.p (.int .i64 i))],own:=fun _=>[],inv:=fun i=>i<=l.n/\(∀j,j<i->Bt p [(.agg [.int .i64 ((l.g j).w),.int .i64 ((l.g j).h)])]=false),mu:=fun i=>l.n-i })],rfs:=AT [] }) (Ah Tryz.f124) (Ap Tryz.f124 [.p (.sl 2 l.n (fun i=>[.int .i64 ((l.g i).w),.int .i64 ((l.g i).h)])),.fn ⟨p.pre,fun xs=>.bool (Bt p xs)⟩]) (AJ Tryz.prog Tryz.f124 (Y9 l p)):=
 @Eq.mpr _ (let I:=SV.int .i64;let T:=Af1;let A4:=(↑l.n:Int);let A2:=(l.n=l.n/\∀(i:Nat),let A5:=[I (l.g i).w,I (l.g i).h];i<l.n->A5=A5);(∃(g:Nat),(0:Int)=(↑g:Int)/\g<=l.n/\∀(j:Nat),j<g->Bt p [SV.agg [I (l.g j).w,I (l.g j).h]]=false)/\∀(g:Nat),let A3:=(↑g:Int);let A1:=[SV.agg [I (l.g (T A3)).w,I (l.g (T A3)).h]];(g<=l.n/\∀(j:Nat),j<g->Bt p [SV.agg [I (l.g j).w,I (l.g j).h]]=false)->(decide (A3<A4)=true->((0:Int)<=A3/\A3<A4)/\p.1 A1/\(Bt p A1=true->A3=Cw l.n fun(i:Nat)=>Bt p [SV.agg [I (l.g i).w,I (l.g i).h]])/\(Bt p A1=false->Ad .i64 (A3+(1:Int))/\∃(g':Nat),A3+(1:Int)=(↑g':Int)/\A4=A4/\A2/\A2/\((BV.mk p.pre fun(xs:List SV)=>SV.bool (Bt p xs))=BV.mk p.pre fun(xs:List SV)=>SV.bool (Bt p xs))/\(g'<=l.n/\∀(j:Nat),j<g'->Bt p [SV.agg [I (l.g j).w,I (l.g j).h]]=false)/\l.n-g'<l.n-g))/\(decide (A3<A4)=false->(-1:Int)=Cw l.n fun(i:Nat)=>Bt p [SV.agg [I (l.g i).w,I (l.g i).h]])) (by kernel_rfl) (by
 conv=>zeta
 obtain⟨hn,hpre⟩:=hp;refine⟨⟨(0:Nat),rfl,Afg _,fun j hj=>by omega⟩,fun g hg=>⟨fun hlt=>?_,fun hge=>?_⟩⟩
 ·have hb:(g:Int)<(l.n:Int):=by simpa using hlt
  have e0:((g:Int)).toNat=g:=by omega
  rw[e0];refine⟨by omega,hpre g (by omega),fun h=>?_,fun h=>?_⟩
  ·exact(Kb hg.2 h (by omega)).symm
  ·exact⟨jK, g+1, by omega, rfl, ⟨rfl, fun _ _ =>rfl⟩, ⟨rfl, fun _ _ =>rfl⟩, rfl, ⟨by omega, fun j hj =>by
   rcases Aft.1 hj with h'|rfl
   ·exact hg.2 j h'
   ·exact h⟩,by omega⟩
 ·have hb:¬ (g:Int)<(l.n:Int):=by simpa using hge
  exact(Jf (fun j hj=>hg.2 j (by omega))).symm)
theorem Aag:Av Tryz.prog 124 YB:=AM Tryz.func124 (c:=Ah Tryz.f124) (by kernel_rfl) mixed (fun args p r hs hp=>by
 unfold YA at hs;split at hs
 ·cases hs;exact⟨_,_,Aaf _ _ hp.2.2,(.p (.sl hp.1) (.fn (fun xs h=>⟨h,(Ka hp.2.1 h).symm⟩) .nil)),⟨show Aa Tryz.prog _ from Aa.nil,rfl,⟨show Ag Tryz.prog _ from Ag.nil,(Aw.none (fun _=>rfl))⟩⟩⟩
 ·cases hs)
theorem Aah:Ao Tryz.prog 124:=fun args w=>by kernel_rfl
def YC (l:(L.Sq Ac)) (p:BV):Prop:=l.n<=1000000/\∀i,i<l.n->p.pre [(.agg [.int .i64 ((l.g i).w),.int .i64 ((l.g i).h)])]
def YD (l:(L.Sq Ac)) (p:BV):SV:=.bool (Cl l.n (fun i=>Bt p [(.agg [.int .i64 ((l.g i).w),.int .i64 ((l.g i).h)])]))
def YE:List EV->Option (Prop×SV)
 |[.p (.sl 2 l_n l_g),.fn p]=>some ((∀i,i<l_n->l_g i = [.int .i64 ((Cc (l_g i)).w),.int .i64 ((Cc (l_g i)).h)])/\FD p/\YC (⟨l_n,fun i=>Cc (l_g i)⟩:(L.Sq Ac)) p,YD (⟨l_n,fun i=>Cc (l_g i)⟩:(L.Sq Ac)) p)
 |_=>none
abbrev YF:SE.Spec:=(AK YE)
def Aai:Ak:={ cC with specs:=AB [(124,YB)] }
theorem Aaj (l:(L.Sq Ac)) (p:BV) (hp:YC l p):vc Tryz.prog (Aai) (Ah Tryz.f82) (Ap Tryz.f82 [.p (.sl 2 l.n (fun i=>[.int .i64 ((l.g i).w),.int .i64 ((l.g i).h)])),.fn ⟨p.pre,fun xs=>.bool (Bt p xs)⟩]) (AJ Tryz.prog Tryz.f82 (YD l p)):=
 @Eq.mpr _ (let I:=SV.int .i64;let A1:=(BV.mk p.pre fun(xs:List SV)=>SV.bool (Bt p xs));((∀(i:Nat),let A2:=[I (l.g i).w,I (l.g i).h];i<l.n->A2=A2)/\FD A1/\l.n<=(1000000:Nat)/\∀(i:Nat),i<l.n->p.1 [SV.agg [I (l.g i).w,I (l.g i).h]])/\decide ((0:Int)<=Cw l.n fun(i:Nat)=>Bt A1 [SV.agg [I (l.g i).w,I (l.g i).h]])=Cl l.n fun(i:Nat)=>Bt p [SV.agg [I (l.g i).w,I (l.g i).h]]) (by kernel_rfl) (by
 conv=>zeta
 refine⟨⟨fun _ _=>rfl,fun xs _=>⟨_,rfl⟩,hp⟩,L0⟩)
theorem Aak:Av Tryz.prog 82 YF:=AM Tryz.func82 (c:=Ah Tryz.f82) (by kernel_rfl) mixed (fun args p r hs hp=>by
 unfold YE at hs;split at hs
 ·cases hs;exact⟨_,_,Aaj _ _ hp.2.2,(.p (.sl hp.1) (.fn (fun xs h=>⟨h,(Ka hp.2.1 h).symm⟩) .nil)),⟨show Aa Tryz.prog _ from(Aa.cons Aag Aah Aa.nil),rfl,⟨show Ag Tryz.prog _ from Ag.nil,(Aw.none (fun _=>rfl))⟩⟩⟩
 ·cases hs)
theorem Aal:Ao Tryz.prog 82:=fun args w=>by kernel_rfl
def YG (x:Ac) (r:Ac):Prop:=True
def YH (x:Ac) (r:Ac):SV:=.bool (DZ x r)
def Kq:List EV->Option (Prop×SV)
 |[.p (.agg [.int .i64 x_w,.int .i64 x_h]),.p (.ref [.int .i64 r_w,.int .i64 r_h] 0)]=>some (YG (⟨x_w,x_h⟩:Ac) (⟨r_w,r_h⟩:Ac),YH (⟨x_w,x_h⟩:Ac) (⟨r_w,r_h⟩:Ac))
 |_=>none
abbrev YI:SE.Spec:=(AK Kq)
def Aam:Ak:={ muts:=[],frz:=B2 [],specs:=AB [],loops:=AV [],iters:=Bw [],rfs:=AT [],nils:=B3 [] }
theorem Aan (x:Ac) (r:Ac) (hp:YG x r):vc Tryz.prog (Aam) (Ah Tryz.f83) (Ap Tryz.f83 [.p (.agg [.int .i64 x.w,.int .i64 x.h]),.p (.ref [.int .i64 r.w,.int .i64 r.h] 0)]) (AJ Tryz.prog Tryz.f83 (YH x r)):=
 @Eq.mpr _ ((bif decide (x.w<=r.w)then decide (x.h<=r.h)else false)=DZ x r) (by kernel_rfl) (by
 rfl)
theorem Aao:Av Tryz.prog 83 YI:=AM Tryz.func83 (c:=Ah Tryz.f83) (by kernel_rfl) mixed (fun args p r hs hp=>by
 unfold Kq at hs;split at hs
 ·cases hs;exact⟨_,_,Aan _ _ hp,(.same _ (.same _ .nil)),⟨show Aa Tryz.prog _ from Aa.nil,rfl,⟨show Ag Tryz.prog _ from Ag.nil,(Aw.none (fun _=>rfl))⟩⟩⟩
 ·cases hs)
theorem Aap:Ao Tryz.prog 83:=fun args w=>by kernel_rfl
theorem Aaq:∀args p r,Kq args=some (p,r)->∃b,r=.bool b:=by
 intro args p r h;unfold Kq at h;split at h
 ·cases h;exact⟨_,rfl⟩
 ·cases h
def YJ (w:(L.Sq Ab)):Prop:=w.n<=1000000/\∀i,i<w.n->(w.g i).ol.n<=1000000
def YK (w:(L.Sq Ab)):SV:=.bool (Dj w)
def YL:List EV->Option (Prop×SV)
 |[.p (.sl 4 w_n w_g)]=>some ((∀i,i<w_n->DD (w_g i))/\YJ (⟨w_n,fun i=>B6 (w_g i)⟩:(L.Sq Ab)),YK (⟨w_n,fun i=>B6 (w_g i)⟩:(L.Sq Ab)))
 |_=>none
abbrev YM:SE.Spec:=(AK YL)
def Aar:Ak:={ cC with specs:=AB [(116,XH)] }
theorem Aas (w:(L.Sq Ab)) (hp:YJ w):vc Tryz.prog ({ Aar with loops:=AV [(2,{ T:=Nat,keep:=[0,5,6],keepO:=[],chg:=fun i=>[(7,.p (.int .i64 (i:Int)))],own:=fun _=>[],inv:=fun i=>i<=w.n/\∀j,j<i->CX (fun i=>Di (w.g i)) (fun i=>(w.g i).id) j=false,mu:=fun i=>w.n-i })],rfs:=AT [] }) (Ah Tryz.f71) (Ap Tryz.f71 [.p (.sl 4 w.n (fun i=>[.int .i64 ((w.g i).id),.int .i64 ((w.g i).colour),.int .i64 ((w.g i).grain),.sl 2 (w.g i).ol.n (fun i1=>[.int .i64 (((w.g i).ol.g i1).x),.int .i64 (((w.g i).ol.g i1).y)])]))]) (AJ Tryz.prog Tryz.f71 (YK w)):=
 @Eq.mpr _ (let I:=SV.int .i64;let T:=Af1;let A11:=(0:Int);let A10:=(1:Int);let A8:=(↑w.n:Int);let A2:=(w.n=w.n/\∀(i:Nat),let A5:=[I (w.g i).id,I (w.g i).colour,I (w.g i).grain,SV.sl (2:Nat) (w.g i).ol.n fun(i1:Nat)=>[I ((w.g i).ol.g i1).x,I ((w.g i).ol.g i1).y]];i<w.n->A5=A5);(∃(g:Nat),A11=(↑g:Int)/\g<=w.n/\∀(j:Nat),j<g->CX (fun(i:Nat)=>Di (w.g i)) (fun(i:Nat)=>(w.g i).id) j=false)/\∀(g:Nat),let A6:=(↑g:Int);let A3:=(w.g (T A6));let A1:=(Ab.mk A3.id A3.colour A3.grain (L.Sq.mk A3.ol.n fun(i:Nat)=>A3.ol.g i));let A7:=(!!Di A1&&decide (A11<A6));let A4:=(bif !Di A1 then true else bif decide (A11<A6)then decide (A3.id<=(w.g (T (A6-A10))).id)else false);(g<=w.n/\∀(j:Nat),j<g->CX (fun(i:Nat)=>Di (w.g i)) (fun(i:Nat)=>(w.g i).id) j=false)->(decide (A6<A8)=true->(A11<=A6/\A6<A8)/\((∀(i:Nat),let A9:=[I (A3.ol.g i).x,I (A3.ol.g i).y];i<A3.ol.n->A9=A9)/\A3.ol.n<=(1000000:Nat))/\(A7=true->Ad .i64 (A6-A10))/\(A7=true->A11<=A6-A10/\A6-A10<A8)/\(A4=true->false=Dj w)/\(A4=false->Ad .i64 (A6+A10)/\∃(g':Nat),A6+A10=(↑g':Int)/\A8=A8/\A2/\A2/\(g'<=w.n/\∀(j:Nat),j<g'->CX (fun(i:Nat)=>Di (w.g i)) (fun(i:Nat)=>(w.g i).id) j=false)/\w.n-g'<w.n-g))/\(decide (A6<A8)=false->true=Dj w)) (by kernel_rfl) (by
 conv=>zeta
 obtain⟨hn,hol⟩:=hp;refine⟨⟨(0:Nat),rfl,Afg _,fun j hj=>absurd hj (Rc _)⟩,fun g hg=>⟨fun hlt=>?_,fun hge=>?_⟩⟩
 ·have hb:(g:Int)<(w.n:Int):=of_decide_eq_true hlt;have e0:((g:Int)).toNat=g:=Afy g;have e1:((g:Int)-1).toNat=g-1:=by omega
  rw[e0,e1];refine⟨⟨Af7 _,hb⟩,⟨fun _ _=>rfl,hol g (by omega)⟩,fun _=>jK,fun h=>?_,fun h=>?_,fun h=>?_⟩
  ·have:0<(g:Int):=of_decide_eq_true (AgK.1 h).2;omega
  ·exact(Qo (i:=g) (f:=fun i=>!CX (fun i=>Di (w.g i)) (fun i=>(w.g i).id) i) (by omega) (by show(!_)=false;rw[show CX (fun i=>Di (w.g i)) (fun i=>(w.g i).id) g=true from h];rfl)).symm
  ·refine⟨jK,g+1,rfl,rfl,⟨rfl,fun _ _=>rfl⟩,⟨rfl,fun _ _=>rfl⟩,⟨by omega,fun j hj=>?_⟩,by omega⟩;rcases Aft.1 hj with h'|rfl
   ·exact hg.2 j h'
   ·exact h
 ·have hb:¬ (g:Int)<(w.n:Int):=of_decide_eq_false hge;exact(CQ.2 (fun i hi=>by show(!_)=true;rw[hg.2 i (by omega)];rfl)).symm)
theorem Aat:Av Tryz.prog 71 YM:=AM Tryz.func71 (c:=Ah Tryz.f71) (by kernel_rfl) mixed (fun args p r hs hp=>by
 unfold YL at hs;split at hs
 ·cases hs;exact⟨_,_,Aas _ hp.2,(.p (EP hp.1) .nil),⟨show Aa Tryz.prog _ from(Aa.cons xY xZ Aa.nil),rfl,⟨show Ag Tryz.prog _ from Ag.nil,(Aw.none (fun _=>rfl))⟩⟩⟩
 ·cases hs)
theorem Aau:Ao Tryz.prog 71:=fun args w=>by kernel_rfl
def YN (s:(L.Sq Aj)):Prop:=s.n<=1000000
def YO (s:(L.Sq Aj)):SV:=.bool (G1 s)
def YP:List EV->Option (Prop×SV)
 |[.p (.sl 5 s_n s_g)]=>some ((∀i,i<s_n->s_g i = [.int .i64 ((CW (s_g i)).id),.int .i64 ((CW (s_g i)).colour),.int .i64 ((CW (s_g i)).w),.int .i64 ((CW (s_g i)).h),.int .i64 ((CW (s_g i)).grain)])/\YN (⟨s_n,fun i=>CW (s_g i)⟩:(L.Sq Aj)),YO (⟨s_n,fun i=>CW (s_g i)⟩:(L.Sq Aj)))
 |_=>none
abbrev YQ:SE.Spec:=(AK YP)
def Aav:Ak:={ cC with specs:=AB [(117,XD)] }
theorem Aaw (s:(L.Sq Aj)) (hp:YN s):vc Tryz.prog ({ Aav with loops:=AV [(2,{ T:=Nat,keep:=[0,5,6],keepO:=[],chg:=fun i=>[(7,.p (.int .i64 (i:Int)))],own:=fun _=>[],inv:=fun i=>i<=s.n/\∀j,j<i->CX (fun i=>BH (s.g i)) (fun i=>(s.g i).id) j=false,mu:=fun i=>s.n-i })],rfs:=AT [] }) (Ah Tryz.f72) (Ap Tryz.f72 [.p (.sl 5 s.n (fun i=>[.int .i64 ((s.g i).id),.int .i64 ((s.g i).colour),.int .i64 ((s.g i).w),.int .i64 ((s.g i).h),.int .i64 ((s.g i).grain)]))]) (AJ Tryz.prog Tryz.f72 (YO s)):=
  @Eq.mpr _ (let I:=SV.int .i64;let T:=Af1;let A8:=(0:Int);let A7:=(1:Int);let A6:=(↑s.n:Int);let A2:=(s.n=s.n/\∀(i:Nat),let A4:=[I (s.g i).id,I (s.g i).colour,I (s.g i).w,I (s.g i).h,I (s.g i).grain];i<s.n->A4=A4);(∃(g:Nat),A8=(↑g:Int)/\g<=s.n/\∀(j:Nat),j<g->CX (fun(i:Nat)=>BH (s.g i)) (fun(i:Nat)=>(s.g
 i).id) j=false)/\∀(g:Nat),let A3:=(↑g:Int);let A9:=(s.g (T A3));let A5:=(!!BH A9&&decide (A8<A3));let A1:=(bif !BH A9 then true else bif decide (A8<A3)then decide (A9.id<=(s.g (T (A3-A7))).id)else false);(g<=s.n/\∀(j:Nat),j<g->CX (fun(i:Nat)=>BH (s.g i)) (fun(i:Nat)=>(s.g i).id) j =
 false)->(decide (A3<A6)=true->(A8<=A3/\A3<A6)/\True/\(A5=true->Ad .i64 (A3-A7))/\(A5=true->A8<=A3-A7/\A3-A7<A6)/\(A1=true->false=G1 s)/\(A1=false->Ad .i64 (A3+A7)/\∃(g':Nat),A3+A7=(↑g':Int)/\A6=A6/\A2/\A2/\(g'<=s.n/\∀(j:Nat),j<g'->CX (fun(i
:Nat)=>BH (s.g i)) (fun(i:Nat)=>(s.g i).id) j=false)/\s.n-g'<s.n-g))/\(decide (A3<A6)=false->true=G1 s)) (by kernel_rfl) (by
 conv=>zeta
 have hn:s.n<=1000000:=hp;refine⟨⟨(0:Nat),rfl,Afg _,fun j hj=>absurd hj (Rc _)⟩,fun g hg=>⟨fun hlt=>?_,fun hge=>?_⟩⟩
 ·have hb:(g:Int)<(s.n:Int):=of_decide_eq_true hlt;have e0:((g:Int)).toNat=g:=Afy g;have e1:((g:Int)-1).toNat=g-1:=by omega
  rw[e0,e1];refine⟨⟨Af7 _,hb⟩,trivial,fun _=>jK,fun h=>?_,fun h=>?_,fun h=>?_⟩
  ·have:0<(g:Int):=of_decide_eq_true (AgK.1 h).2;omega
  ·exact(Qo (i:=g) (f:=fun i=>!CX (fun i=>BH (s.g i)) (fun i=>(s.g i).id) i) (by omega) (by show(!_)=false;rw[show CX (fun i=>BH (s.g i)) (fun i=>(s.g i).id) g=true from h];rfl)).symm
  ·refine⟨jK,g+1,rfl,rfl,⟨rfl,fun _ _=>rfl⟩,⟨rfl,fun _ _=>rfl⟩,⟨by omega,fun j hj=>?_⟩,by omega⟩;rcases Aft.1 hj with h'|rfl
   ·exact hg.2 j h'
   ·exact h
 ·have hb:¬ (g:Int)<(s.n:Int):=of_decide_eq_false hge;exact(CQ.2 (fun i hi=>by show(!_)=true;rw[hg.2 i (by omega)];rfl)).symm)
theorem Aax:Av Tryz.prog 72 YQ:=AM Tryz.func72 (c:=Ah Tryz.f72) (by kernel_rfl) mixed (fun args p r hs hp=>by
 unfold YP at hs;split at hs
 ·cases hs;exact⟨_,_,Aaw _ hp.2,(.p (.sl hp.1) .nil),⟨show Aa Tryz.prog _ from(Aa.cons xU xV Aa.nil),rfl,⟨show Ag Tryz.prog _ from Ag.nil,(Aw.none (fun _=>rfl))⟩⟩⟩
 ·cases hs)
theorem Aay:Ao Tryz.prog 72:=fun args w=>by kernel_rfl
def YR (w:(L.Sq Ab)) (s:(L.Sq Aj)) (r:Bool):Prop:=w.n<=1000000/\(∀i,i<w.n->(w.g i).ol.n<=1000000)/\s.n<=1000000
def YS (w:(L.Sq Ab)) (s:(L.Sq Aj)) (r:Bool):SV:=.int .i64 (CY w s r)
def YT:List EV->Option (Prop×SV)
 |[.p (.sl 4 w_n w_g),.p (.sl 5 s_n s_g),.p (.bool r)]=>some ((∀i,i<w_n->DD (w_g i))/\(∀i,i<s_n->s_g i = [.int .i64 ((CW (s_g i)).id),.int .i64 ((CW (s_g i)).colour),.int .i64 ((CW (s_g i)).w),.int .i64 ((CW (s_g i)).h),.int .i64 ((CW (s_g i)).grain)])/\YR (⟨w_n,fun i=>B6 (w_g i)⟩:(L.Sq Ab)) (⟨s_n,fun i=>CW (s_g i)⟩:(L.Sq Aj)) r,YS (⟨w_n,fun i=>B6 (w_g i)⟩:(L.Sq Ab)) (⟨s_n,fun i=>CW (s_g i)⟩:(L.Sq Aj)) r)
 |_=>none
abbrev N9:SE.Spec:=(AK YT)
def Aaz:Ak:={ cC with specs:=AB [(71,YM),(72,YQ)] }
theorem Aa0 (w:(L.Sq Ab)) (s:(L.Sq Aj)) (r:Bool) (hp:YR w s r):vc Tryz.prog (Aaz) (Ah Tryz.f32) (Ap Tryz.f32 [.p (.sl 4 w.n (fun i=>[.int .i64 ((w.g i).id),.int .i64 ((w.g i).colour),.int .i64 ((w.g i).grain),.sl 2 (w.g i).ol.n (fun i1=>[.int .i64 (((w.g i).ol.g i1).x),.int .i64 (((w.g i).ol.g i1).y)])])),.p (.sl 5 s.n (fun i=>[.int .i64 ((s.g i).id),.int .i64 ((s.g i).colour),.int .i64 ((s.g i).w),.int .i64 ((s.g i).h),.int .i64 ((s.g i).grain)])),.p (.bool r)]) (AJ Tryz.prog Tryz.f32 (YS w s r)):=
 @Eq.mpr _ (let I:=SV.int .i64;let A6:=(1000000:Nat);let A4:=(bif !G1 (L.Sq.mk s.n fun(i:Nat)=>s.g i)then true else !r);let A2:=(bif decide ((7:Int)<(↑w.n:Int))then true else decide ((7:Int)<(↑s.n:Int)));let A1:=(!Dj (L.Sq.mk w.n fun(i:Nat)=>Ab.mk (w.g i).id (w.g i).colour (w.g i).grain (L.Sq.mk (w.g i).ol.n fun(i_1:Nat)=>(w.g i).ol.g i_1)));((∀(i:Nat),i<w.n->∀(i_1:Nat),let A5:=((w.g i).ol.g i_1);i_1<(w.g i).ol.n -> [I A5.x,I A5.y]= [I A5.x,I A5.y])/\w.n<=A6/\∀(i:Nat),i<w.n->(w.g i).ol.n<=A6)/\(A1=true->(50:Int)=CY w s r)/\(A1=false->((∀(i:Nat),let A3:=[I (s.g i).id,I (s.g i).colour,I (s.g i).w,I (s.g i).h,I (s.g i).grain];i<s.n->A3=A3)/\s.n<=A6)/\(A4=true->(1:Int)=CY w s r)/\(A4=false->(A2=true->(2:Int)=CY w s r)/\(A2=false->(0:Int)=CY w s r)))) (by kernel_rfl) (by
 conv=>zeta
 obtain⟨hn,hol,hs⟩:=hp;refine⟨⟨fun _ _ _ _=>rfl,hn,hol⟩,fun h=>?_,fun h=>⟨⟨fun _ _=>rfl,hs⟩,fun h2=>?_,fun h2=>⟨fun h3=>?_,fun h3=>?_⟩⟩⟩
 ·have h:(!Dj w)=true:=h;unfold CY;rw[h];rfl
 all_goals have h:(!Dj w)=false:=h
 ·unfold CY;rw[h,h2];rfl
 ·unfold CY;rw[h,h2,h3];rfl
 ·unfold CY;rw[h,h2,h3];rfl)
theorem Qp:Av Tryz.prog 32 N9:=AM Tryz.func32 (c:=Ah Tryz.f32) (by kernel_rfl) mixed (fun args p r hs hp=>by
 unfold YT at hs;split at hs
 ·cases hs;exact⟨_,_,Aa0 _ _ _ hp.2.2,(.p (EP hp.1) (.p (.sl hp.2.1) (.same _ .nil))),⟨show Aa Tryz.prog _ from(Aa.cons Aat Aau (Aa.cons Aax Aay Aa.nil)),rfl,⟨show Ag Tryz.prog _ from Ag.nil,(Aw.none (fun _=>rfl))⟩⟩⟩
 ·cases hs)
theorem Qq:Ao Tryz.prog 32:=fun args w=>by kernel_rfl
def YU (l:(L.Sq Ac)):Prop:=l.n<=1000000
def YV (l:(L.Sq Ac)):Nat->Prop:=fun _=>True
def YW (l:(L.Sq Ac)):Nat->Nat:=fun _=>l.n
def YX (l:(L.Sq Ac)):Nat->Nat->List SV:=fun _ i=>[.int .i64 ((l.g i).w),.int .i64 ((l.g i).h)]
def YY:List EV->Option (Prop×(Nat->Prop)×(Nat->Nat)×(Nat->Nat->List SV))
 |[.p (.sl 2 l_n l_g)]=>some ((∀i,i<l_n->l_g i = [.int .i64 ((Cc (l_g i)).w),.int .i64 ((Cc (l_g i)).h)])/\YU (⟨l_n,fun i=>Cc (l_g i)⟩:(L.Sq Ac)),YV (⟨l_n,fun i=>Cc (l_g i)⟩:(L.Sq Ac)),YW (⟨l_n,fun i=>Cc (l_g i)⟩:(L.Sq Ac)),YX (⟨l_n,fun i=>Cc (l_g i)⟩:(L.Sq Ac)))
 |_=>none
abbrev YZ:SE.Spec:=(Gw Nat 0 74 2 YY)
def Aa1:Ak:={ cC with muts:=[5] }
theorem Aa2 (l:(L.Sq Ac)) (hp:YU l):vc Tryz.prog (Aa1) (Ah Tryz.f35) (Ap Tryz.f35 [.p (.sl 2 l.n (fun i=>[.int .i64 ((l.g i).w),.int .i64 ((l.g i).h)]))]) (Fv Tryz.prog Tryz.f35 (Nat) (YV l) 74 2 (YW l) (YX l)):=
 @Eq.mpr _ (∀(b:Bool),(b = !false->l.n=(0:Nat))->(b=true->∃(t:Nat),l.n=(0:Nat)/\True)/\(b=false->(nat_lit 0+l.n)*nat_lit 16<=(140737488355328:Nat)/\∃(t:Nat),(nat_lit 0+l.n=l.n/\∀(i:Nat),i<nat_lit 0+l.n->AU (nat_lit 0) (BX [] (nat_lit 2)) (fun(i:Nat)=>[SV.int .i64 (l.g i).w,SV.int .i64 (l.g i).h]) i = [SV.int .i64 (l.g i).w,SV.int .i64 (l.g i).h])/\True)) (by kernel_rfl) (by
 have hn:l.n<=1000000:=hp;refine fun b hb=>⟨fun h=>⟨(0:Nat),hb h,trivial⟩,fun h=>⟨show(0+l.n)*16<=140737488355328 by omega,(0:Nat),⟨Nat.zero_add _,fun i hi=>?_⟩,trivial⟩⟩;unfold AU;rw[if_neg (Rc _)];rfl)
theorem Aa3:Av Tryz.prog 35 YZ:=GK Tryz.func35 (c:=Ah Tryz.f35) (by kernel_rfl) mixed (fun args p q n g hs hp=>by
 unfold YY at hs;split at hs
 ·cases hs;exact⟨_,_,Aa2 _ hp.2,(.p (.sl hp.1) .nil),⟨show Aa Tryz.prog _ from Aa.nil,rfl,⟨show Ag Tryz.prog _ from Ag.nil,(Aw.none (fun _=>rfl))⟩⟩⟩
 ·cases hs)
theorem Aa4:Ao Tryz.prog 35:=fun args w=>by kernel_rfl
abbrev Jm:Mk:={ T:=(L.Sq Ab)×(Int)×(Int->Bool)×(Int)×(Ac),U:=Int->Bool,args:=fun t=>(fun w gr dom g r=>[.loc 1000 0,.p (.int .i64 g),.p ((.agg [.int .i64 r.w,.int .i64 r.h]))]) t.1 t.2.1 t.2.2.1 t.2.2.2.1 t.2.2.2.2,lkeys:=[1000,1001],keys:=[],lent:=fun t=>(fun w gr dom g r=>[(1000,.blk 130 [.p ((.sl 4 w.n (fun i=>[.int .i64 ((w.g i).id),.int .i64 ((w.g i).colour),.int .i64 ((w.g i).grain),.sl 2 (w.g i).ol.n (fun i1=>[.int .i64 (((w.g i).ol.g i1).x),.int .i64 (((w.g i).ol.g i1).y)])]))),.p (.int .i64 gr),.mapv 1001]),(1001,.mq 3 27 dom (Ai (Ae w gr)))]) t.1 t.2.1 t.2.2.1 t.2.2.2.1 t.2.2.2.2,pre:=fun t=>(fun w gr dom g r=>B7 w/\0<=g/\g<=Az w.n) t.1 t.2.1 t.2.2.1 t.2.2.2.1 t.2.2.2.2,post:=fun t u=>(fun w gr dom g r=>fun u=>True) t.1 t.2.1 t.2.2.1 t.2.2.2.1 t.2.2.2.2 u,lent':=fun t u=>(fun w gr dom g r=>fun u=>[(1000,.blk 130 [.p ((.sl 4 w.n (fun i=>[.int .i64 ((w.g i).id),.int .i64 ((w.g i).colour),.int .i64 ((w.g i).grain),.sl 2 (w.g i).ol.n (fun i1=>[.int .i64 (((w.g i).ol.g i1).x),.int .i64 (((w.g i).ol.g i1).y)])]))),.p (.int .i64 gr),.mapv 1001]),(1001,.mq 3 27 u (Ai (Ae w gr)))]) t.1 t.2.1 t.2.2.1 t.2.2.2.1 t.2.2.2.2 u,own:=fun t u=>(fun w gr dom g r=>fun u=>[]) t.1 t.2.1 t.2.2.1 t.2.2.2.1 t.2.2.2.2 u,res:=fun t u=>(fun w gr dom g r=>fun u=>.p (.bool (Cd w gr g r))) t.1 t.2.1 t.2.2.1 t.2.2.2.1 t.2.2.2.2 u }
theorem Aa5 (w:L.Sq Ab) (gr:Int) (dom:Int->Bool) (g:Int) (r:Ac) (hp:Jm.pre (w,gr,dom,g,r)):vc Tryz.prog ({ cC with specs:=AB [(82,YF),(83,YI)],mks:=El [(36,HL)],ren:=fun k=>k }) (Ah Tryz.f41) (D7 Tryz.f41 (Jm.args (w,gr,dom,g,r)) (Jm.lent (w,gr,dom,g,r))) (Fx Tryz.prog Tryz.f41 Jm (w,gr,dom,g,r)):=
 @Eq.mpr _ (let I:=SV.int .i64;let A7:=(2:Nat);let A3:=[SV.ref [I (w,gr,dom,g,r).snd.snd.snd.snd.w,I (w,gr,dom,g,r).snd.snd.snd.snd.h] (nat_lit 0)];let A1:=(BV.mk (fun(«as»:List SV)=>Fw Kq (Ago EV.p «as» ++ Ago EV.p A3)) fun(«as»:List SV)=>GI Kq (Ago EV.p «as» ++ Ago EV.p A3));∃(t:L.Sq Ab×Int×(Int->Bool)×Int),let A2:=(Ae t.1 t.2.1 t.snd.2.2);nat_lit 0=(0:Nat)/\g=t.snd.2.2/\(w.n=t.1.n/\∀(i:Nat),let A4:=(t.1.g i);i<w.n -> [I (w.g i).id,I (w.g i).colour,I (w.g i).grain,SV.sl A7 (w.g i).ol.n fun(i1:Nat)=>[I ((w.g i).ol.g i1).x,I ((w.g i).ol.g i1).y]]= [I A4.id,I A4.colour,I A4.grain,SV.sl A7 A4.ol.n fun(i1:Nat)=>[I (A4.ol.g i1).x,I (A4.ol.g i1).y]])/\gr=t.2.1/\(∀(x:Int),dom x=t.snd.2.1 x)/\(∀(x:Int),dom x=true->Ai (Ae w gr) x=Ai (Ae t.1 t.2.1) x)/\(B7 t.1/\(0:Int)<=t.snd.2.2/\t.snd.2.2<=Az t.1.n)/\∀(u:Int->Bool),True->((∀(i:Nat),let A6:=[I (A2.g i).w,I (A2.g i).h];i<A2.n->A6=A6)/\FD A1/\A2.n<=(1000000:Nat)/\∀(i:Nat),i<A2.n->True)/\∃(u_1:Int->Bool),(Cl A2.n fun(i:Nat)=>Bt A1 [SV.agg [I (A2.g i).w,I (A2.g i).h]])=Cd w gr g r/\(t.1.n=w.n/\∀(i:Nat),let A5:=(t.1.g i);i<t.1.n -> [I A5.id,I A5.colour,I A5.grain,SV.sl A7 A5.ol.n fun(i1:Nat)=>[I (A5.ol.g i1).x,I (A5.ol.g i1).y]]= [I (w.g i).id,I (w.g i).colour,I (w.g i).grain,SV.sl A7 (w.g i).ol.n fun(i1:Nat)=>[I ((w.g i).ol.g i1).x,I ((w.g i).ol.g i1).y]])/\t.2.1=gr/\(∀(x:Int),u x=u_1 x)/\(∀(x:Int),u x=true->Ai (Ae t.1 t.2.1) x=Ai (Ae w gr) x)/\True) (by kernel_rfl) (by
 conv=>zeta
 have hp:B7 w/\0<=g/\g<=Az w.n:=hp;have hl:(AW w gr g).length<=1000000:=AfI (Hv w gr hp.2.1 (Ag0 hp.2.2 (N5 hp.1.1))) (by decide);exact⟨(w,gr,dom,g),rfl,rfl,⟨rfl,fun _ _=>rfl⟩,rfl,fun _=>rfl,fun _ _=>rfl,hp,fun u _=>⟨⟨fun _ _=>rfl,Pl Aaq _,hl,fun _ _=>trivial⟩,u,rfl,⟨rfl,fun _ _=>rfl⟩,rfl,fun _=>rfl,fun _ _=>rfl,trivial⟩⟩)
theorem Qr:Ao Tryz.prog 41:=fun args w=>by kernel_rfl
theorem Qs:Dq Tryz.prog 41 Jm:=FE (n:=3) Tryz.func41 (c:=Ah Tryz.f41) (by kernel_rfl) mixed ⟨fun t=>rfl,fun t=>rfl,fun t u=>rfl,fun t u=>rfl,fun t u=>rfl,fun t u=>⟨rfl,rfl⟩,by kernel_rfl,by kernel_rfl⟩ (fun⟨w,gr,dom,g,r⟩ hp=>⟨_,Aa5 w gr dom g r hp,⟨show Aa Tryz.prog _ from(Aa.cons Aak Aal (Aa.cons Aao Aap Aa.nil)),rfl,⟨show Ag Tryz.prog _ from Ag.nil,⟨Aw.no1 (fun _=>rfl),⟨show Bm Tryz.prog _ from(Bm.cons Y7 Qm Bm.nil),FamsOk.none (fun _=>rfl)⟩⟩⟩⟩⟩)
def Za (w:(L.Sq Ab)) (gr:Int):Prop:=Dz w
def Zb (w:(L.Sq Ab)) (gr:Int):SV:=.tup [.sl 2 (Ea w gr) (fun k=>[.int .i64 (((Ae w gr (Az w.n)).g k).w),.int .i64 (((Ae w gr (Az w.n)).g k).h)]),.int .i64 (Ds w gr)]
def Zc:List EV->Option (Prop×SV)
 |[.p (.sl 4 w_n w_g),.p (.int .i64 gr)]=>some ((∀i,i<w_n->DD (w_g i))/\Za (⟨w_n,fun i=>B6 (w_g i)⟩:(L.Sq Ab)) gr,Zb (⟨w_n,fun i=>B6 (w_g i)⟩:(L.Sq Ab)) gr)
 |_=>none
abbrev Qt:SE.Spec:=(AK Zc)
def Aa6:Ak:={ cC with specs:=AB [(33,L9),(32,N9),(35,YZ)],mks:=El [(34,HK),(37,Iq),(36,HL)],ren:=fun k=>if k=1000 then 9 else if k=1001 then 7 else k }
theorem Aa7 (w:(L.Sq Ab)) (gr:Int) (hp:Za w gr):vc Tryz.prog (Aa6) (Ah Tryz.f8) (Ap Tryz.f8 [.p (.sl 4 w.n (fun i=>[.int .i64 ((w.g i).id),.int .i64 ((w.g i).colour),.int .i64 ((w.g i).grain),.sl 2 (w.g i).ol.n (fun i1=>[.int .i64 (((w.g i).ol.g i1).x),.int .i64 (((w.g i).ol.g i1).y)])])),.p (.int .i64 gr)]) (AJ Tryz.prog Tryz.f8 (Zb w gr)):=
 @Eq.mpr _ (let I:=SV.int .i64;let A10:=(2:Nat);let A9:=(1000000:Nat);let A4:=(0:Int);let A16:=(Ay gr A4 (2:Int));let A5:=(L.Sq.mk (nat_lit 0) fun(i:Nat)=>Aj.mk A4 A4 A4 A4 A4);let A3:=(L.Sq.mk w.n fun(i:Nat)=>Ab.mk (w.g i).id (w.g i).colour (w.g i).grain (L.Sq.mk (w.g i).ol.n fun(i_1:Nat)=>(w.g i).ol.g i_1));let A1:=(!decide (CY A3 A5 A16=A4));True/\((∀(i:Nat),i<w.n->∀(i_1:Nat),let A6:=((w.g i).ol.g i_1);i_1<(w.g i).ol.n -> [I A6.x,I A6.y]= [I A6.x,I A6.y])/\(∀(i:Nat),i<nat_lit 0 -> []= [I A4,I A4,I A4,I A4,I A4])/\w.n<=A9/\(∀(i:Nat),i<w.n->(w.g i).ol.n<=A9)/\nat_lit 0<=A9)/\(A1=true->Ea w gr=(0:Nat)/\CY A3 A5 A16=Ds w gr)/\(A1=false->∃(t:L.Sq Ab×Int×(Int->L.Sq Ac)),(w.n=t.1.n/\∀(i:Nat),let A11:=(t.1.g i);i<w.n -> [I (w.g i).id,I (w.g i).colour,I (w.g i).grain,SV.sl A10 (w.g i).ol.n fun(i1:Nat)=>[I ((w.g i).ol.g i1).x,I ((w.g i).ol.g i1).y]]= [I A11.id,I A11.colour,I A11.grain,SV.sl A10 A11.ol.n fun(i1:Nat)=>[I (A11.ol.g i1).x,I (A11.ol.g i1).y]])/\gr=t.2.1/\True/\∀(u:Nat),True->∃(t_1:L.Sq Ab×Int×(Int->L.Sq Ac)×(Int->Bool)),nat_lit 0=(0:Nat)/\(t.1.n=t_1.1.n/\∀(i:Nat),let A12:=(t.1.g i);let A7:=(t_1.1.g i);i<t.1.n -> [I A12.id,I A12.colour,I A12.grain,SV.sl A10 A12.ol.n fun(i1:Nat)=>[I (A12.ol.g i1).x,I (A12.ol.g i1).y]]= [I A7.id,I A7.colour,I A7.grain,SV.sl A10 A7.ol.n fun(i1:Nat)=>[I (A7.ol.g i1).x,I (A7.ol.g i1).y]])/\t.2.1=t_1.2.1/\(∀(x:Int),false=t_1.snd.2.2 x)/\(∀(x:Int),false=true->Ai t.2.2 x=Ai t_1.snd.2.1 x)/\t_1.1.n<=(4:Nat)/\∀(u:Nat),True->∃(t:L.Sq Ab×Int×(Int->Bool)×Int),let A2:=(Ae t.1 t.2.1 t.snd.2.2);nat_lit 0=(0:Nat)/\Az t_1.1.n=t.snd.2.2/\(t_1.1.n=t.1.n/\∀(i:Nat),let A13:=(t.1.g i);let A8:=(t_1.1.g i);i<t_1.1.n -> [I A8.id,I A8.colour,I A8.grain,SV.sl A10 A8.ol.n fun(i1:Nat)=>[I (A8.ol.g i1).x,I (A8.ol.g i1).y]]= [I A13.id,I A13.colour,I A13.grain,SV.sl A10 A13.ol.n fun(i1:Nat)=>[I (A13.ol.g i1).x,I (A13.ol.g i1).y]])/\t_1.2.1=t.2.1/\(∀(x:Int),t_1.snd.2.2 x=t.snd.2.1 x)/\(∀(x:Int),t_1.snd.2.2 x=true->Ai t_1.snd.2.1 x=Ai (Ae t.1 t.2.1) x)/\(B7 t.1/\A4<=t.snd.2.2/\t.snd.2.2<=Az t.1.n)/\∀(u:Int->Bool),True->((∀(i:Nat),let A15:=[I (A2.g i).w,I (A2.g i).h];i<A2.n->A15=A15)/\A2.n<=A9)/\∀(t_2:Nat),True->(A2.n=Ea w gr/\∀(i:Nat),let A14:=((Ae w gr (Az w.n)).g i);i<A2.n -> [I (A2.g i).w,I (A2.g i).h]= [I A14.w,I A14.h])/\A4=Ds w gr)) (by kernel_rfl) (by
 conv=>zeta
 have hp:Dz w:=hp;refine⟨trivial,⟨fun _ _ _ _=>rfl,fun i hi=>absurd hi (Rc _),hp.2.1,hp.2.2,Afg _⟩,fun h=>?_,fun h=>?_⟩
 ·have h:¬ Ds w gr=0:=of_decide_eq_false (Cx h);exact⟨by unfold Ea;rw[decide_eq_false h];rfl,rfl⟩
 ·have h:Ds w gr=0:=of_decide_eq_true (Ca h);obtain⟨-,-,-,h7,-⟩:=Kp h;have ok:=Hw hp h7;have a15:=G0 ok.1;have hl:(AW w gr (Az w.n)).length<=1000000:=AfI (Hv w gr a15.1 a15.2.1) (by decide);exact⟨(w,gr,Ae w gr),⟨rfl,fun _ _=>rfl⟩,rfl,trivial,fun _ _=>⟨(w,gr,Ae w gr,fun _=>false),rfl,⟨rfl,fun _ _=>rfl⟩,rfl,fun _=>rfl,fun _ _=>rfl,ok.1,fun _ _=>⟨(w,gr,(fun _=>false),Az w.n),rfl,rfl,⟨rfl,fun _ _=>rfl⟩,rfl,fun _=>rfl,fun _ _=>rfl,⟨ok,a15.1,Af4 _⟩,fun u _=>⟨⟨fun _ _=>rfl,hl⟩,fun _ _=>⟨⟨by unfold Ea;rw[decide_eq_true h];rfl,fun _ _=>rfl⟩,h.symm⟩⟩⟩⟩⟩)
theorem Zd:Av Tryz.prog 8 Qt:=AM Tryz.func8 (c:=Ah Tryz.f8) (by kernel_rfl) mixed (fun args p r hs hp=>by
 unfold Zc at hs;split at hs
 ·cases hs;exact⟨_,_,Aa7 _ _ hp.2,(.p (EP hp.1) (.same _ .nil)),⟨show Aa Tryz.prog _ from(Aa.cons Nv Nw (Aa.cons Qp Qq (Aa.cons Aa3 Aa4 Aa.nil))),rfl,⟨show Ag Tryz.prog _ from Ag.nil,⟨Aw.no1 (fun _=>rfl),⟨show Bm Tryz.prog _ from(Bm.cons N0 Nz (Bm.cons Qd Qc (Bm.cons Y7 Qm Bm.nil))),FamsOk.none (fun _=>rfl)⟩⟩⟩⟩⟩
 ·cases hs)
theorem Ze:Ao Tryz.prog 8:=fun args w=>by kernel_rfl
def Zf (w:(L.Sq Ab)) (s:Aj):Prop:=Dz w
def Zg (w:(L.Sq Ab)) (s:Aj):SV:=.tup [.bool (CZ w s),.int .i64 (BO w s)]
def Zh:List EV->Option (Prop×SV)
 |[.p (.sl 4 w_n w_g),.p (.agg [.int .i64 s_id,.int .i64 s_colour,.int .i64 s_w,.int .i64 s_h,.int .i64 s_grain])]=>some ((∀i,i<w_n->DD (w_g i))/\Zf (⟨w_n,fun i=>B6 (w_g i)⟩:(L.Sq Ab)) (⟨s_id,s_colour,s_w,s_h,s_grain⟩:Aj),Zg (⟨w_n,fun i=>B6 (w_g i)⟩:(L.Sq Ab)) (⟨s_id,s_colour,s_w,s_h,s_grain⟩:Aj))
 |_=>none
abbrev Qu:SE.Spec:=(AK Zh)
def Aa8:Ak:={ cC with specs:=AB [(32,N9)],anys:=[1005],mks:=El [(34,HK),(37,Iq),(41,Jm)],ren:=fun k=>if k=1000 then 9 else if k=1001 then 7 else k }
theorem Aa9 (w:(L.Sq Ab)) (s:Aj) (hp:Zf w s):vc Tryz.prog (Aa8) (Ah Tryz.f10) (Ap Tryz.f10 [.p (.sl 4 w.n (fun i=>[.int .i64 ((w.g i).id),.int .i64 ((w.g i).colour),.int .i64 ((w.g i).grain),.sl 2 (w.g i).ol.n (fun i1=>[.int .i64 (((w.g i).ol.g i1).x),.int .i64 (((w.g i).ol.g i1).y)])])),.p (.agg [.int .i64 s.id,.int .i64 s.colour,.int .i64 s.w,.int .i64 s.h,.int .i64 s.grain])]) (AJ Tryz.prog Tryz.f10 (Zg w s)):=
 @Eq.mpr _ (let I:=SV.int .i64;let A19:=(0:Nat);let A18:=(1000000:Nat);let A17:=(0:Int);let A11:=(L.Sq.mk (nat_lit 1) fun(i:Nat)=>s);let A6:=[I s.id,I s.colour,I s.w,I s.h,I s.grain];let A4:=(2:Nat);let A2:=(L.Sq.mk w.n fun(i:Nat)=>Ab.mk (w.g i).id (w.g i).colour (w.g i).grain (L.Sq.mk (w.g i).ol.n fun(i_1:Nat)=>(w.g i).ol.g i_1));let A3:=(!decide (CY A2 A11 true=A17));((∀(i:Nat),i<w.n->∀(i_1:Nat),let A5:=((w.g i).ol.g i_1);i_1<(w.g i).ol.n -> [I A5.x,I A5.y]= [I A5.x,I A5.y])/\(∀(i:Nat),i<nat_lit 1->A6=A6)/\w.n<=A18/\(∀(i:Nat),i<w.n->(w.g i).ol.n<=A18)/\nat_lit 1<=A18)/\(A3=true->false=CZ w s/\CY A2 A11 true=BO w s)/\(A3=false->∃(t:L.Sq Ab×Int×(Int->L.Sq Ac)),(w.n=t.1.n/\∀(i:Nat),let A12:=(t.1.g i);i<w.n -> [I (w.g i).id,I (w.g i).colour,I (w.g i).grain,SV.sl A4 (w.g i).ol.n fun(i1:Nat)=>[I ((w.g i).ol.g i1).x,I ((w.g i).ol.g i1).y]]= [I A12.id,I A12.colour,I A12.grain,SV.sl A4 A12.ol.n fun(i1:Nat)=>[I (A12.ol.g i1).x,I (A12.ol.g i1).y]])/\s.grain=t.2.1/\True/\∀(u:Nat),let A1:=(∃(t_1:L.Sq Ab×Int×(Int->L.Sq Ac)×(Int->Bool)),nat_lit 0=A19/\(t.1.n=t_1.1.n/\∀(i:Nat),let A13:=(t.1.g i);let A7:=(t_1.1.g i);i<t.1.n -> [I A13.id,I A13.colour,I A13.grain,SV.sl A4 A13.ol.n fun(i1:Nat)=>[I (A13.ol.g i1).x,I (A13.ol.g i1).y]]= [I A7.id,I A7.colour,I A7.grain,SV.sl A4 A7.ol.n fun(i1:Nat)=>[I (A7.ol.g i1).x,I (A7.ol.g i1).y]])/\t.2.1=t_1.2.1/\(∀(x:Int),false=t_1.snd.2.2 x)/\(∀(x:Int),false=true->Ai t.2.2 x=Ai t_1.snd.2.1 x)/\t_1.1.n<=(4:Nat)/\∀(u:Nat),True->∃(t:L.Sq Ab×Int×(Int->Bool)×Int×Ac),nat_lit 0=A19/\Az t_1.1.n=t.snd.snd.2.1/\SV.agg [I s.w,I s.h]=SV.agg [I t.snd.snd.2.2.w,I t.snd.snd.2.2.h]/\(t_1.1.n=t.1.n/\∀(i:Nat),let A14:=(t.1.g i);let A8:=(t_1.1.g i);i<t_1.1.n -> [I A8.id,I A8.colour,I A8.grain,SV.sl A4 A8.ol.n fun(i1:Nat)=>[I (A8.ol.g i1).x,I (A8.ol.g i1).y]]= [I A14.id,I A14.colour,I A14.grain,SV.sl A4 A14.ol.n fun(i1:Nat)=>[I (A14.ol.g i1).x,I (A14.ol.g i1).y]])/\t_1.2.1=t.2.1/\(∀(x:Int),t_1.snd.2.2 x=t.snd.2.1 x)/\(∀(x:Int),t_1.snd.2.2 x=true->Ai t_1.snd.2.1 x=Ai (Ae t.1 t.2.1) x)/\(B7 t.1/\A17<=t.snd.snd.2.1/\t.snd.snd.2.1<=Az t.1.n)/\∀(u:Int->Bool),True->Cd t.1 t.2.1 t.snd.snd.2.1 t.snd.snd.2.2=CZ w s/\A17=BO w s);True->A1/\A1/\A1/\A1/\A1/\A1/\A1/\A1/\A1/\∃(t_1:L.Sq Ab×Int×(Int->L.Sq Ac)×(Int->Bool)),nat_lit 0=A19/\(t.1.n=t_1.1.n/\∀(i:Nat),let A15:=(t.1.g i);let A9:=(t_1.1.g i);i<t.1.n -> [I A15.id,I A15.colour,I A15.grain,SV.sl A4 A15.ol.n fun(i1:Nat)=>[I (A15.ol.g i1).x,I (A15.ol.g i1).y]]= [I A9.id,I A9.colour,I A9.grain,SV.sl A4 A9.ol.n fun(i1:Nat)=>[I (A9.ol.g i1).x,I (A9.ol.g i1).y]])/\t.2.1=t_1.2.1/\(∀(x:Int),false=t_1.snd.2.2 x)/\(∀(x:Int),false=true->Ai t.2.2 x=Ai t_1.snd.2.1 x)/\t_1.1.n<=(4:Nat)/\∀(u:Nat),True->∃(t:L.Sq Ab×Int×(Int->Bool)×Int×Ac),nat_lit 0=A19/\Az t_1.1.n=t.snd.snd.2.1/\SV.agg [I s.w,I s.h]=SV.agg [I t.snd.snd.2.2.w,I t.snd.snd.2.2.h]/\(t_1.1.n=t.1.n/\∀(i:Nat),let A16:=(t.1.g i);let A10:=(t_1.1.g i);i<t_1.1.n -> [I A10.id,I A10.colour,I A10.grain,SV.sl A4 A10.ol.n fun(i1:Nat)=>[I (A10.ol.g i1).x,I (A10.ol.g i1).y]]= [I A16.id,I A16.colour,I A16.grain,SV.sl A4 A16.ol.n fun(i1:Nat)=>[I (A16.ol.g i1).x,I (A16.ol.g i1).y]])/\t_1.2.1=t.2.1/\(∀(x:Int),t_1.snd.2.2 x=t.snd.2.1 x)/\(∀(x:Int),t_1.snd.2.2 x=true->Ai t_1.snd.2.1 x=Ai (Ae t.1 t.2.1) x)/\(B7 t.1/\A17<=t.snd.snd.2.1/\t.snd.snd.2.1<=Az t.1.n)/\∀(u:Int->Bool),True->Cd t.1 t.2.1 t.snd.snd.2.1 t.snd.snd.2.2=CZ w s/\A17=BO w s)) (by kernel_rfl) (by
 conv=>zeta
 have hp:Dz w:=hp;refine⟨⟨fun _ _ _ _=>rfl,fun _ _=>rfl,hp.2.1,hp.2.2,by decide⟩,fun h=>?_,fun h=>?_⟩
 ·have h:¬ BO w s=0:=of_decide_eq_false (Cx h);exact⟨by unfold CZ;rw[decide_eq_false h];rfl,rfl⟩
 ·have h:BO w s=0:=of_decide_eq_true (Ca h);obtain⟨-,-,-,h7,-⟩:=Kp h;have ok:=Hw hp h7;have a15:=G0 ok.1;have hb:Cd w s.grain (Az w.n) ⟨s.w,s.h⟩=CZ w s:=by unfold CZ;rw[decide_eq_true h];rfl
  refine⟨(w,s.grain,Ae w s.grain),⟨rfl,fun _ _=>rfl⟩,rfl,trivial,fun _ _=>?_⟩
  repeat' apply And.intro
  all_goals exact⟨(w,s.grain,Ae w s.grain,fun _=>false),rfl,⟨rfl,fun _ _=>rfl⟩,rfl,fun _=>rfl,fun _ _=>rfl,ok.1,fun _ _=>⟨(w,s.grain,(fun _=>false),Az w.n,⟨s.w,s.h⟩),rfl,rfl,rfl,⟨rfl,fun _ _=>rfl⟩,rfl,fun _=>rfl,fun _ _=>rfl,⟨ok,a15.1,Af4 _⟩,fun u _=>⟨hb,h.symm⟩⟩⟩)
theorem Zi:Av Tryz.prog 10 Qu:=AM Tryz.func10 (c:=Ah Tryz.f10) (by kernel_rfl) mixed (fun args p r hs hp=>by
 unfold Zh at hs;split at hs
 ·cases hs;exact⟨_,_,Aa9 _ _ hp.2,(.p (EP hp.1) (.same _ .nil)),⟨show Aa Tryz.prog _ from(Aa.cons Qp Qq Aa.nil),rfl,⟨show Ag Tryz.prog _ from Ag.nil,⟨Aw.no1 (fun _=>rfl),⟨show Bm Tryz.prog _ from(Bm.cons N0 Nz (Bm.cons Qd Qc (Bm.cons Qs Qr Bm.nil))),FamsOk.none (fun _=>rfl)⟩⟩⟩⟩⟩
 ·cases hs)
theorem Zj:Ao Tryz.prog 10:=fun args w=>by kernel_rfl
end Go.Proofs.YtijidjjfkahojaaGreat
