/- A symbolic walk over the model, and what it shows of functions of the program: parts of the proof that the text of the row joins. -/
import Derived.Test.YtijidjjfkahojaaGreatW2
import Derived.Test.YtijidjjfkahojaaGreatE5
import Derived.KernelRfl
open List renaming getD_eq_getElem?_getD->AS,getElem?_eq_getElem->AdH,mem_filter->AdK,all_eq_true->AdO,range->AdP,mem_range->AdQ,mem_cons->AdR,mem_singleton->AdY,getElem_mem->Aeg,getElem?_append_left->Aeh,getElem?_append_right->Aej,getElem_of_mem->Aem,mem_flatMap->Aex,append_nil->AeA,append_assoc->AeG,pairwise_iff_getElem->AeV,any_eq_true->AeY,range_succ->Afb,length_filter_le->Afe,filter_append->Afo,flatMap_append->Afu,take_length->Afz,take_add_one->Af1
open Nat renaming not_lt_zero->nT,zero_le->AdL,le_refl->AdS,lt_succ_iff_lt_or_eq->AdZ,le_trans->Aeu
open Bool renaming and_eq_true->oE,or_eq_true->Aen,and_eq_true_iff->Afg
open Option renaming none->AdV
open Int renaming toNat_natCast->Aea,natCast_nonneg->Aec,toNat->Aee,le_refl->Ael,eq_ofNat_of_zero_le->Aev
namespace Go.Proofs.YtijidjjfkahojaaGreat
open Go.SE Go.RowKit
set_option maxRecDepth 100000
set_option maxHeartbeats 4000000
set_option linter.unusedVariables false
attribute [local irreducible] vc
def Y4 (l:List (Int×Int)):L.Sq L.Pt:=⟨l.length,fun i=>⟨(l.getD i (0,0)).1,(l.getD i (0,0)).2⟩⟩
def Cz:Ab:=⟨1,1,0,Y4 [(0,0),(8,0),(8,4),(4,3),(0,4)]⟩
def CY:Ab:=⟨2,1,0,Y4 [(0,0),(6,0),(6,2),(0,2)]⟩
def D8 (a:Nat) (b:Int):Bool:=decide (b<(a:Int))
def JO (a:Nat) (b:Int):Bool:=decide ((a:Int)<=b)
def JP (a b:Nat):Bool:=bif bif bif bif D8 a 4 then JO a 7 else false then true else D8 a 20 then true else bif D8 b 4 then JO b 7 else false then true else D8 b 20
def FG (w:L.Sq Ab) (s:L.Sq Ah):Bool:=bif JP w.n s.n then false else CX w.n fun i=>!D8 (w.g i).ol.n 60
def Y5 :Prop:=True
def Y6 :SV:=(.agg [.int .i64 Cz.id,.int .i64 Cz.colour,.int .i64 Cz.grain,.sl 2 Cz.ol.n (fun i=>[.int .i64 ((Cz.ol.g i).x),.int .i64 ((Cz.ol.g i).y)])])
def Y7:List EV->Option (Prop×SV)
 |[]=>some (Y5 , Y6 )
 |_=>none
abbrev Y8:SE.Spec:=(AI Y7)
def yZ:Al:={ cC with muts:=[0] }
theorem zA  (hp:Y5):vc Tryz.prog (yZ) (Ai Tryz.f30) (Au Tryz.f30 []) (AH Tryz.prog Tryz.f30 (Y6 )):=
 @Eq.mpr _ (let I:=SV.int .i64;let A1:=(0:Int);(1:Int)=Cz.id/\(1:Int)=Cz.colour/\A1=Cz.grain/\nat_lit 5=nat_lit 5/\∀(i:Nat),i<nat_lit 5->Ce [I A1,I A1,I (8:Int),I A1,I (8:Int),I (4:Int),I (4:Int),I (3:Int),I A1,I (4:Int)] (nat_lit 2) i = [I (Cz.ol.g i).x,I (Cz.ol.g i).y]) (by kernel_rfl) (by
 conv=>zeta
 refine⟨rfl,rfl,rfl,rfl,fun i hi=>?_⟩
 match i,hi with
 |0,_=>rfl
 |1,_=>rfl
 |2,_=>rfl
 |3,_=>rfl
 |4,_=>rfl)
theorem zB:Ax Tryz.prog 30 Y8:=AK Tryz.func30 (c:=Ai Tryz.f30) (by kernel_rfl) mixed (fun args p r hs hp=>by
 unfold Y7 at hs;split at hs
 ·cases hs;exact⟨_,_,zA  hp,.nil,⟨show Aa Tryz.prog _ from Aa.nil,rfl,⟨show Af Tryz.prog _ from Af.nil,(AA.none (fun _=>rfl))⟩⟩⟩
 ·cases hs)
theorem zC:As Tryz.prog 30:=fun args w=>by kernel_rfl
def Y9 :Prop:=True
def YA :SV:=(.agg [.int .i64 CY.id,.int .i64 CY.colour,.int .i64 CY.grain,.sl 2 CY.ol.n (fun i=>[.int .i64 ((CY.ol.g i).x),.int .i64 ((CY.ol.g i).y)])])
def YB:List EV->Option (Prop×SV)
 |[]=>some (Y9 , YA )
 |_=>none
abbrev YC:SE.Spec:=(AI YB)
def zD:Al:={ cC with muts:=[0] }
theorem zF  (hp:Y9):vc Tryz.prog (zD) (Ai Tryz.f31) (Au Tryz.f31 []) (AH Tryz.prog Tryz.f31 (YA )):=
 @Eq.mpr _ (let I:=SV.int .i64;let A1:=(0:Int);(2:Int)=CY.id/\(1:Int)=CY.colour/\A1=CY.grain/\nat_lit 4=nat_lit 4/\∀(i:Nat),i<nat_lit 4->Ce [I A1,I A1,I (6:Int),I A1,I (6:Int),I (2:Int),I A1,I (2:Int)] (nat_lit 2) i = [I (CY.ol.g i).x,I (CY.ol.g i).y]) (by kernel_rfl) (by
 conv=>zeta
 refine⟨rfl,rfl,rfl,rfl,fun i hi=>?_⟩
 match i,hi with
 |0,_=>rfl
 |1,_=>rfl
 |2,_=>rfl
 |3,_=>rfl)
theorem zG:Ax Tryz.prog 31 YC:=AK Tryz.func31 (c:=Ai Tryz.f31) (by kernel_rfl) mixed (fun args p r hs hp=>by
 unfold YB at hs;split at hs
 ·cases hs;exact⟨_,_,zF  hp,.nil,⟨show Aa Tryz.prog _ from Aa.nil,rfl,⟨show Af Tryz.prog _ from Af.nil,(AA.none (fun _=>rfl))⟩⟩⟩
 ·cases hs)
theorem zH:As Tryz.prog 31:=fun args w=>by kernel_rfl
def YD (w:(L.Sq Ab)) (s:(L.Sq Ah)):Prop:=True
def YE (w:(L.Sq Ab)) (s:(L.Sq Ah)):SV:=.bool (FG w s)
def YF:List EV->Option (Prop×SV)
 |[.p (.sl 4 w_n w_g),.p (.sl 5 s_n s_g)]=>some ((∀i,i<w_n->Dn (w_g i))/\(∀i,i<s_n->s_g i = [.int .i64 ((AQ (s_g i)).id),.int .i64 ((AQ (s_g i)).colour),.int .i64 ((AQ (s_g i)).w),.int .i64 ((AQ (s_g i)).h),.int .i64 ((AQ (s_g i)).grain)])/\YD (⟨w_n,fun i=>Bx (w_g i)⟩:(L.Sq Ab)) (⟨s_n,fun i=>AQ (s_g i)⟩:(L.Sq Ah)),YE (⟨w_n,fun i=>Bx (w_g i)⟩:(L.Sq Ab)) (⟨s_n,fun i=>AQ (s_g i)⟩:(L.Sq Ah)))
 |_=>none
abbrev YG:SE.Spec:=(AI YF)
def zI:Al:={ muts:=[],frz:=B8 [],specs:=AC [],loops:=fun _=>none,iters:=B3 [],rfs:=AP [],nils:=B6 [] }
theorem zJ (w:(L.Sq Ab)) (s:(L.Sq Ah)) (hp:YD w s):vc Tryz.prog ({ zI with loops:=AT [(4,{ T:=Nat,keep:=[0],keepO:=[],chg:=fun i=>[(5,.p (.int .i64 (i:Int)))],own:=fun _=>[],inv:=fun i=>i<=w.n/\∀j,j<i->D8 (w.g j).ol.n 60=false,mu:=fun i=>w.n-i })],rfs:=AP [] }) (Ai Tryz.f7) (Au Tryz.f7 [.p (.sl 4 w.n (fun i=>[.int .i64 ((w.g i).id),.int .i64 ((w.g i).colour),.int .i64 ((w.g i).grain),.sl 2 (w.g i).ol.n (fun i1=>[.int .i64 (((w.g i).ol.g i1).x),.int .i64 (((w.g i).ol.g i1).y)])])),.p (.sl 5 s.n (fun i=>[.int .i64 ((s.g i).id),.int .i64 ((s.g i).colour),.int .i64 ((s.g i).w),.int .i64 ((s.g i).h),.int .i64 ((s.g i).grain)]))]) (AH Tryz.prog Tryz.f7 (YE w s)):=
 @Eq.mpr _ (let I:=SV.int .i64;let A7:=(↑s.n:Int);let A6:=(60:Int);let A4:=(↑w.n:Int);let A1:=(bif bif bif bif decide ((4:Int)<A4)then decide (A4<=(7:Int))else false then true else decide ((20:Int)<A4)then true else bif decide ((4:Int)<A7)then decide (A7<=(7:Int))else false then true else decide ((20:Int)<A7));(A1=true->false=FG w s)/\(A1=false->(∃(g:Nat),(0:Int)=(↑g:Int)/\g<=w.n/\∀(j:Nat),j<g->D8 (w.g j).ol.n A6=false)/\∀(g:Nat),let A3:=(↑g:Int);let A5:=(↑(w.g (Aee A3)).ol.n:Int);(g<=w.n/\∀(j:Nat),j<g->D8 (w.g j).ol.n A6=false)->(decide (A3<A4)=true->((0:Int)<=A3/\A3<A4)/\(decide (A6<A5)=true->false=FG w s)/\(decide (A6<A5)=false->Ad .i64 (A3+(1:Int))/\∃(g':Nat),A3+(1:Int)=(↑g':Int)/\(w.n=w.n/\∀(i:Nat),let A2:=[I (w.g i).id,I (w.g i).colour,I (w.g i).grain,SV.sl (2:Nat) (w.g i).ol.n fun(i1:Nat)=>[I ((w.g i).ol.g i1).x,I ((w.g i).ol.g i1).y]];i<w.n->A2=A2)/\(g'<=w.n/\∀(j:Nat),j<g'->D8 (w.g j).ol.n A6=false)/\w.n-g'<w.n-g))/\(decide (A3<A4)=false->true=FG w s))) (by kernel_rfl) (by
 conv=>zeta
 refine⟨fun h=>?_,fun h=>?_⟩
 ·have h:JP w.n s.n=true:=h;unfold FG;rw[h];rfl
 have h:JP w.n s.n=false:=h;have hn:w.n<=20:=by
  apply Decidable.byContradiction;intro hn;have e:D8 w.n 20=true:=decide_eq_true (by omega);unfold JP at h;rw[e]at h;revert h;cases(bif D8 w.n 4 then JO w.n 7 else false)<;>simp
 refine⟨⟨(0:Nat),rfl,AdL _,fun j hj=>absurd hj (nT _)⟩,fun g hg=>⟨fun hc=>?_,fun hc=>?_⟩⟩
 ·have hc:(g:Int)<(w.n:Int):=of_decide_eq_true hc;have hlt:g<w.n:=by omega
  rw[Aea g];refine⟨⟨Aec _,hc⟩,fun h3=>?_,fun h3=>?_⟩
  ·have h3:D8 (w.g g).ol.n 60=true:=h3;unfold FG;rw[h];exact(GX (i:=g) (f:=fun i=>!D8 (w.g i).ol.n 60) hlt (by show(!_)=false;rw[h3];rfl)).symm
  ·have h3:D8 (w.g g).ol.n 60=false:=h3;refine⟨jK,g+1,by omega,⟨rfl,fun _ _=>rfl⟩,⟨hlt,fun j hj=>?_⟩,by omega⟩;rcases AdZ.1 hj with h'|rfl
   ·exact hg.2 j h'
   ·exact h3
 ·have hc:¬ (g:Int)<(w.n:Int):=of_decide_eq_false hc;unfold FG;rw[h];exact(Dk.2 (fun i hi=>by show(!_)=true;rw[hg.2 i (by omega)];rfl)).symm)
theorem zK:Ax Tryz.prog 7 YG:=AK Tryz.func7 (c:=Ai Tryz.f7) (by kernel_rfl) mixed (fun args p r hs hp=>by
 unfold YF at hs;split at hs
 ·cases hs;exact⟨_,_,zJ _ _ hp.2.2,(.p (DY hp.1) (.p (.sl hp.2.1) .nil)),⟨show Aa Tryz.prog _ from Aa.nil,rfl,⟨show Af Tryz.prog _ from Af.nil,(AA.none (fun _=>rfl))⟩⟩⟩
 ·cases hs)
theorem zL:As Tryz.prog 7:=fun args w=>by kernel_rfl
section
def CA (g:Int) (i:Nat):Bool:=decide (BT (Ev g i) 1=1)
theorem zM:BM 0=true:=by decide
attribute [local irreducible] AU Ao AZ AJ BM Be
def Jn (p q:Ac->Prop) (s:Ac):Prop:=(∃x y,x+y<=s.w/\p ⟨x,s.h⟩/\q ⟨y,s.h⟩)\/(∃x y,x+y<=s.h/\p ⟨s.w,x⟩/\q ⟨s.w,y⟩)
theorem Jn.symm {p q:Ac->Prop} {s:Ac} (h:Jn p q s):Jn q p s:=by
 rcases h with ⟨x,y,h,h1,h2⟩|⟨x,y,h,h1,h2⟩
 ·exact .inl ⟨y,x,by omega,h2,h1⟩
 ·exact .inr ⟨y,x,by omega,h2,h1⟩
theorem Jn.mono {p q p' q':Ac->Prop} {s:Ac} (hp:∀s,p s->p' s) (hq:∀s,q s->q' s) (h:Jn p q s):Jn p' q' s:=by
 rcases h with ⟨x,y,h,h1,h2⟩|⟨x,y,h,h1,h2⟩
 ·exact .inl ⟨x,y,h,hp _ h1,hq _ h2⟩
 ·exact .inr ⟨x,y,h,hp _ h1,hq _ h2⟩
theorem PL {A B:List Ac} {s:Ac}:Cu.cov (EL A B) s↔Jn (Cu.cov A) (Cu.cov B) s:=by
 constructor
 ·rintro⟨x,hx,h1,h2⟩;unfold EL at hx;obtain⟨a,ha,hx⟩:=Aex.1 hx;obtain⟨b,hb,hx⟩:=Aex.1 hx;unfold Fu at hx;rcases AdR.1 hx with rfl|hx
  ·simp only at h1 h2;exact .inl ⟨a.w,b.w,h1,⟨a,ha,Ael _,by simp only;omega⟩,⟨b,hb,Ael _,by simp only;omega⟩⟩
  ·rcases AdR.1 hx with rfl|hx
   ·simp only at h1 h2;exact .inr ⟨a.h,b.h,h2,⟨a,ha,by simp only;omega,Ael _⟩,⟨b,hb,by simp only;omega,Ael _⟩⟩
   ·cases hx
 ·rintro(⟨x,y,h,⟨a,ha,a1,a2⟩,⟨b,hb,b1,b2⟩⟩|⟨x,y,h,⟨a,ha,a1,a2⟩,⟨b,hb,b1,b2⟩⟩)
  ·simp only at a1 a2 b1 b2;refine⟨⟨a.w+b.w,max a.h b.h⟩,Aex.2 ⟨a,ha,Aex.2 ⟨b,hb,by simp[Fu]⟩⟩,?_,?_⟩<;>simp only<;>omega
  ·simp only at a1 a2 b1 b2;refine⟨⟨max a.w b.w,a.h+b.h⟩,Aex.2 ⟨a,ha,Aex.2 ⟨b,hb,by simp[Fu]⟩⟩,?_,?_⟩<;>simp only<;>omega
theorem PM {T:Int->List Ac} {g:Int} {s:Ac}:∀{n},Cu.cov (Fv T g n) s↔∃k,k<n/\Jn (Cu.cov (T (Ao g k))) (Cu.cov (T (AZ g k))) s
 |0=>⟨fun⟨x,hx,_⟩=>(by cases hx),fun⟨k,hk,_⟩=>(by omega)⟩
 |n+1=>by
   rw[Fv,Cu.cov_append,PM,PL];constructor
   ·rintro(⟨k,hk,h⟩|h)
    ·exact⟨k,by omega,h⟩
    ·exact⟨n,by omega,h⟩
   ·rintro⟨k,hk,h⟩
    by_cases e:k=n
    ·exact .inr (e ▸ h)
    ·exact .inl ⟨k,by omega,h⟩
def Eo (w:L.Sq Ab) (gr g:Int) (s:Ac):Prop:=Cu.cov (AU w gr g) s
theorem YH {w:L.Sq Ab} {gr g:Int} {s t:Ac} (h:Eo w gr g s) (k:Cu.le s t):Eo w gr g t:=by
 obtain⟨x,hx,hl⟩:=h;exact⟨x,hx,Cu.le_trans hl k⟩
theorem PN {w:L.Sq Ab} {gr g:Int} {s:Ac} (h:0<=g) (h15:g<=15) (hf:Eo w gr g s):0<=s.w/\0<=s.h:=by
 obtain⟨x,hx,h1,h2⟩:=hf;have:=(IL w gr h h15).bd x hx;omega
theorem YI {w:L.Sq Ab} {gr:Int} {s:Ac}:Eo w gr 0 s↔0<=s.w/\0<=s.h:=by
 unfold Eo;rw[Lk];exact⟨fun⟨x,hx,h1,h2⟩=>by rw[AdY.1 hx]at h1 h2;exact⟨h1,h2⟩,fun⟨h1,h2⟩=>⟨_,List.mem_singleton_self _,h1,h2⟩⟩
theorem YJ {w:L.Sq Ab} {gr g:Int} {s:Ac} (h:1<=g) (h15:g<=15) (h1:BM g=false):Eo w gr g s↔∃k,k<AJ g/\Jn (Eo w gr (Ao g k)) (Eo w gr (AZ g k)) s:=by
 unfold Eo;rw[Ll w gr h h15 h1,(Cu.stair_ok _).2 s,PM]
def YK (g i k:Nat):Bool:=let e:Int:=2 ^ i;let h:Int:=(g:Int)-e;let p:=Ao g k;let c:=AZ g k;let q:=bif CA p i then p else c;let r:=bif CA p i then c else p
 (decide (q=e)&&decide (r=h))||(decide (1<=h)&&decide (BM h=false)&&decide (0<=q-e)&&CA q i&&(AdP (AJ h)).any fun k'=>(decide (Ao h k'=q-e)&&decide (AZ h k'=r))||(decide (Ao h k'=r)&&decide (AZ h k'=q-e)))
def zN (g:Nat):Bool:=(AdP 4).all fun i=>!CA g i||(if BM g=true then decide ((g:Int)=2 ^ i)else decide (0<=(g:Int)-2 ^ i)&&(AdP (AJ g)).all fun k=>YK g i k)
theorem zO:((AdP 16).all zN)=true:=by kernel_rfl
theorem zP (w:L.Sq Ab) (gr:Int):∀(n:Nat),n<=15->∀i,i<4->CA n i=true->∀s:Ac,Eo w gr n s->Eo w gr ((n:Int)-2 ^ i) s:=fun n=>by
 induction n using Nat.strongRecOn with
 |_ n ih =>
   intro hn i hi hb s hf;have hc:=AdO.1 (AdO.1 zO n (AdQ.2 (by omega))) i (AdQ.2 hi);rw[hb,Bool.not_true,Bool.false_or]at hc;have hpos:=PN (by omega) (by omega) hf;cases h1:BM n with
   |true =>
     rw[if_pos h1]at hc;rw[of_decide_eq_true hc,Int.sub_self,YI];exact hpos
   |false =>
     rw[if_neg (by rw[h1];decide)]at hc;have h0:n≠0:=fun e=>by subst e;rw[show((0:Nat):Int)=0 from rfl,zM]at h1;cases h1
     obtain⟨hz,hc⟩:=Afg.1 hc;have hz:=of_decide_eq_true hz;rw[YJ (by omega) (by omega) h1]at hf;obtain⟨k,hk,hj⟩:=hf;have hc:=AdO.1 hc k (AdQ.2 hk);obtain⟨p1,p2,p3,p4,p5⟩:=(Hz (show 1<=(n:Int)by omega) (by omega) h1).2 k hk;have main : ∀q r : Int, 0<q->q<n->0<r->r<n->Jn (Eo w gr q) (Eo w gr r) s->((decide (q = 2 ^ i)&&decide (r = (n:Int)-2 ^ i))||(decide (1<=(n:Int)-2 ^ i)&&decide (BM ((n:Int)-2 ^ i)= false)&&decide (0<=q-2 ^ i)&&CA q i&&(AdP (AJ ((n:Int)-2 ^ i))).any fun k' =>
       (decide (Ao ((n:Int)-2 ^ i) k'=q-2 ^ i)&&decide (AZ ((n:Int)-2 ^ i) k'=r))||(decide (Ao ((n:Int)-2 ^ i) k'=r)&&decide (AZ ((n:Int)-2 ^ i) k'=q-2 ^ i))))=true->Eo w gr ((n:Int)-2 ^ i) s:=fun q r q1 q2 r1 r2 hj h=>by
      simp only[Aen,oE,decide_eq_true_eq,AeY]at h;rcases h with ⟨h2,h3⟩|⟨⟨⟨⟨h2,h3⟩,h4⟩,h5⟩,k',hk',h6⟩
      ·rw[<- h3];rcases hj with ⟨x,y,hl,j1,j2⟩|⟨x,y,hl,j1,j2⟩
       ·have:=(PN (by omega) (by omega) j1).1;exact YH j2 ⟨by simp only at *;omega,Ael _⟩
       ·have:=(PN (by omega) (by omega) j1).2;exact YH j2 ⟨Ael _,by simp only at *;omega⟩
      ·have hq : ∀s, Eo w gr q s->Eo w gr (q-2 ^ i) s :=fun s hs =>by
        obtain⟨m,rfl⟩:=Aev (Int.le_of_lt q1);exact ih m (by omega) (by omega) i hi h5 s hs
       rw[YJ h2 (by have:(0:Int)<2 ^ i:=Int.pow_pos (by decide);omega) h3];refine⟨k',AdQ.1 hk',?_⟩;have hj':=hj.mono hq (fun _ h=>h);rcases h6 with ⟨e1,e2⟩|⟨e1,e2⟩
       ·rw[e1,e2];exact hj'
       ·rw[e1,e2];exact hj'.symm
     unfold YK at hc;cases hb:CA (Ao n k) i with
     |true =>
       have hc:=hc;simp only[hb,cond_true]at hc;exact main _ _ p1 p2 p3 p4 hj (by rw[hb];exact hc)
     |false =>
       simp only[hb,cond_false]at hc;exact main _ _ p3 p4 p1 p2 hj.symm hc
theorem PO {w:L.Sq Ab} {gr g:Int} {s:Ac}:CH w gr g s=true↔Eo w gr g s:=by
 unfold CH Eo Cu.cov;rw[EY];constructor
 ·rintro⟨i,hi,h⟩;refine⟨_,JK hi,?_⟩;unfold Ea at h
  by_cases h1:((Ak w gr g).g i).w<=s.w
  ·rw[decide_eq_true h1]at h;exact⟨h1,of_decide_eq_true h⟩
  ·rw[decide_eq_false h1]at h;cases h
 ·rintro⟨x,hx,h1,h2⟩;obtain⟨i,hi,rfl⟩:=Aem hx;refine⟨i,hi,?_⟩;have e:(Ak w gr g).g i=(AU w gr g)[i]:=by
   show(AU w gr g).getD i ⟨0,0⟩=_;rw[AS,AdH hi];rfl
  unfold Ea;rw[e,decide_eq_true h1];exact decide_eq_true h2
theorem zQ {w:L.Sq Ab} {s:L.Sq Ah} (h:FG w s=true):CI w/\w.n<=20/\(s.n<=4\/7<s.n)/\s.n<=20:=by
 unfold FG at h;cases hf:JP w.n s.n with
 |true=>rw[hf]at h;cases h
 |false =>
   rw[hf]at h;have hall:∀i,i<w.n->(w.g i).ol.n<=1000000:=fun i hi=>by
    have h1:=Dk.1 h i hi;have h2:(!D8 (w.g i).ol.n 60)=true:=h1;cases e:D8 (w.g i).ol.n 60 with
    |true=>rw[e]at h2;cases h2
    |false=>have:¬ (60:Int)<((w.g i).ol.n:Int):=of_decide_eq_false e;omega
   unfold JP at hf;unfold CI;cases e1:D8 w.n 4<;>cases e2:JO w.n 7<;>cases e3:D8 w.n 20<;>cases e4:D8 s.n 4<;>cases e5:JO s.n 7<;>cases e6:D8 s.n 20<;>rw[e1,e2,e3,e4,e5,e6]at hf<;>first
    |exact absurd hf (by decide)
    |(simp only[D8,JO,decide_eq_true_eq,decide_eq_false_iff_not]at e1 e2 e3 e4 e5 e6;exact⟨⟨by omega,by omega,hall⟩,by omega,by omega,by omega⟩)
end
def B2 (b:Int) (k:Nat):List Nat:=(AdP k).filter (CA b)
def Dp (w:L.Sq Ab) (l:List Nat):L.Sq Ab:=⟨l.length,fun i=>w.g (l.getD i 0)⟩
def Bs (w:L.Sq Ab) (b:Int):L.Sq Ab:=Dp w (B2 b w.n)
def DM (l:L.Sq Ac) (x y:Int):Bool:=Cb l.n fun i=>Ea (l.g i) ⟨x,y⟩
def CB (l:L.Sq Ac) (s:Ac):Nat->List Ac×Bool
 |0=>([],false)
 |k+1=>let p:=CB l s k;bif Cu.leB s (l.g k)then p else bif !p.2&&decide (s.w<(l.g k).w)then(p.1 ++ [s,l.g k],true)else(p.1 ++ [l.g k],p.2)
def Eb (l:L.Sq Ac) (s:Ac) (k:Nat):L.Sq Ac:=AD (CB l s k).1
def D9 (l:L.Sq Ac) (s:Ac) (k:Nat):Bool:=(CB l s k).2
def Ec (l:L.Sq Ac) (s:Ac):L.Sq Ac:=bif DM l s.w s.h then l else bif D9 l s l.n then Eb l s l.n else AD ((CB l s l.n).1 ++ [s])
theorem YL (b:Int) (k:Nat):B2 b (k+1)=if CA b k=true then B2 b k ++ [k]else B2 b k:=by
 unfold B2;rw[Afb,Afo]
 by_cases h:CA b k=true
 ·rw[if_pos h];simp[h]
 ·rw[if_neg h];simp[h]
def PP (x:Ab):List SV:=[.int .i64 x.id,.int .i64 x.colour,.int .i64 x.grain,.sl 2 x.ol.n (fun i=>[.int .i64 ((x.ol.g i).x),.int .i64 ((x.ol.g i).y)])]
theorem zR (w:L.Sq Ab) (l:List Nat) (k:Nat):(Dp w l).n+1=(Dp w (l ++ [k])).n/\∀i,i<(Dp w l).n+1->AN (Dp w l).n (fun j=>PP ((Dp w l).g j)) (fun _=>PP (w.g k)) i=PP ((Dp w (l ++ [k])).g i):=by
 refine⟨by simp[Dp],fun i hi=>?_⟩;have hi:i<l.length+1:=hi;have e:(Dp w (l ++ [k])).g i=if i<l.length then(Dp w l).g i else w.g k:=by
  show w.g ((l ++ [k]).getD i 0)=if i<l.length then w.g (l.getD i 0)else w.g k
  by_cases h:i<l.length
  ·rw[if_pos h,AS,AS,Aeh h]
  ·rw[if_neg h];obtain rfl:i=l.length:=by omega
   simp[AS]
 rw[e];unfold AN;show(if i<l.length then _ else _)=_
 by_cases h:i<l.length
 ·rw[if_pos h,if_pos h]
 ·rw[if_neg h,if_neg h]
theorem PQ {l:L.Sq Ac} {s:Ac} {k:Nat} (h:Cu.leB s (l.g k)=true):CB l s (k+1)=CB l s k:=by rw[CB,h];rfl
theorem PR {l:L.Sq Ac} {s:Ac} {k:Nat} (h:Cu.leB s (l.g k)=false) (h2:(!(CB l s k).2&&decide (s.w<(l.g k).w))=true):CB l s (k+1)=((CB l s k).1 ++ [s,l.g k],true):=by rw[CB,h,cond_false,h2];rfl
theorem Ng {l:L.Sq Ac} {s:Ac} {k:Nat} (h:Cu.leB s (l.g k)=false) (h2:(!(CB l s k).2&&decide (s.w<(l.g k).w))=false):CB l s (k+1)=((CB l s k).1 ++ [l.g k],(CB l s k).2):=by rw[CB,h,cond_false,h2];rfl
theorem PS {l:L.Sq Ac} {s:Ac}:∀k,(CB l s k).1.length<=2*k
 |0=>AdS _
 |k+1=>by
   have:=PS (l:=l) (s:=s) k;cases h:Cu.leB s (l.g k)with
   |true=>rw[PQ h];omega
   |false =>
     cases h2:(!(CB l s k).2&&decide (s.w<(l.g k).w))with
     |true=>rw[PR h h2];simp;omega
     |false=>rw[Ng h h2];simp;omega
theorem Lr (a b:Bool):(bif a then b else false)=(a&&b):=by cases a<;>rfl
theorem zS {X Y:List Ac} {a b:Ac} (h:Y=X ++ [a,b]):(AD X).n+1+1=(AD Y).n/\∀i,i<(AD X).n+1+1->AN ((AD X).n+1) (AN (AD X).n (fun j=>En ((AD X).g j)) (fun _=>En a)) (fun _=>En b) i=En ((AD Y).g i):=by
 have h1:=Ln (X:=X) (Y:=X ++ [a]) (Z:=[a]) rfl (r:=fun _=>En a) (fun i hi=>by
  have hi:i<1:=hi;obtain rfl:i=0:=by omega
  rfl)
 have h2:=Ln (X:=X ++ [a]) (Y:=Y) (Z:=[b]) (by rw[h];simp) (r:=fun _=>En b) (fun i hi=>by
  have hi:i<1:=hi;obtain rfl:i=0:=by omega
  rfl)
 obtain⟨a1,a2⟩:=h1;obtain⟨b1,b2⟩:=h2;have a1:(AD X).n+1=(AD (X ++ [a])).n:=a1;refine⟨by rw[a1];exact b1,fun i hi=>?_⟩;rw[<- b2 i (by rw[<- a1];exact hi),<- a1];unfold AN
 by_cases h3:i<(AD X).n+1
 ·rw[if_pos h3,if_pos h3];exact a2 i h3
 ·rw[if_neg h3,if_neg h3]
theorem YM {X Y:List Ac} {a:Ac} (h:Y=X ++ [a]):(AD X).n+1=(AD Y).n/\∀i,i<(AD X).n+1->AN (AD X).n (fun j=>En ((AD X).g j)) (fun _=>En a) i=En ((AD Y).g i):=Ln (X:=X) (Y:=Y) (Z:=[a]) h (r:=fun _=>En a) (fun i hi=>by
 have hi:i<1:=hi;obtain rfl:i=0:=by omega
 rfl)
def YN (w:(L.Sq Ab)) (b:Int):Prop:=w.n<=1000
def YO (w:(L.Sq Ab)) (b:Int):SV:=.sl 4 (Bs w b).n (fun k=>[.int .i64 (((Bs w b).g k).id),.int .i64 (((Bs w b).g k).colour),.int .i64 (((Bs w b).g k).grain),.sl 2 ((Bs w b).g k).ol.n (fun i=>[.int .i64 ((((Bs w b).g k).ol.g i).x),.int .i64 ((((Bs w b).g k).ol.g i).y)])])
def YP:List EV->Option (Prop×SV)
 |[.p (.sl 4 w_n w_g),.p (.int .i64 b)]=>some ((∀i,i<w_n->Dn (w_g i))/\YN (⟨w_n,fun i=>Bx (w_g i)⟩:(L.Sq Ab)) b,YO (⟨w_n,fun i=>Bx (w_g i)⟩:(L.Sq Ab)) b)
 |_=>none
abbrev PT:SE.Spec:=(AI YP)
def zT:Al:={ cC with nils:=B6 [(2,[(5,24,71,4)])] }
theorem zU (w:(L.Sq Ab)) (b:Int) (hp:YN w b):vc Tryz.prog ({ zT with loops:=AT [(3,{ T:=Nat,keep:=[0,1,5],keepO:=[],chg:=fun i=>[(6,.p (.int .i64 (i:Int)))],own:=fun i=>[(24,.row 71 4 (Dp w (B2 b i)).n (fun k=>[.int .i64 (((Dp w (B2 b i)).g k).id),.int .i64 (((Dp w (B2 b i)).g k).colour),.int .i64 (((Dp w (B2 b i)).g k).grain),.sl 2 ((Dp w (B2 b i)).g k).ol.n (fun i1=>[.int .i64 ((((Dp w (B2 b i)).g k).ol.g i1).x),.int .i64 ((((Dp w (B2 b i)).g k).ol.g i1).y)])]))],inv:=fun i=>i<=w.n,mu:=fun i=>w.n-i })],rfs:=AP [] }) (Ai Tryz.f78) (Au Tryz.f78 [.p (.sl 4 w.n (fun i=>[.int .i64 ((w.g i).id),.int .i64 ((w.g i).colour),.int .i64 ((w.g i).grain),.sl 2 (w.g i).ol.n (fun i1=>[.int .i64 (((w.g i).ol.g i1).x),.int .i64 (((w.g i).ol.g i1).y)])])),.p (.int .i64 b)]) (AH Tryz.prog Tryz.f78 (YO w b)):=
  @Eq.mpr _ (let I:=SV.int .i64;let T:=Aee;let A15:=(↑w.n:Int);let A11:=(1:Int);let A10:=(2:Nat);let A2:=(w.n=w.n/\∀(i:Nat),let A3:=[I (w.g i).id,I (w.g i).colour,I (w.g i).grain,SV.sl A10 (w.g i).ol.n fun(i1:Nat)=>[I ((w.g i).ol.g i1).x,I ((w.g i).ol.g i1).y]];i<w.n->A3=A3);(∃(g:Nat),let A14:=(Dp w (B2 b g));(0:Int) =
 (↑g:Int)/\(nat_lit 0=A14.n/\∀(i:Nat),let A6:=(A14.g i);i<nat_lit 0 -> []= [I A6.id,I A6.colour,I A6.grain,SV.sl A10 A6.ol.n fun(i1:Nat)=>[I (A6.ol.g i1).x,I (A6.ol.g i1).y]])/\g<=w.n)/\∀(g:Nat),let A7:=(↑g:Int);let A9:=(w.g (T A7));let A1:=(Dp w (B2 b g));g<=w.n->(decide (A7<A15)=true->(0:Int)<=A7/\(decide
 (BT (Ev b A7) A11=A11)=true->((0:Int)<=A7/\A7<A15)/\(A1.n+nat_lit 1)*nat_lit 48<=(140737488355328:Nat)/\Ad .i64 (A7+A11)/\∃(g':Nat),let A12:=(Dp w (B2 b g'));A7+A11=(↑g':Int)/\A2/\b=b/\(A1.n+nat_lit 1=A12.n/\∀(i:Nat),let A4:=(A12.g i);i<A1.n+nat_lit 1->AN A1.n (fun(k:Nat)=>[I
 (A1.g k).id,I (A1.g k).colour,I (A1.g k).grain,SV.sl A10 (A1.g k).ol.n fun(i1:Nat)=>[I ((A1.g k).ol.g i1).x,I ((A1.g k).ol.g i1).y]]) (fun(x:Nat)=>[I A9.id,I A9.colour,I A9.grain,SV.sl (nat_lit 2) A9.ol.n fun(i1:Nat)=>[I (A9.ol.g i1).x,I (A9.ol.g i1).y]]) i = [I A4.id,I A4.colour,I A4.grain,SV.sl A10 A4.ol.n fun(i1:Nat)=>[I (A4.ol.g i1).x,I (A4.ol.g
 i1).y]])/\g'<=w.n/\w.n-g'<w.n-g)/\(decide (BT (Ev b A7) A11=A11)=false->Ad .i64 (A7+A11)/\∃(g':Nat),let A13:=(Dp w (B2 b g'));A7+A11=(↑g':Int)/\A2/\b=b/\(A1.n=A13.n/\∀(i:Nat),let A5:=(A13.g i);i<A1.n -> [I (A1.g i).id,I (A1.g i).colour,I (A1.g i).grain,SV.sl A10 (A1.g i).ol.n fun(i1
:Nat)=>[I ((A1.g i).ol.g i1).x,I ((A1.g i).ol.g i1).y]]= [I A5.id,I A5.colour,I A5.grain,SV.sl A10 A5.ol.n fun(i1:Nat)=>[I (A5.ol.g i1).x,I (A5.ol.g i1).y]])/\g'<=w.n/\w.n-g'<w.n-g))/\(decide (A7<A15)=false->A1.n=(Bs w b).n/\∀(i:Nat),let A8:=((Bs w b).g i);i<A1.n -> [I (A1.g i).id,I (A1.g i).colour,I (A1.g i).grain,SV.sl
 A10 (A1.g i).ol.n fun(i1:Nat)=>[I ((A1.g i).ol.g i1).x,I ((A1.g i).ol.g i1).y]]= [I A8.id,I A8.colour,I A8.grain,SV.sl A10 A8.ol.n fun(i_1:Nat)=>[I (A8.ol.g i_1).x,I (A8.ol.g i_1).y]])) (by kernel_rfl) (by
  conv=>zeta
  have hw:w.n<=1000:=hp;have ln:∀k,(Dp w (B2 b k)).n<=k:=fun k=>by
   show(B2 b k).length<=k;unfold B2;exact Aeu (Afe _ _) (by rw[List.length_range];exact AdS _)
  refine⟨⟨0,rfl,⟨rfl,fun i hi=>absurd hi (nT _)⟩,AdL _⟩,fun k hk=>⟨fun hc=>?_,fun hc=>?_⟩⟩
  ·have hc:(k:Int)<(w.n:Int):=of_decide_eq_true hc;have e0:((k:Int)).toNat=k:=Aea k;have c0:0<=(k:Int)/\(k:Int)<(w.n:Int):=⟨Aec _,hc⟩;have k1:Ad .i64 ((k:Int)+1):=jK;have g1:k+1<=w.n:=by omega
   have g2:w.n-(k+1)<w.n-k:=by omega
   have cn:(k:Int)+1=((k+1:Nat):Int):=by omega
   rw[e0];have sc:=YL b k;have sz:((Dp w (B2 b k)).n+1)*48<=140737488355328:=by have:=ln k;omega
   refine⟨c0.1,fun h1=>⟨c0,sz,k1,k+1,?_⟩,fun h1=>⟨k1,k+1,?_⟩⟩
   ·have h1:CA b k=true:=h1;rw[if_pos h1]at sc;obtain⟨q1,q2⟩:=zR w (B2 b k) k;rw[<- sc]at q1 q2;exact(by(try dsimp only);(repeat' with_reducible apply And.intro)<;>first|with_reducible rfl|with_reducible assumption|with_reducible exact fun _=>rfl|with_reducible exact fun _ _=>rfl|with_reducible exact trivial|exact rfl|(intro _;exact rfl)|(intro _ _;exact rfl)|exact cn|exact q1|exact q2|exact g1|exact g2|exact trivial|(intro _ h_;exact absurd h_ (nT _)))
   ·have h1:CA b k=false:=h1;rw[if_neg (by rw[h1];decide)]at sc;rw[sc];exact(by(try dsimp only);(repeat' with_reducible apply And.intro)<;>first|with_reducible rfl|with_reducible assumption|with_reducible exact fun _=>rfl|with_reducible exact fun _ _=>rfl|with_reducible exact trivial|exact rfl|(intro _;exact rfl)|(intro _ _;exact rfl)|exact cn|exact g1|exact g2|exact trivial|(intro _ h_;exact absurd h_ (nT _)))
  ·have hc:¬ (k:Int)<(w.n:Int):=of_decide_eq_false hc;obtain rfl:k=w.n:=by omega
   exact⟨rfl,fun _ _=>rfl⟩)
theorem YQ:Ax Tryz.prog 78 PT:=AK Tryz.func78 (c:=Ai Tryz.f78) (by kernel_rfl) mixed (fun args p r hs hp=>by
 unfold YP at hs;split at hs
 ·cases hs;exact⟨_,_,zU _ _ hp.2,(.p (DY hp.1) (.same _ .nil)),⟨show Aa Tryz.prog _ from Aa.nil,rfl,⟨show Af Tryz.prog _ from Af.nil,(AA.none (fun _=>rfl))⟩⟩⟩
 ·cases hs)
theorem YR:As Tryz.prog 78:=fun args w=>by kernel_rfl
def YS (l:(L.Sq Ac)) (x:Int) (y:Int):Prop:=l.n<=1000000
def YT (l:(L.Sq Ac)) (x:Int) (y:Int):SV:=.bool (DM l x y)
def YU:List EV->Option (Prop×SV)
 |[.p (.sl 2 l_n l_g),.p (.int .i64 x),.p (.int .i64 y)]=>some ((∀i,i<l_n->l_g i = [.int .i64 ((D0 (l_g i)).w),.int .i64 ((D0 (l_g i)).h)])/\YS (⟨l_n,fun i=>D0 (l_g i)⟩:(L.Sq Ac)) x y,YT (⟨l_n,fun i=>D0 (l_g i)⟩:(L.Sq Ac)) x y)
 |_=>none
abbrev YV:SE.Spec:=(AI YU)
def zV:Al:={ muts:=[],frz:=B8 [],specs:=AC [],loops:=fun _=>none,iters:=B3 [],rfs:=AP [],nils:=B6 [] }
theorem zW (l:(L.Sq Ac)) (x:Int) (y:Int) (hp:YS l x y):vc Tryz.prog ({ zV with loops:=AT [(2,{ T:=Nat,keep:=[0,1,2],keepO:=[],chg:=fun i=>[(7,.p (.int .i64 (i:Int)))],own:=fun _=>[],inv:=fun i=>i<=l.n/\∀j,j<i->Ea (l.g j) ⟨x,y⟩=false,mu:=fun i=>l.n-i })],rfs:=AP [] }) (Ai Tryz.f85) (Au Tryz.f85 [.p (.sl 2 l.n (fun i=>[.int .i64 ((l.g i).w),.int .i64 ((l.g i).h)])),.p (.int .i64 x),.p (.int .i64 y)]) (AH Tryz.prog Tryz.f85 (YT l x y)):=
 @Eq.mpr _ (let T:=Aee;let A5:=(Ac.mk x y);let A4:=(↑l.n:Int);(∃(g:Nat),(0:Int)=(↑g:Int)/\g<=l.n/\∀(j:Nat),j<g->Ea (l.g j) A5=false)/\∀(g:Nat),let A3:=(↑g:Int);let A6:=(l.g (T A3));let A1:=(bif decide (A6.w<=x)then decide (A6.h<=y)else false);(g<=l.n/\∀(j:Nat),j<g->Ea (l.g j) A5=false)->(decide (A3<A4)=true->((0:Int)<=A3/\A3<A4)/\(decide (A6.w<=x)=true->(0:Int)<=A3/\A3<A4)/\(A1=true->true=DM l x y)/\(A1=false->Ad .i64 (A3+(1:Int))/\∃(g':Nat),A3+(1:Int)=(↑g':Int)/\(l.n=l.n/\∀(i:Nat),let A2:=[SV.int .i64 (l.g i).w,SV.int .i64 (l.g i).h];i<l.n->A2=A2)/\x=x/\y=y/\(g'<=l.n/\∀(j:Nat),j<g'->Ea (l.g j) A5=false)/\l.n-g'<l.n-g))/\(decide (A3<A4)=false->false=DM l x y)) (by kernel_rfl) (by
 conv=>zeta
 have hn:l.n<=1000000:=hp;refine⟨⟨0,rfl,AdL _,fun j hj=>absurd hj (nT _)⟩,fun k hk=>⟨fun hc=>?_,fun hc=>?_⟩⟩
 ·have hc:(k:Int)<(l.n:Int):=of_decide_eq_true hc;have e0:((k:Int)).toNat=k:=Aea k;have c0:0<=(k:Int)/\(k:Int)<(l.n:Int):=⟨Aec _,hc⟩;have k1:Ad .i64 ((k:Int)+1):=jK;have g1:k+1<=l.n:=by omega
  have g2:l.n-(k+1)<l.n-k:=by omega
  have cn:(k:Int)+1=((k+1:Nat):Int):=by omega
  rw[e0];refine⟨c0,fun _=>c0,fun h1=>?_,fun h1=>⟨k1,k+1,?_⟩⟩
  ·exact(EY.2 ⟨k,g1,h1⟩).symm
  ·have nx : ∀j, j<k+1->Ea (l.g j) ⟨x, y⟩= false :=fun j hj =>by
    rcases AdZ.1 hj with h|rfl
    ·exact hk.2 j h
    ·exact h1
   exact(by(try dsimp only);(repeat' with_reducible apply And.intro)<;>first|with_reducible rfl|with_reducible assumption|with_reducible exact fun _=>rfl|with_reducible exact fun _ _=>rfl|with_reducible exact trivial|exact rfl|(intro _;exact rfl)|(intro _ _;exact rfl)|exact cn|exact nx|exact g1|exact g2|exact trivial|(intro _ h_;exact absurd h_ (nT _)))
 ·have hc:¬ (k:Int)<(l.n:Int):=of_decide_eq_false hc;cases h:DM l x y with
  |false=>rfl
  |true =>
    obtain⟨i,hi,h1⟩:=EY.1 h;rw[hk.2 i (by omega)]at h1;cases h1)
theorem zX:Ax Tryz.prog 85 YV:=AK Tryz.func85 (c:=Ai Tryz.f85) (by kernel_rfl) mixed (fun args p r hs hp=>by
 unfold YU at hs;split at hs
 ·cases hs;exact⟨_,_,zW _ _ _ hp.2,(.p (.sl hp.1) (.same _ (.same _ .nil))),⟨show Aa Tryz.prog _ from Aa.nil,rfl,⟨show Af Tryz.prog _ from Af.nil,(AA.none (fun _=>rfl))⟩⟩⟩
 ·cases hs)
theorem zY:As Tryz.prog 85:=fun args w=>by kernel_rfl
def YW (l:(L.Sq Ac)) (s:Ac):Prop:=l.n<=1000000
def YX (l:(L.Sq Ac)) (s:Ac):SV:=.sl 2 (Ec l s).n (fun k=>[.int .i64 (((Ec l s).g k).w),.int .i64 (((Ec l s).g k).h)])
def YY:List EV->Option (Prop×SV)
 |[.p (.sl 2 l_n l_g),.p (.agg [.int .i64 s_w,.int .i64 s_h])]=>some ((∀i,i<l_n->l_g i = [.int .i64 ((D0 (l_g i)).w),.int .i64 ((D0 (l_g i)).h)])/\YW (⟨l_n,fun i=>D0 (l_g i)⟩:(L.Sq Ac)) (⟨s_w,s_h⟩:Ac),YX (⟨l_n,fun i=>D0 (l_g i)⟩:(L.Sq Ac)) (⟨s_w,s_h⟩:Ac))
 |_=>none
abbrev YZ:SE.Spec:=(AI YY)
def zZ:Al:={ cC with nils:=B6 [(8,[(6,73,74,2)])] }
theorem Aaa (l:(L.Sq Ac)) (s:Ac) (hp:YW l s):vc Tryz.prog ({ zZ with loops:=AT [(2,{ T:=Nat,keep:=[0,3],keepO:=[],chg:=fun i=>[(5,.p (.int .i64 (i:Int)))],own:=fun _=>[],inv:=fun i=>i<=l.n/\∀j,j<i->Ea (l.g j) s=false,mu:=fun i=>l.n-i }),(9,{ T:=Nat,keep:=[0,3,6],keepO:=[],chg:=fun i=>[(7,.p (.bool (D9 l s i))),(8,.p (.int .i64 (i:Int)))],own:=fun i=>[(73,.row 74 2 (Eb l s i).n (fun k=>[.int .i64 (((Eb l s i).g k).w),.int .i64 (((Eb l s i).g k).h)]))],inv:=fun i=>i<=l.n,mu:=fun i=>l.n-i })],rfs:=AP [] }) (Ai Tryz.f80) (Au Tryz.f80 [.p (.sl 2 l.n (fun i=>[.int .i64 ((l.g i).w),.int .i64 ((l.g i).h)])),.p (.agg [.int .i64 s.w,.int .i64 s.h])]) (AH Tryz.prog Tryz.f80 (YX l s)):=
 @Eq.mpr _ (let I:=SV.int .i64;let T:=Aee;let A16:=(1:Int);let A14:=(0:Int);let A13:=(nat_lit 0);let A12:=(140737488355328:Nat);let A10:=(Ec l s);let A7:=(↑l.n:Int);let A6:=[I s.w,I s.h];let A2:=(l.n=l.n/\∀(i:Nat),let A19:=[I (l.g i).w,I (l.g i).h];i<l.n->A19=A19);(∃(g:Nat),A14=(↑g:Int)/\g<=l.n/\∀(j:Nat),j<g->Ea (l.g j) s=false)/\∀(g:Nat),let A9:=(↑g:Int);let A24:=(l.g (T A9));let A4:=(bif decide (A24.w<=s.w)then decide (A24.h<=s.h)else false);(g<=l.n/\∀(j:Nat),j<g->Ea (l.g j) s=false)->(decide (A9<A7)=true->(A14<=A9/\A9<A7)/\(decide (A24.w<=s.w)=true->A14<=A9/\A9<A7)/\(A4=true->l.n=A10.n/\∀(i:Nat),i<l.n -> [I (l.g i).w,I (l.g i).h]= [I (A10.g i).w,I (A10.g i).h])/\(A4=false->Ad .i64 (A9+A16)/\∃(g':Nat),A9+A16=(↑g':Int)/\SV.ref A6 A13=SV.ref A6 A13/\A2/\(g'<=l.n/\∀(j:Nat),j<g'->Ea (l.g j) s=false)/\l.n-g'<l.n-g))/\(decide (A9<A7)=false->(∃(g:Nat),let A23:=(Eb l s g);false=D9 l s g/\A14=(↑g:Int)/\(nat_lit 0=A23.n/\∀(i:Nat),i<nat_lit 0 -> []= [I (A23.g i).w,I (A23.g i).h])/\g<=l.n)/\∀(g_1:Nat),let A18:=(!D9 l s g_1);let A3:=(↑g_1:Int);let A17:=(A14<=A3/\A3<A7);let A11:=(l.g (T A3));let A8:=(bif !D9 l s g_1 then decide (s.w<A11.w)else false);let A5:=(bif decide (s.w<=A11.w)then decide (s.h<=A11.h)else false);let A1:=(Eb l s g_1);let A15:=(A1.n+nat_lit 1);g_1<=l.n->(decide (A3<A7)=true->A17/\(decide (s.w<=A11.w)=true->A14<=A3/\A3<A7)/\(A5=true->Ad .i64 (A3+A16)/\∃(g':Nat),let A20:=(Eb l s g');D9 l s g_1=D9 l s g'/\A3+A16=(↑g':Int)/\SV.ref A6 A13=SV.ref A6 A13/\A2/\(A1.n=A20.n/\∀(i:Nat),i<A1.n -> [I (A1.g i).w,I (A1.g i).h]= [I (A20.g i).w,I (A20.g i).h])/\g'<=l.n/\l.n-g'<l.n-g_1)/\(A5=false->(A18=true->A14<=A3/\A3<A7)/\(A8=true->A15*nat_lit 16<=A12/\A17/\(A1.n+nat_lit 1+nat_lit 1)*nat_lit 16<=A12/\Ad .i64 (A3+A16)/\∃(g':Nat),let A21:=(Eb l s g');true=D9 l s g'/\A3+A16=(↑g':Int)/\SV.ref A6 A13=SV.ref A6 A13/\A2/\(A1.n+nat_lit 1+nat_lit 1=A21.n/\∀(i:Nat),i<A1.n+nat_lit 1+nat_lit 1->AN A15 (AN A1.n (fun(k:Nat)=>[I (A1.g k).w,I (A1.g k).h]) fun(x:Nat)=>A6) (fun(x:Nat)=>[I A11.w,I A11.h]) i = [I (A21.g i).w,I (A21.g i).h])/\g'<=l.n/\l.n-g'<l.n-g_1)/\(A8=false->A17/\A15*nat_lit 16<=A12/\Ad .i64 (A3+A16)/\∃(g':Nat),let A22:=(Eb l s g');D9 l s g_1=D9 l s g'/\A3+A16=(↑g':Int)/\SV.ref A6 A13=SV.ref A6 A13/\A2/\(A1.n+nat_lit 1=A22.n/\∀(i:Nat),i<A1.n+nat_lit 1->AN A1.n (fun(k:Nat)=>[I (A1.g k).w,I (A1.g k).h]) (fun(x:Nat)=>[I A11.w,I A11.h]) i = [I (A22.g i).w,I (A22.g i).h])/\g'<=l.n/\l.n-g'<l.n-g_1)))/\(decide (A3<A7)=false->(A18=true->A15*nat_lit 16<=A12/\A1.n+nat_lit 1=A10.n/\∀(i:Nat),i<A1.n+nat_lit 1->AN A1.n (fun(k:Nat)=>[I (A1.g k).w,I (A1.g k).h]) (fun(x:Nat)=>A6) i = [I (A10.g i).w,I (A10.g i).h])/\(A18=false->A1.n=A10.n/\∀(i:Nat),i<A1.n -> [I (A1.g i).w,I (A1.g i).h]= [I (A10.g i).w,I (A10.g i).h])))) (by kernel_rfl) (by
 conv=>zeta
 have hn:l.n<=1000000:=hp;refine⟨⟨0,rfl,AdL _,fun j hj=>absurd hj (nT _)⟩,fun k hk=>⟨fun hc=>?_,fun hc=>?_⟩⟩
 ·have hc:(k:Int)<(l.n:Int):=of_decide_eq_true hc;have e0:((k:Int)).toNat=k:=Aea k;have c0:0<=(k:Int)/\(k:Int)<(l.n:Int):=⟨Aec _,hc⟩;have k1:Ad .i64 ((k:Int)+1):=jK;have g1:k+1<=l.n:=by omega
  have g2:l.n-(k+1)<l.n-k:=by omega
  have cn:(k:Int)+1=((k+1:Nat):Int):=by omega
  rw[e0];refine⟨c0,fun _=>c0,fun h1=>?_,fun h1=>⟨k1,k+1,?_⟩⟩
  ·have e:Ec l s=l:=by unfold Ec;rw[show DM l s.w s.h=true from EY.2 ⟨k,g1,h1⟩];rfl
   rw[e];exact⟨rfl,fun _ _=>rfl⟩
  ·have nx : ∀j, j<k+1->Ea (l.g j) s = false :=fun j hj =>by
    rcases AdZ.1 hj with h|rfl
    ·exact hk.2 j h
    ·exact h1
   exact(by(try dsimp only);(repeat' with_reducible apply And.intro)<;>first|with_reducible rfl|with_reducible assumption|with_reducible exact fun _=>rfl|with_reducible exact fun _ _=>rfl|with_reducible exact trivial|exact rfl|(intro _;exact rfl)|(intro _ _;exact rfl)|exact cn|exact nx|exact g1|exact g2|exact trivial|(intro _ h_;exact absurd h_ (nT _)))
 ·have hc:¬ (k:Int)<(l.n:Int):=of_decide_eq_false hc;have hr:DM l s.w s.h=false:=by
   cases h:DM l s.w s.h with
   |false=>rfl
   |true =>
     obtain⟨i,hi,h1⟩:=EY.1 h;rw[show Ea (l.g i) ⟨s.w,s.h⟩=false from hk.2 i (by omega)]at h1;cases h1
  clear hk hc;refine⟨⟨0,rfl,rfl,⟨rfl,fun i hi=>absurd hi (nT _)⟩,AdL _⟩,fun k hk=>⟨fun hc=>?_,fun hc=>?_⟩⟩
  ·have hc:(k:Int)<(l.n:Int):=of_decide_eq_true hc;have e0:((k:Int)).toNat=k:=Aea k;have c0:0<=(k:Int)/\(k:Int)<(l.n:Int):=⟨Aec _,hc⟩;have k1:Ad .i64 ((k:Int)+1):=jK;have g1:k+1<=l.n:=by omega
   have g2:l.n-(k+1)<l.n-k:=by omega
   have cn:(k:Int)+1=((k+1:Nat):Int):=by omega
   rw[e0];have fl:(Eb l s k).n<=2*k:=PS k;have sz:((Eb l s k).n+1)*16<=140737488355328:=by omega
   have sz2:((Eb l s k).n+1+1)*16<=140737488355328:=by omega
   rw[Lr,Lr];refine⟨c0,fun _=>c0,fun h1=>⟨k1,k+1,?_⟩,fun h1=>⟨fun _=>c0,fun h2=>⟨sz,c0,sz2,k1,k+1,?_⟩,fun h2=>⟨c0,sz,k1,k+1,?_⟩⟩⟩
   ·have f:=PQ (l:=l) (s:=s) (k:=k) h1;have q1:D9 l s k=D9 l s (k+1):=by unfold D9;rw[f]
    have q2:Eb l s (k+1)=Eb l s k:=by unfold Eb;rw[f]
    rw[q2];exact(by(try dsimp only);(repeat' with_reducible apply And.intro)<;>first|with_reducible rfl|with_reducible assumption|with_reducible exact fun _=>rfl|with_reducible exact fun _ _=>rfl|with_reducible exact trivial|exact rfl|(intro _;exact rfl)|(intro _ _;exact rfl)|exact q1|exact cn|exact g1|exact g2|exact trivial|(intro _ h_;exact absurd h_ (nT _)))
   ·have f:=PR (l:=l) (s:=s) (k:=k) h1 h2;have q1:true=D9 l s (k+1):=by unfold D9;rw[f]
    obtain⟨q2,q3⟩:=zS (show(CB l s (k+1)).1=(CB l s k).1 ++ [s,l.g k]by rw[f]);exact(by(try dsimp only);(repeat' with_reducible apply And.intro)<;>first|with_reducible rfl|with_reducible assumption|with_reducible exact fun _=>rfl|with_reducible exact fun _ _=>rfl|with_reducible exact trivial|exact rfl|(intro _;exact rfl)|(intro _ _;exact rfl)|exact q1|exact q2|exact q3|exact cn|exact g1|exact g2|exact trivial|(intro _ h_;exact absurd h_ (nT _)))
   ·have f:=Ng (l:=l) (s:=s) (k:=k) h1 h2;have q1:D9 l s k=D9 l s (k+1):=by unfold D9;rw[f]
    obtain⟨q2,q3⟩:=YM (show(CB l s (k+1)).1=(CB l s k).1 ++ [l.g k]by rw[f]);exact(by(try dsimp only);(repeat' with_reducible apply And.intro)<;>first|with_reducible rfl|with_reducible assumption|with_reducible exact fun _=>rfl|with_reducible exact fun _ _=>rfl|with_reducible exact trivial|exact rfl|(intro _;exact rfl)|(intro _ _;exact rfl)|exact q1|exact q2|exact q3|exact cn|exact g1|exact g2|exact trivial|(intro _ h_;exact absurd h_ (nT _)))
  ·have hc:¬ (k:Int)<(l.n:Int):=of_decide_eq_false hc;obtain rfl:k=l.n:=by omega
   have fl:(Eb l s l.n).n<=2*l.n:=PS l.n;have sz:((Eb l s l.n).n+1)*16<=140737488355328:=by omega
   refine⟨fun h1=>⟨sz,?_⟩,fun h1=>?_⟩
   ·have h1:D9 l s l.n=false:=Cx h1;have e:Ec l s=AD ((CB l s l.n).1 ++ [s]):=by unfold Ec;rw[hr,h1];rfl
    rw[e];exact YM rfl
   ·have h1:D9 l s l.n=true:=BW h1;have e:Ec l s=Eb l s l.n:=by unfold Ec;rw[hr,h1];rfl
    rw[e];exact⟨rfl,fun _ _=>rfl⟩)
theorem Aab:Ax Tryz.prog 80 YZ:=AK Tryz.func80 (c:=Ai Tryz.f80) (by kernel_rfl) mixed (fun args p r hs hp=>by
 unfold YY at hs;split at hs
 ·cases hs;exact⟨_,_,Aaa _ _ hp.2,(.p (.sl hp.1) (.same _ .nil)),⟨show Aa Tryz.prog _ from Aa.nil,rfl,⟨show Af Tryz.prog _ from Af.nil,(AA.none (fun _=>rfl))⟩⟩⟩
 ·cases hs)
theorem Aac:As Tryz.prog 80:=fun args w=>by kernel_rfl
def Nh (x:Ab) (gr:Int) (t:Nat):List Ac:=((([0,1]:List Int).take t).filter fun u=>Do x.grain gr u).map fun u=>Ch x.ol u
def Dh (w:L.Sq Ab) (gr:Int) (b t:Nat):List Ac:=if (Bs w b).n=1 then Nh ((Bs w b).g 0) gr t else []
def Gk (b p:Nat):Bool:=decide (BT p b=p)
def PU (w:L.Sq Ab) (gr:Int) (b q:Nat):List Ac:=EL (AU w gr q) (AU w gr ((b:Int)-q))
def D3 (w:L.Sq Ab) (gr:Int) (b p:Nat):List Ac:=Dh w gr b 2++((AdP p).filter fun q=>decide (1<=q)&&Gk b q).flatMap (PU w gr b)
def Fc (w:L.Sq Ab) (gr:Int) (b p i:Nat):List Ac:=D3 w gr b p++EL ((AU w gr p).take i) (AU w gr ((b:Int)-p))
def Ed (w:L.Sq Ab) (gr:Int) (b p i k:Nat):List Ac:=Fc w gr b p i++((AU w gr ((b:Int)-p)).take k).flatMap fun y=>Fu ((Ak w gr p).g i) y
def AG (w:L.Sq Ab):Nat:=(Bi 1 w.n).toNat
def BY (l:List Ac):L.Sq Ac:=AD (Cu.stair l)
def Ie (s:Ac) (x:Ac):Bool:=decide (s.w<x.w) && !Cu.leB s x
def JQ (X:List Ac) (s:Ac):List Ac:=X.filter fun x=>decide (x.w<s.w)
def FH (X:List Ac) (s:Ac):List Ac:=X.filter (Ie s)
theorem Ls {X:List Ac} {k:Nat} (h:k<X.length):(AD X).g k=X[k]:=by show X.getD k _=_;rw[AS,AdH h];rfl
theorem Za {X:List Ac} {s:Ac} (hX:Cu.Stair X) (hno:∀x,x∈X->¬ Cu.le x s):∀k,k<=X.length ->
  (CB (AD X) s k).2 = !(FH (X.take k) s).isEmpty/\(CB (AD X) s k).1=(bif (CB (AD X) s k).2 then JQ (X.take k) s++s::FH (X.take k) s else JQ (X.take k) s)
 |0,_=>⟨rfl,rfl⟩
 |k+1,hk=>by
   have hk':k<X.length:=hk;obtain⟨i1,i2⟩:=Za hX hno k (by omega);have e:X.take (k+1)=X.take k ++ [X[k]]:=by rw[Af1,AdH hk'];rfl
   have f1:JQ (X.take (k+1)) s=JQ (X.take k) s++(if X[k].w<s.w then [X[k]]else []):=by
    unfold JQ;rw[e,Afo]
    by_cases h:X[k].w<s.w<;>simp[h]
   have f2:FH (X.take (k+1)) s=FH (X.take k) s++(if Ie s X[k]=true then [X[k]]else []):=by
    unfold FH;rw[e,Afo]
    by_cases h:Ie s X[k]=true<;>simp[h]
   have gk:(AD X).g k=X[k]:=Ls hk';have nk:=hno _ (Aeg hk')
   -- those before are less wide
   have lt:∀y,y∈X.take k->y.w<X[k].w:=fun y hy=>by
    obtain⟨i,hi,rfl⟩:=Aem hy;rw[List.length_take]at hi;rw[List.getElem_take];exact(AeV.1 hX i k (by omega) hk' (by omega)).1
   have ne2:(CB (AD X) s k).2=true->s.w<X[k].w:=fun h=>by
    rw[i1]at h;cases h2:FH (X.take k) s with
    |nil=>rw[h2]at h;cases h
    |cons y l =>
      have hy:y∈FH (X.take k) s:=by rw[h2];exact List.mem_cons_self ..
      obtain⟨m1,m2⟩:=AdK.1 hy;unfold Ie at m2;rw[oE,decide_eq_true_eq]at m2;have:=lt y m1;omega
   cases h:Cu.leB s ((AD X).g k)with
   |true =>
     rw[PQ h];rw[gk]at h;have hw:=(Cu.leB_iff.1 h).1;rw[f1,f2,if_neg (show ¬ X[k].w<s.w by omega),if_neg (show ¬ Ie s X[k]=true by unfold Ie;rw[h];simp),AeA,AeA];exact⟨i1,i2⟩
   |false =>
     have hle:¬ Cu.le s X[k]:=fun q=>by rw[gk,Cu.leB_iff.2 q]at h;cases h
     unfold Cu.le at hle nk;have hb:Ie s X[k]=decide (s.w<X[k].w):=by
      unfold Ie;rw[gk]at h;rw[h];simp
     rw[hb]at f2
     by_cases hw:s.w<X[k].w
     ·rw[decide_eq_true hw,if_pos rfl]at f2;rw[if_neg (by omega),AeA]at f1;cases hp:(CB (AD X) s k).2 with
      |false =>
        rw[hp]at i1 i2;have n2:FH (X.take k) s = []:=by
         cases h2:FH (X.take k) s with
         |nil=>rfl
         |cons y l=>rw[h2]at i1;cases i1
        rw[PR h (by rw[hp,gk,decide_eq_true hw];rfl),f1,f2,n2,i2];refine⟨rfl,?_⟩;rw[gk];simp
      |true =>
        rw[hp]at i1 i2;rw[Ng h (by rw[hp];rfl),f1,f2,i2];refine⟨?_,?_⟩
        ·rw[hp];cases FH (X.take k) s<;>rfl
        ·rw[hp,gk];simp
     ·rw[decide_eq_false hw,if_neg (by decide),AeA]at f2;rw[if_pos (by omega)]at f1;cases hp:(CB (AD X) s k).2 with
      |true=>exact absurd (ne2 hp) hw
      |false =>
        rw[hp]at i1 i2;rw[Ng h (by rw[hp,gk,decide_eq_false hw];rfl),f1,f2,i2];refine⟨by rw[hp];exact i1,?_⟩;rw[hp,gk];rfl
theorem Aad {X:List Ac} (hX:Cu.Stair X) (s:Ac):Ec (AD X) s=AD (Cu.ins X s):=by
 have hroom:DM (AD X) s.w s.h=X.any fun x=>Cu.leB x s:=by
  cases h:X.any fun x=>Cu.leB x s with
  |true =>
    obtain⟨x,hx,hl⟩:=AeY.1 h;obtain⟨i,hi,rfl⟩:=Aem hx;refine EY.2 ⟨i,hi,?_⟩;rw[Ls hi];obtain⟨l1,l2⟩:=Cu.leB_iff.1 hl;unfold Ea;rw[decide_eq_true l1];exact decide_eq_true l2
  |false =>
    cases h2:DM (AD X) s.w s.h with
    |false=>rfl
    |true =>
      obtain⟨i,hi,hf⟩:=EY.1 h2;have hi:i<X.length:=hi;rw[Ls hi]at hf;unfold Ea at hf;rw[Lr,oE,decide_eq_true_eq,decide_eq_true_eq]at hf;have:(X.any fun x=>Cu.leB x s)=true:=AeY.2 ⟨X[i],Aeg hi,Cu.leB_iff.2 (show Cu.le X[i] s from hf)⟩;rw[h]at this;cases this
 unfold Ec Cu.ins;rw[hroom];cases h:X.any fun x=>Cu.leB x s with
 |true=>rw[if_pos rfl];rfl
 |false =>
   rw[if_neg (by decide),cond_false];have hno:∀x,x∈X->¬ Cu.le x s:=fun x hx q=>by
    have:(X.any fun x=>Cu.leB x s)=true:=AeY.2 ⟨x,hx,Cu.leB_iff.2 q⟩;rw[h]at this;cases this
   obtain⟨i1,i2⟩:=Za hX hno X.length (AdS _);rw[Afz]at i1 i2;have e1:X.filter (fun x=>decide (x.w<s.w))=JQ X s:=rfl;have e2:X.filter (fun x=>decide (s.w<x.w) && !Cu.leB s x)=FH X s:=rfl;rw[e1,e2];have en:(AD X).n=X.length:=rfl;unfold D9 Eb;rw[en];cases hp:(CB (AD X) s X.length).2 with
   |true =>
     rw[hp]at i2;rw[cond_true,i2];rfl
   |false =>
     rw[hp]at i1 i2;have n2:FH X s = []:=by
      cases h2:FH X s with
      |nil=>rfl
      |cons y l=>rw[h2]at i1;cases i1
     rw[cond_false,i2,n2];rfl
theorem Aae (C:List Ac) (s:Ac):Cu.stair (C ++ [s])=Cu.ins (Cu.stair C) s:=by unfold Cu.stair;rw[List.foldl_append];rfl
theorem PV (C:List Ac) (s:Ac):Ec (BY C) s=BY (C ++ [s]):=by
 unfold BY;rw[Aad (Cu.stair_ok C).1,Aae]
theorem Aaf {l:List Ac} (h:Cu.Stair l) {m:Nat}:(∀x,x∈l->0<=x.w/\x.w<=m)->l.length<=m+1:=fun hb=>by
 have key:∀i,(hi:i<l.length)->(i:Int)<=l[i].w:=fun i=>by
  induction i with
  |zero=>intro hi;exact(hb _ (Aeg hi)).1
  |succ i ih =>
    intro hi;have a:=ih (by omega);have b:=(AeV.1 h i (i+1) (by omega) hi (by omega)).1;omega
 rcases Nat.eq_zero_or_pos l.length with h0|h0
 ·omega
 ·have a:=key (l.length-1) (by omega);have b:=(hb _ (Aeg (show l.length-1<l.length by omega))).2;omega
theorem Aag (x:Ab) (gr:Int) {t:Nat} (ht:t<2):Nh x gr (t+1)=Nh x gr t++(if Do x.grain gr t=true then [Ch x.ol t]else []):=XP ⟨1,fun _=>x⟩ gr 0 ht
theorem Aah {w:L.Sq Ab} {gr:Int} {b t:Nat} (h:(Bs w b).n=1) (ht:t<2):Dh w gr b (t+1)=Dh w gr b t++(if Do ((Bs w b).g 0).grain gr t=true then [Ch ((Bs w b).g 0).ol t]else []):=by
 unfold Dh;rw[if_pos h,if_pos h];exact Aag _ gr ht
theorem PW {w:L.Sq Ab} {gr:Int} {b:Nat} (h:¬ (Bs w b).n=1) (t:Nat):Dh w gr b t = []:=by unfold Dh;rw[if_neg h]
theorem Aai (w:L.Sq Ab) (gr:Int) (b:Nat):D3 w gr b 1=Dh w gr b 2:=by
 unfold D3;have:(AdP 1).filter (fun q=>decide (1<=q)&&Gk b q)= []:=rfl;rw[this,List.flatMap_nil,AeA]
theorem Zb (w:L.Sq Ab) (gr:Int) (b:Nat) {p:Nat} (hp:1<=p):D3 w gr b (p+1)=D3 w gr b p++(if Gk b p=true then PU w gr b p else []):=by
 unfold D3;rw[Afb,Afo,Afu,AeG];congr 2
 by_cases h:Gk b p=true
 ·rw[if_pos h];simp[h,hp]
 ·rw[if_neg h];simp[h]
theorem Aaj (w:L.Sq Ab) (gr:Int) (b p:Nat):Fc w gr b p 0=D3 w gr b p:=by unfold Fc EL;simp
theorem Aak (w:L.Sq Ab) (gr:Int) {b p:Nat} (hp:1<=p) (hs:Gk b p=true):Fc w gr b p (AU w gr p).length=D3 w gr b (p+1):=by
 rw[Zb w gr b hp,if_pos hs];unfold Fc PU;rw[Afz]
theorem Aal (w:L.Sq Ab) (gr:Int) (b p i:Nat):Ed w gr b p i 0=Fc w gr b p i:=by unfold Ed;simp
theorem Aam (w:L.Sq Ab) (gr:Int) (b p i:Nat) {k:Nat} (hk:k<(AU w gr ((b:Int)-p)).length):Ed w gr b p i (k+1)=Ed w gr b p i k++Fu ((Ak w gr p).g i) ((Ak w gr ((b:Int)-p)).g k):=by
 unfold Ed;rw[Af1,AdH hk,Afu,AeG];have:(Ak w gr ((b:Int)-p)).g k=(AU w gr ((b:Int)-p))[k]:=Ls hk;rw[this];simp
theorem Aan (w:L.Sq Ab) (gr:Int) (b p:Nat) {i:Nat} (hi:i<(AU w gr p).length):Ed w gr b p i (AU w gr ((b:Int)-p)).length=Fc w gr b p (i+1):=by
 unfold Ed Fc;rw[Afz,Af1,AdH hi];have:(Ak w gr p).g i=(AU w gr p)[i]:=Ls hi;rw[this];unfold EL;rw[Afu,AeG];simp
def PX (n b:Nat):Bool:=if BM b=true then decide (B2 b n = [Be b])&&decide (Be b<n)&&((AdP b).all fun q=>!(decide (1<=q)&&Gk b q))else !decide ((B2 b n).length=1)
theorem Aao:((AdP 5).all fun n=>(AdP (2 ^ n)).all fun b=>decide (b=0)||PX n b)=true:=by kernel_rfl
theorem Aap {n b:Nat} (hn:n<=4) (hb:1<=b) (hb':b<2 ^ n):PX n b=true:=by
 have h:=AdO.1 (AdO.1 Aao n (AdQ.2 (by omega))) b (AdQ.2 hb');rw[Aen,decide_eq_true_eq]at h;rcases h with h|h
 ·omega
 ·exact h
def Zc (b:Nat):Bool:=((AdP b).all fun q=>!(decide (1<=q)&&Gk b q)||(AdP (AJ b)).any fun k=>(decide (Ao b k=q)&&decide (AZ b k=(b:Int)-q))||(decide (AZ b k=q)&&decide (Ao b k=(b:Int)-q))) &&
 (AdP (AJ b)).all fun k=>decide (1<=(Ao b k).toNat)&&(decide ((Ao b k).toNat<b)&&(Gk b (Ao b k).toNat&&(decide ((((Ao b k).toNat:Nat):Int)=Ao b k)&&decide (AZ b k=(b:Int)-(Ao b k).toNat))))
theorem Aaq:((AdP 16).all Zc)=true:=by kernel_rfl
theorem Aar {w:L.Sq Ab} {gr:Int} {b:Nat} {s:Ac} (ht:Dh w gr b 2 = []):∀p,Cu.cov (D3 w gr b p) s↔∃q,q<p/\1<=q/\Gk b q=true/\Jn (Cu.cov (AU w gr q)) (Cu.cov (AU w gr ((b:Int)-q))) s:=fun p=>by
 unfold D3;rw[ht,List.nil_append];constructor
 ·rintro⟨x,hx,hle⟩;obtain⟨q,hq,hx⟩:=Aex.1 hx;obtain⟨h1,h2⟩:=AdK.1 hq;rw[oE,decide_eq_true_eq]at h2;exact⟨q,AdQ.1 h1,h2.1,h2.2,PL.1 ⟨x,hx,hle⟩⟩
 ·rintro⟨q,h1,h2,h3,h4⟩;obtain⟨x,hx,hle⟩:=PL.2 h4;exact⟨x,Aex.2 ⟨q,AdK.2 ⟨AdQ.2 h1,by rw[oE,decide_eq_true_eq];exact⟨h2,h3⟩⟩,hx⟩,hle⟩
theorem Aas {w:L.Sq Ab} {gr:Int} {b:Nat} (hn:w.n<=4) (hb:1<=b) (hb':b<2 ^ w.n) (h15:b<=15):Cu.stair (D3 w gr b b)=AU w gr b:=by
 have hc:=Aap hn hb hb';unfold PX at hc;cases h1:BM (b:Int)with
 |true =>
   rw[if_pos h1,oE,oE,decide_eq_true_eq,decide_eq_true_eq]at hc;obtain⟨⟨c1,c2⟩,c3⟩:=hc;have e0:Bs w b=Dp w [Be b]:=by unfold Bs;rw[c1]
   have e1:(Bs w b).n=1:=by rw[e0];rfl
   have e2:(Bs w b).g 0=w.g (Be b):=by rw[e0];rfl
   have e3:D3 w gr b b=Dh w gr b 2:=by
    unfold D3;have:(AdP b).filter (fun q=>decide (1<=q)&&Gk b q)= []:=List.filter_eq_nil_iff.2 fun q hq=>by
     have h3:=AdO.1 c3 q hq;rw[Bool.not_eq_true']at h3;rw[h3];decide
    rw[this,List.flatMap_nil,AeA]
   rw[e3,PD w gr (by omega) (by omega) h1];unfold Dh;rw[if_pos e1,e2];rfl
 |false =>
   rw[if_neg (by rw[h1];decide)]at hc;have e1:¬ (Bs w b).n=1:=by
    have:¬ (B2 b w.n).length=1:=by simpa using hc
    exact this
   rw[Ll w gr (by omega) (by omega) h1];refine Cu.stair_congr fun s=>?_;rw[Aar (PW e1 2),PM];have hr:=AdO.1 Aaq b (AdQ.2 (by omega));unfold Zc at hr;rw[oE]at hr;obtain⟨r1,r2⟩:=hr;constructor
   ·rintro⟨q,q1,q2,q3,q4⟩;have:=AdO.1 r1 q (AdQ.2 q1);rw[decide_eq_true q2,q3,Bool.and_self,Bool.not_true,Bool.false_or]at this;obtain⟨k,hk,h⟩:=AeY.1 this;rw[Aen,oE,oE,decide_eq_true_eq,decide_eq_true_eq,decide_eq_true_eq,decide_eq_true_eq]at h;rcases h with ⟨h1,h2⟩|⟨h1,h2⟩
    ·exact⟨k,AdQ.1 hk,by rw[h1,h2];exact q4⟩
    ·exact⟨k,AdQ.1 hk,by rw[h1,h2];exact q4.symm⟩
   ·rintro⟨k,hk,h⟩;have:=AdO.1 r2 k (AdQ.2 hk);simp only[oE,decide_eq_true_eq]at this;obtain⟨a1,a2,a3,a4,a5⟩:=this;exact⟨(Ao b k).toNat,a2,a1,a3,by rw[<- a5,a4];exact h⟩
def GA (C:List Ac):Prop:=∀x,x∈C->0<=x.w/\x.w<=122880
theorem PY {C:List Ac} (h:GA C):(BY C).n<=1000000:=by
 have:=Aaf (Cu.stair_ok C).1 (m:=122880) (fun x hx=>h x (PF hx));show(Cu.stair C).length<=_;omega
theorem Ni {A B:List Ac} (h:GA A) (k:GA B):GA (A++B):=fun x hx=>by
 rcases List.mem_append.1 hx with hx|hx
 ·exact h x hx
 ·exact k x hx
theorem Zd (w:L.Sq Ab) (gr:Int) (b t:Nat):GA (Dh w gr b t):=fun x hx=>by
 unfold Dh at hx;split at hx
 ·unfold Nh at hx;obtain⟨u,_,rfl⟩:=List.mem_map.1 hx;have:=XJ ((Bs w b).g 0).ol u;omega
 ·cases hx
theorem If (w:L.Sq Ab) (gr:Int) {q:Int} (h0:0<=q) (h1:q<=15):∀s,s∈AU w gr q->0<=s.w/\s.w<=61440/\0<=s.h/\s.h<=61440:=fun s hs=>by
 have:=(IL w gr h0 h1).bd s hs;omega
theorem Ze {a b:Ac} (ha:0<=a.w/\a.w<=61440/\0<=a.h/\a.h<=61440) (hb:0<=b.w/\b.w<=61440/\0<=b.h/\b.h<=61440):GA (Fu a b):=fun x hx=>by
 unfold Fu at hx;rcases AdR.1 hx with rfl|hx
 ·show 0<=a.w+b.w/\a.w+b.w<=122880;omega
 ·rw[AdY.1 hx];show 0<=max a.w b.w/\max a.w b.w<=122880;omega
theorem Zf {A B:List Ac} (hA:∀s,s∈A->0<=s.w/\s.w<=61440/\0<=s.h/\s.h<=61440) (hB:∀s,s∈B->0<=s.w/\s.w<=61440/\0<=s.h/\s.h<=61440):GA (EL A B):=fun x hx=>by
 unfold EL at hx;obtain⟨a,ha,hx⟩:=Aex.1 hx;obtain⟨b,hb,hx⟩:=Aex.1 hx;exact Ze (hA a ha) (hB b hb) x hx
theorem Aat (w:L.Sq Ab) (gr:Int) {b p:Nat} (hb:b<=15) (hp:p<=b):GA (D3 w gr b p):=Ni (Zd w gr b 2) fun x hx=>by
 obtain⟨q,hq,hx⟩:=Aex.1 hx;have:=AdQ.1 (AdK.1 hq).1;exact Zf (If w gr (by omega) (by omega)) (If w gr (by omega) (by omega)) x hx
theorem Aau (w:L.Sq Ab) (gr:Int) {b p:Nat} (hb:b<=15) (hp:p<b) (i:Nat):GA (Fc w gr b p i):=Ni (Aat w gr hb (by omega)) (Zf (fun s hs=>If w gr (by omega) (by omega) s (List.mem_of_mem_take hs)) (If w gr (by omega) (by omega)))
theorem Zg (w:L.Sq Ab) (gr:Int) {b p i:Nat} (hb:b<=15) (hp:p<b) (hi:i<(AU w gr p).length) (k:Nat):GA (Ed w gr b p i k):=Ni (Aau w gr hb hp i) fun x hx=>by
 obtain⟨y,hy,hx⟩:=Aex.1 hx;exact Ze (If w gr (by omega) (by omega) _ (JK (show i<(Ak w gr p).n from hi))) (If w gr (by omega) (by omega) y (List.mem_of_mem_take hy)) x hx
section
attribute [local irreducible] DZ AU
def Zh (w:(L.Sq Ab)) (gr:Int):Prop:=Bv w
def Zi (w:(L.Sq Ab)) (gr:Int):SV:=.sl 1 (AG w) (fun k=>[.sl 2 (Ak w gr (k:Int)).n (fun i=>[.int .i64 (((Ak w gr (k:Int)).g i).w),.int .i64 (((Ak w gr (k:Int)).g i).h)])])
def Zj:List EV->Option (Prop×SV)
 |[.p (.sl 4 w_n w_g),.p (.int .i64 gr)]=>some ((∀i,i<w_n->Dn (w_g i))/\Zh (⟨w_n,fun i=>Bx (w_g i)⟩:(L.Sq Ab)) gr,Zi (⟨w_n,fun i=>Bx (w_g i)⟩:(L.Sq Ab)) gr)
 |_=>none
abbrev Zk:SE.Spec:=(AI Zj)
def Aav:Al:={ cC with muts:=[13,14,17],specs:=AC [(78,PT),(79,Xp),(81,WQ),(80,YZ)] }
theorem Aaw (w:(L.Sq Ab)) (gr:Int) (hp:Zh w gr):vc Tryz.prog ({ Aav with loops:=AT [(3,{ T:=Nat,keep:=[0,1,5],keepO:=[],chg:=fun b=>[(6,.p (.int .i64 (b:Int)))],own:=fun b=>[(17,.row 27 1 b (fun k=>[.sl 2 (Ak w gr (k:Int)).n (fun i=>[.int .i64 (((Ak w gr (k:Int)).g i).w),.int .i64 (((Ak w gr (k:Int)).g i).h)])]))],inv:=fun b=>1<=b/\b<=AG w,mu:=fun b=>AG w-b }),(8,{ T:=Nat×Nat,keep:=[0,1,5,6,8],keepO:=[17],chg:=fun t=>[(7,.p (.sl 2 (BY (Dh w gr t.2 t.1)).n (fun i=>[.int .i64 (((BY (Dh w gr t.2 t.1)).g i).w),.int .i64 (((BY (Dh w gr t.2 t.1)).g i).h)]))),(9,.p (.int .i64 (t.1:Int)))],own:=fun _=>[],inv:=fun t=>t.1<=2,mu:=fun t=>2-t.1,tie:=fun t=>[(6,.int .i64 (t.2:Int))] }),(13,{ T:=Nat×Nat,keep:=[0,1,5,6],keepO:=[17],chg:=fun t=>[(7,.p (.sl 2 (BY (D3 w gr t.2 t.1)).n (fun i=>[.int .i64 (((BY (D3 w gr t.2 t.1)).g i).w),.int .i64 (((BY (D3 w gr t.2 t.1)).g i).h)]))),(10,.p (.int .i64 (t.1:Int)))],own:=fun _=>[],inv:=fun t=>1<=t.1/\t.1<=t.2,mu:=fun t=>t.2-t.1,tie:=fun t=>[(6,.int .i64 (t.2:Int))] }),(17,{ T:=Nat×Nat×Nat,keep:=[0,1,5,6,10],keepO:=[17],chg:=fun t=>[(7,.p (.sl 2 (BY (Fc w gr t.2.1 t.2.2 t.1)).n (fun i=>[.int .i64 (((BY (Fc w gr t.2.1 t.2.2 t.1)).g i).w),.int .i64 (((BY (Fc w gr t.2.1 t.2.2 t.1)).g i).h)]))),(11,.p (.int .i64 (t.1:Int)))],own:=fun _=>[],inv:=fun t=>t.1<=(Ak w gr t.2.2).n,mu:=fun t=>(Ak w gr t.2.2).n-t.1,tie:=fun t=>[(6,.int .i64 (t.2.1:Int)),(10,.int .i64 (t.2.2:Int))] }),(20,{ T:=Nat×Nat×Nat×Nat,keep:=[0,1,5,6,10,11],keepO:=[17],chg:=fun t=>[(7,.p (.sl 2 (BY (Ed w gr t.2.1 t.2.2.1 t.2.2.2 t.1)).n (fun i=>[.int .i64 (((BY (Ed w gr t.2.1 t.2.2.1 t.2.2.2 t.1)).g i).w),.int .i64 (((BY (Ed w gr t.2.1 t.2.2.1 t.2.2.2 t.1)).g i).h)]))),(12,.p (.int .i64 (t.1:Int)))],own:=fun _=>[],inv:=fun t=>t.1<=(Ak w gr ((t.2.1:Int)-t.2.2.1)).n,mu:=fun t=>(Ak w gr ((t.2.1:Int)-t.2.2.1)).n-t.1,tie:=fun t=>[(6,.int .i64 (t.2.1:Int)),(10,.int .i64 (t.2.2.1:Int)),(11,.int .i64 (t.2.2.2:Int))] })],rfs:=AP [] }) (Ai Tryz.f40) (Au Tryz.f40 [.p (.sl 4 w.n (fun i=>[.int .i64 ((w.g i).id),.int .i64 ((w.g i).colour),.int .i64 ((w.g i).grain),.sl 2 (w.g i).ol.n (fun i1=>[.int .i64 (((w.g i).ol.g i1).x),.int .i64 (((w.g i).ol.g i1).y)])])),.p (.int .i64 gr)]) (AH Tryz.prog Tryz.f40 (Zi w gr)):=
 @Eq.mpr _ (let I:=SV.int .i64;let T:=Aee;let A52:=(↑w.n:Int);let A49:=(1000000:Nat);let A48:=(1:Nat);let A28:=(2:Nat);let A24:=(0:Int);let A22:=(1:Int);let A2:=(w.n=w.n/\∀(i:Nat),let A17:=[I (w.g i).id,I (w.g i).colour,I (w.g i).grain,SV.sl A28 (w.g i).ol.n fun(i1:Nat)=>[I ((w.g i).ol.g i1).x,I ((w.g i).ol.g i1).y]];i<w.n->A17=A17);(∃(g:Nat),A22=(↑g:Int)/\(nat_lit 1=g/\∀(i:Nat),let A42:=(Ak w gr (↑i:Int));i<nat_lit 1->Ce [SV.sl (nat_lit 2) (nat_lit 1) fun(x:Nat)=>[I A24,I A24]] (nat_lit 1) i = [SV.sl A28 A42.n fun(i_1:Nat)=>[I (A42.g i_1).w,I (A42.g i_1).h]])/\A48<=g/\g<=AG w)/\∀(g:Nat),let A9:=(↑g:Int);let A5:=(Bs w A9);let A51:=(A24<=A24/\A24<(↑A5.n:Int));let A15:=(A5.g (T A24));let A10:=(A5.n=A5.n/\∀(i:Nat),let A16:=[I (A5.g i).id,I (A5.g i).colour,I (A5.g i).grain,SV.sl A28 (A5.g i).ol.n fun(i_1:Nat)=>[I ((A5.g i).ol.g i_1).x,I ((A5.g i).ol.g i_1).y]];i<A5.n->A16=A16);let A3:=(g=g/\∀(i:Nat),let A43:=(Ak w gr (↑i:Int));let A18:=[SV.sl A28 A43.n fun(i_1:Nat)=>[I (A43.g i_1).w,I (A43.g i_1).h]];i<g->A18=A18);A48<=g/\g<=AG w->A24<=A52/\Ad .i64 (Bi A22 A52)/\(decide (A9<Bi A22 A52)=true->((∀(i:Nat),i<w.n->∀(i_1:Nat),let A41:=((w.g i).ol.g i_1);i_1<(w.g i).ol.n -> [I A41.x,I A41.y]= [I A41.x,I A41.y])/\w.n<=(1000:Nat))/\(∃(g_1:Nat×Nat),(BY (Dh w gr g_1.2 g_1.1)).n=(0:Nat)/\A24=(↑g_1.1:Int)/\A9=(↑g_1.2:Int)/\g_1.1<=A28)/\∀(g_1:Nat×Nat),let A20:=(↑g_1.1:Int);let A27:=(bif decide (A20<(2:Int))then decide ((↑A5.n:Int)=A22)else false);let A8:=(BY (Dh w gr g_1.2 g_1.1));let A29:=(Ec A8 (Ch A15.ol A20));A9=(↑g_1.2:Int)/\g_1.1<=A28->(A27=true->A51/\True/\(Do A15.grain gr A20=true->A51/\((∀(i:Nat),let A50:=[I (A15.ol.g i).x,I (A15.ol.g i).y];i<A15.ol.n->A50=A50)/\A15.ol.n<=A49)/\((∀(i:Nat),let A56:=[I (A8.g i).w,I (A8.g i).h];i<A8.n->A56=A56)/\A8.n<=A49)/\Ad .i64 (A20+A22)/\∃(g':Nat×Nat),let A35:=(BY (Dh w gr g'.2 g'.1));(A29.n=A35.n/\∀(i:Nat),i<A29.n -> [I (A29.g i).w,I (A29.g i).h]= [I (A35.g i).w,I (A35.g i).h])/\A20+A22=(↑g'.1:Int)/\A10/\A9=A9/\A2/\gr=gr/\A3/\(A9=(↑g'.2:Int)/\g'.1<=A28)/\A28-g'.1<A28-g_1.1)/\(Do A15.grain gr A20=false->Ad .i64 (A20+A22)/\∃(g':Nat×Nat),let A36:=(BY (Dh w gr g'.2 g'.1));(A8.n=A36.n/\∀(i:Nat),i<A8.n -> [I (A8.g i).w,I (A8.g i).h]= [I (A36.g i).w,I (A36.g i).h])/\A20+A22=(↑g'.1:Int)/\A10/\A9=A9/\A2/\gr=gr/\A3/\(A9=(↑g'.2:Int)/\g'.1<=A28)/\A28-g'.1<A28-g_1.1))/\(A27=false->(∃(g_2:Nat×Nat),let A34:=(BY (D3 w gr g_2.2 g_2.1));(A8.n=A34.n/\∀(i:Nat),i<A8.n -> [I (A8.g i).w,I (A8.g i).h]= [I (A34.g i).w,I (A34.g i).h])/\A22=(↑g_2.1:Int)/\A9=(↑g_2.2:Int)/\A48<=g_2.1/\g_2.1<=g_2.2)/\∀(g_2:Nat×Nat),let A11:=(BY (D3 w gr g_2.2 g_2.1));let A6:=(↑g_2.1:Int);let A59:=(A9-A6);let A54:=(A24<=A9-A6/\A9-A6<A9);let A44:=(!decide (BT A6 A9=A6));let A31:=(Ak w gr (↑(T A6):Int));let A60:=(↑A31.n:Int);let A26:=(Ak w gr (↑(T A59):Int));let A61:=(↑A26.n:Int);A9=(↑g_2.2:Int)/\A48<=g_2.1/\g_2.1<=g_2.2->(decide (A6<A9)=true->(A44=true->Ad .i64 (A6+A22)/\∃(g':Nat×Nat),let A37:=(BY (D3 w gr g'.2 g'.1));(A11.n=A37.n/\∀(i:Nat),i<A11.n -> [I (A11.g i).w,I (A11.g i).h]= [I (A37.g i).w,I (A37.g i).h])/\A6+A22=(↑g'.1:Int)/\A9=A9/\A2/\gr=gr/\A3/\(A9=(↑g'.2:Int)/\A48<=g'.1/\g'.1<=g'.2)/\g'.2-g'.1<g_2.2-g_2.1)/\(A44=false->(∃(g_3:Nat×Nat×Nat),let A30:=(BY (Fc w gr g_3.2.1 g_3.2.2 g_3.1));(A11.n=A30.n/\∀(i:Nat),i<A11.n -> [I (A11.g i).w,I (A11.g i).h]= [I (A30.g i).w,I (A30.g i).h])/\A24=(↑g_3.1:Int)/\A9=(↑g_3.2.1:Int)/\A6=(↑g_3.2.2:Int)/\g_3.1<=(Ak w gr (↑g_3.2.2:Int)).n)/\∀(g_3:Nat×Nat×Nat),let A53:=(Ak w gr (↑g_3.2.2:Int));let A21:=(↑g_3.1:Int);let A14:=(A31.g (T A21));let A13:=(BY (Fc w gr g_3.2.1 g_3.2.2 g_3.1));A9=(↑g_3.2.1:Int)/\A6=(↑g_3.2.2:Int)/\g_3.1<=A53.n->(A24<=A6/\A6<A9)/\T A6<g/\(decide (A21<A60)=true->(∃(g_4:Nat×Nat×Nat×Nat),let A23:=(BY (Ed w gr g_4.2.1 g_4.snd.2.1 g_4.snd.2.2 g_4.1));(A13.n=A23.n/\∀(i:Nat),i<A13.n -> [I (A13.g i).w,I (A13.g i).h]= [I (A23.g i).w,I (A23.g i).h])/\A24=(↑g_4.1:Int)/\A9=(↑g_4.2.1:Int)/\A6=(↑g_4.snd.2.1:Int)/\A21=(↑g_4.snd.2.2:Int)/\g_4.1<=(Ak w gr ((↑g_4.2.1:Int)-(↑g_4.snd.2.1:Int))).n)/\∀(g_4:Nat×Nat×Nat×Nat),let A39:=(Ak w gr ((↑g_4.2.1:Int)-(↑g_4.snd.2.1:Int)));let A33:=(↑g_4.1:Int);let A12:=(A26.g (T A33));let A7:=(BY (Ed w gr g_4.2.1 g_4.snd.2.1 g_4.snd.2.2 g_4.1));let A1:=(Ec A7 (Ac.mk (A14.w+A12.w) (Max.max A14.h A12.h)));let A4:=(Ec A1 (Ac.mk (Max.max A14.w A12.w) (A14.h+A12.h)));A9=(↑g_4.2.1:Int)/\A6=(↑g_4.snd.2.1:Int)/\A21=(↑g_4.snd.2.2:Int)/\g_4.1<=A39.n->Ad .i64 A59/\A54/\T A59<g/\(decide (A33<A61)=true->(A24<=A6/\A6<A9)/\T A6<g/\(A24<=A21/\A21<A60)/\Ad .i64 A59/\A54/\T A59<g/\(A24<=A33/\A33<A61)/\Ad .i64 (A14.w+A12.w)/\((∀(i:Nat),let A57:=[I (A7.g i).w,I (A7.g i).h];i<A7.n->A57=A57)/\A7.n<=A49)/\Ad .i64 (A14.h+A12.h)/\((∀(i:Nat),let A58:=[I (A1.g i).w,I (A1.g i).h];i<A1.n->A58=A58)/\A1.n<=A49)/\Ad .i64 (A33+A22)/\∃(g':Nat×Nat×Nat×Nat),let A40:=(Ak w gr ((↑g'.2.1:Int)-(↑g'.snd.2.1:Int)));let A25:=(BY (Ed w gr g'.2.1 g'.snd.2.1 g'.snd.2.2 g'.1));(A4.n=A25.n/\∀(i:Nat),i<A4.n -> [I (A4.g i).w,I (A4.g i).h]= [I (A25.g i).w,I (A25.g i).h])/\A33+A22=(↑g'.1:Int)/\A21=A21/\A6=A6/\A9=A9/\A2/\gr=gr/\A3/\(A9=(↑g'.2.1:Int)/\A6=(↑g'.snd.2.1:Int)/\A21=(↑g'.snd.2.2:Int)/\g'.1<=A40.n)/\A40.n-g'.1<A39.n-g_4.1)/\(decide (A33<A61)=false->Ad .i64 (A21+A22)/\∃(g':Nat×Nat×Nat),let A55:=(Ak w gr (↑g'.2.2:Int));let A32:=(BY (Fc w gr g'.2.1 g'.2.2 g'.1));(A7.n=A32.n/\∀(i:Nat),i<A7.n -> [I (A7.g i).w,I (A7.g i).h]= [I (A32.g i).w,I (A32.g i).h])/\A21+A22=(↑g'.1:Int)/\A6=A6/\A9=A9/\A2/\gr=gr/\A3/\(A9=(↑g'.2.1:Int)/\A6=(↑g'.2.2:Int)/\g'.1<=A55.n)/\A55.n-g'.1<A53.n-g_3.1))/\(decide (A21<A60)=false->Ad .i64 (A6+A22)/\∃(g':Nat×Nat),let A38:=(BY (D3 w gr g'.2 g'.1));(A13.n=A38.n/\∀(i:Nat),i<A13.n -> [I (A13.g i).w,I (A13.g i).h]= [I (A38.g i).w,I (A38.g i).h])/\A6+A22=(↑g'.1:Int)/\A9=A9/\A2/\gr=gr/\A3/\(A9=(↑g'.2:Int)/\A48<=g'.1/\g'.1<=g'.2)/\g'.2-g'.1<g_2.2-g_2.1)))/\(decide (A6<A9)=false->(g+nat_lit 1)*nat_lit 24<=(140737488355328:Nat)/\Ad .i64 (A9+A22)/\∃(g':Nat),A9+A22=(↑g':Int)/\A2/\gr=gr/\(g+nat_lit 1=g'/\∀(i:Nat),let A46:=(Ak w gr (↑i:Int));i<g+nat_lit 1->AN g (fun(k:Nat)=>let A45:=(Ak w gr (↑k:Int));[SV.sl A28 A45.n fun(i:Nat)=>[I (A45.g i).w,I (A45.g i).h]]) (fun(x:Nat)=>[SV.sl (nat_lit 2) A11.n fun(i:Nat)=>[I (A11.g i).w,I (A11.g i).h]]) i = [SV.sl A28 A46.n fun(i_1:Nat)=>[I (A46.g i_1).w,I (A46.g i_1).h]])/\(A48<=g'/\g'<=AG w)/\AG w-g'<AG w-g)))/\(decide (A9<Bi A22 A52)=false->g=AG w/\∀(i:Nat),let A47:=(Ak w gr (↑i:Int));let A19:=[SV.sl A28 A47.n fun(i_1:Nat)=>[I (A47.g i_1).w,I (A47.g i_1).h]];i<g->A19=A19)) (by kernel_rfl) (by
 conv=>zeta
 have hok:Bv w:=hp;obtain⟨hn4,hol⟩:=hok;obtain⟨a1,a2,a3,a4⟩:=Gi hn4;have nE:(AG w:Int)=Bi 1 w.n:=Int.toNat_of_nonneg a3;have nP:AG w=2 ^ w.n:=by
  unfold AG;have h:∀n,n<=4->(Bi 1 (n:Nat)).toNat=2 ^ n:=fun n hn=>by
   have:n=0\/n=1\/n=2\/n=3\/n=4:=by omega
   rcases this with rfl|rfl|rfl|rfl|rfl<;>rfl
  exact h w.n hn4
 have ol:∀i,i<w.n->∀j,j<(w.g i).ol.n -> [SV.int .i64 ((w.g i).ol.g j).x,SV.int .i64 ((w.g i).ol.g j).y]= [SV.int .i64 ((w.g i).ol.g j).x,SV.int .i64 ((w.g i).ol.g j).y]:=fun _ _ _ _=>rfl;have eqS:∀(x y:L.Sq Ac),x=y->x.n=y.n/\∀i,i<x.n -> [SV.int .i64 (x.g i).w,SV.int .i64 (x.g i).h]= [SV.int .i64 (y.g i).w,SV.int .i64 (y.g i).h]:=fun x y h=>by subst h;exact⟨rfl,fun _ _=>rfl⟩
 refine⟨⟨1,rfl,⟨rfl,fun i hi=>?_⟩,AdS _,by rw[nP];exact Nat.one_le_two_pow⟩,fun b hb=>?_⟩
 ·have hi:i<1:=hi;obtain rfl:i=0:=by omega
  have e:Ak w gr ((0:Nat):Int)=AD [⟨0,0⟩]:=by unfold Ak;rw[show(((0:Nat):Int))=0 from rfl,Lk]
  rw[e];exact congrArg (fun g=>[SV.sl 2 1 g]) (funext fun i=>by
   show [SV.int .i64 0,SV.int .i64 0]= [SV.int .i64 (List.getD [(⟨0,0⟩:Ac)] i ⟨0,0⟩).w,SV.int .i64 (List.getD [(⟨0,0⟩:Ac)] i ⟨0,0⟩).h];cases i<;>rfl)
 obtain⟨hb1,hbN⟩:=hb;refine⟨by omega,jK,fun hc=>?_,fun hc=>?_⟩;rotate_left
 ·have hc:¬ (b:Int)<Bi 1 w.n:=of_decide_eq_false hc;exact⟨by omega,fun _ _=>rfl⟩
 have hc:(b:Int)<Bi 1 w.n:=of_decide_eq_true hc;have hbn:b<2 ^ w.n:=by rw[<- nP];omega
 have b15:b<=15:=by omega
 have kb:Ad .i64 ((b:Int)+1):=jK;have cb:(b:Int)+1=((b+1:Nat):Int):=by omega
 have fin:BY (D3 w gr b b)=Ak w gr b:=by unfold BY Ak;rw[Aas hn4 hb1 hbn b15]
 have z0:Dh w gr b 0 = []:=by unfold Dh;split<;>rfl
 refine⟨⟨ol,by omega⟩,⟨(0,b),(by(try dsimp only);(repeat' with_reducible apply And.intro)<;>first|with_reducible rfl|with_reducible exact AdL _|with_reducible exact fun _=>rfl|with_reducible exact fun _ _=>rfl|with_reducible exact trivial|exact rfl|(intro _;exact rfl)|(intro _ _;exact rfl)|exact AdL _|exact(by rw[z0];rfl)|exact trivial|(intro _ h_;exact absurd h_ (nT _)))⟩,fun t ht=>?_⟩;obtain⟨t,b2⟩:=t;obtain⟨tb1,tt⟩:=ht;have tb1:(b:Int)=(b2:Int):=tb1;obtain rfl:b=b2:=by omega
 have tt:t<=2:=tt;dsimp only;refine⟨fun hg=>?_,fun hg=>?_⟩
 ·rw[Lr,oE,decide_eq_true_eq,decide_eq_true_eq]at hg;obtain⟨t2,s1⟩:=hg;have t2:t<2:=by omega
  have s1:(Bs w b).n=1:=by omega
  have i0:(0:Int)<=0/\(0:Int)<((Bs w b).n:Int):=by omega
  have hx:((Bs w b).g 0).ol.n<=1000000:=by
   have hlen:(B2 b w.n).length=1:=s1;have hm:(B2 b w.n).getD 0 0∈B2 b w.n:=by
    rw[AS,AdH (by omega)];exact Aeg _
   exact hol _ (AdQ.1 (AdK.1 hm).1)
  have nx:=Aah (gr:=gr) s1 t2;have k1:Ad .i64 ((t:Int)+1):=jK;have ct:(t:Int)+1=((t+1:Nat):Int):=by omega
  have l1:t+1<=2:=t2;have l2:2-(t+1)<2-t:=by omega
  refine⟨i0,trivial,fun ha=>⟨i0,⟨fun _ _=>rfl,hx⟩,⟨fun _ _=>rfl,PY (Zd w gr b t)⟩,k1,(t+1,b),?_⟩,fun ha=>⟨k1,(t+1,b),?_⟩⟩
  ·have ha:Do ((Bs w b).g 0).grain gr t=true:=ha;rw[if_pos ha]at nx;have q:=eqS _ _ (show Ec (BY (Dh w gr b t)) (Ch ((Bs w b).g (Aee 0)).ol t)=BY (Dh w gr b (t+1))by rw[PV,nx];rfl);exact(by(try dsimp only);(repeat' with_reducible apply And.intro)<;>first|with_reducible rfl|with_reducible assumption|with_reducible exact q.1|with_reducible exact q.2|with_reducible exact fun _=>rfl|with_reducible exact fun _ _=>rfl|with_reducible exact trivial|exact rfl|(intro _;exact rfl)|(intro _ _;exact rfl)|exact q.1|exact q.2|exact ct|exact l1|exact l2|exact trivial|(intro _ h_;exact absurd h_ (nT _)))
  ·have ha:Do ((Bs w b).g 0).grain gr t=false:=ha;rw[if_neg (by rw[ha];decide),AeA]at nx;rw[nx];exact(by(try dsimp only);(repeat' with_reducible apply And.intro)<;>first|with_reducible rfl|with_reducible assumption|with_reducible exact fun _=>rfl|with_reducible exact fun _ _=>rfl|with_reducible exact trivial|exact rfl|(intro _;exact rfl)|(intro _ _;exact rfl)|exact ct|exact l1|exact l2|exact trivial|(intro _ h_;exact absurd h_ (nT _)))
 have hT:Dh w gr b t=Dh w gr b 2:=by
  by_cases s1:(Bs w b).n=1
  ·have : t = 2 :=by
    rw[Lr,Bool.and_eq_false_iff,decide_eq_false_iff_not,decide_eq_false_iff_not]at hg;omega
   rw[this]
  ·rw[PW s1,PW s1]
 rw[hT,<- Aai];refine⟨⟨(1,b),(by(try dsimp only);(repeat' with_reducible apply And.intro)<;>first|with_reducible rfl|with_reducible assumption|with_reducible exact AdS _|with_reducible exact fun _=>rfl|with_reducible exact fun _ _=>rfl|with_reducible exact trivial|exact rfl|(intro _;exact rfl)|(intro _ _;exact rfl)|exact AdS _|exact hb1|exact trivial|(intro _ h_;exact absurd h_ (nT _)))⟩,fun t ht=>?_⟩;obtain⟨p,b2⟩:=t;obtain⟨tb1,p1,pb⟩:=ht;have tb1:(b:Int)=(b2:Int):=tb1;obtain rfl:b=b2:=by omega
 have p1:1<=p:=p1;have pb:p<=b:=pb;have kp:Ad .i64 ((p:Int)+1):=jK;have cp:(p:Int)+1=((p+1:Nat):Int):=by omega
 dsimp only;refine⟨fun hc2=>?_,fun hc2=>?_⟩;rotate_left
 ·have hc2:¬ (p:Int)<(b:Int):=of_decide_eq_false hc2;obtain rfl:p=b:=by omega
  rw[fin];have g1:p+1<=AG w:=by omega
  have g2:AG w-(p+1)<AG w-p:=by omega
  have g0:1<=p+1:=by omega
  have rows:∀i,i<p+1->AN p (fun(k:Nat)=>[SV.sl 2 (Ak w gr k).n fun(i:Nat)=>[SV.int .i64 ((Ak w gr k).g i).w,SV.int .i64 ((Ak w gr k).g i).h]]) (fun _=>[SV.sl 2 (Ak w gr p).n fun(i:Nat)=>[SV.int .i64 ((Ak w gr p).g i).w,SV.int .i64 ((Ak w gr p).g i).h]]) i = [SV.sl 2 (Ak w gr i).n fun(j:Nat)=>[SV.int .i64 ((Ak w gr i).g j).w,SV.int .i64 ((Ak w gr i).g j).h]]:=fun i hi=>by
   unfold AN
   by_cases h:i<p
   ·rw[if_pos h]
   ·rw[if_neg h];obtain rfl:i=p:=by omega
    rfl
  exact⟨by omega,kb,p+1,(by(try dsimp only);(repeat' with_reducible apply And.intro)<;>first|with_reducible rfl|with_reducible assumption|with_reducible exact fun _=>rfl|with_reducible exact fun _ _=>rfl|with_reducible exact trivial|exact rfl|(intro _;exact rfl)|(intro _ _;exact rfl)|exact rows|exact cb|exact g0|exact g1|exact g2|exact trivial|(intro _ h_;exact absurd h_ (nT _)))⟩
 have hc2:(p:Int)<(b:Int):=of_decide_eq_true hc2;have plt:p<b:=by omega
 have pe:((p:Int)).toNat=p:=Aea p;have be:((((b:Int)-(p:Int)).toNat:Nat):Int)=(b:Int)-p:=by omega
 have nx:=Zb w gr b p1;have l1:p+1<=b:=plt;have l2:b-(p+1)<b-p:=by omega
 have l0:1<=p+1:=by omega
 refine⟨fun hs=>⟨kp,(p+1,b),?_⟩,fun hs=>⟨⟨(0,b,p),?_⟩,fun t ht=>?_⟩⟩
 ·have hs:Gk b p=false:=Cx hs;rw[if_neg (by rw[hs];decide),AeA]at nx;rw[nx];exact(by(try dsimp only);(repeat' with_reducible apply And.intro)<;>first|with_reducible rfl|with_reducible assumption|with_reducible exact fun _=>rfl|with_reducible exact fun _ _=>rfl|with_reducible exact trivial|exact rfl|(intro _;exact rfl)|(intro _ _;exact rfl)|exact cp|exact l0|exact l1|exact l2|exact trivial|(intro _ h_;exact absurd h_ (nT _)))
 ·rw[Aaj];exact(by(try dsimp only);(repeat' with_reducible apply And.intro)<;>first|with_reducible rfl|with_reducible exact AdL _|with_reducible exact fun _=>rfl|with_reducible exact fun _ _=>rfl|with_reducible exact trivial|exact rfl|(intro _;exact rfl)|(intro _ _;exact rfl)|exact AdL _|exact trivial|(intro _ h_;exact absurd h_ (nT _)))
 have hs:Gk b p=true:=BW hs;obtain⟨i,b2,p2⟩:=t;obtain⟨tb1,tp1,ti⟩:=ht;have tb1:(b:Int)=(b2:Int):=tb1;have tp1:(p:Int)=(p2:Int):=tp1;obtain rfl:b=b2:=by omega
 obtain rfl:p=p2:=by omega
 have ti:i<=(AU w gr p).length:=ti;have lA:=IN w gr (g:=(p:Int)) (by omega) (by omega);have lB:=IN w gr (g:=(b:Int)-p) (by omega) (by omega);have cp0:0<=(p:Int)/\(p:Int)<(b:Int):=by omega
 have ki:Ad .i64 ((i:Int)+1):=jK;have ci:(i:Int)+1=((i+1:Nat):Int):=by omega
 dsimp only;rw[pe];refine⟨cp0,plt,fun hc3=>?_,fun hc3=>⟨kp,(p+1,b),?_⟩⟩;rotate_left
 ·have hc3:¬ (i:Int)<((Ak w gr p).n:Int):=of_decide_eq_false hc3;have en:(Ak w gr p).n=(AU w gr p).length:=rfl;obtain rfl:i=(AU w gr p).length:=by omega
  rw[Aak w gr p1 hs];exact(by(try dsimp only);(repeat' with_reducible apply And.intro)<;>first|with_reducible rfl|with_reducible assumption|with_reducible exact fun _=>rfl|with_reducible exact fun _ _=>rfl|with_reducible exact trivial|exact rfl|(intro _;exact rfl)|(intro _ _;exact rfl)|exact cp|exact l0|exact l1|exact l2|exact trivial|(intro _ h_;exact absurd h_ (nT _)))
 have hc3:(i:Int)<((Ak w gr p).n:Int):=of_decide_eq_true hc3;have enA:(Ak w gr p).n=(AU w gr p).length:=rfl;have enB:(Ak w gr ((b:Int)-p)).n=(AU w gr ((b:Int)-p)).length:=rfl;have ilt:i<(AU w gr p).length:=by omega
 refine⟨⟨(0,b,p,i),?_⟩,fun t ht=>?_⟩
 ·rw[Aal];exact(by(try dsimp only);(repeat' with_reducible apply And.intro)<;>first|with_reducible rfl|with_reducible exact AdL _|with_reducible exact fun _=>rfl|with_reducible exact fun _ _=>rfl|with_reducible exact trivial|exact rfl|(intro _;exact rfl)|(intro _ _;exact rfl)|exact AdL _|exact trivial|(intro _ h_;exact absurd h_ (nT _)))
 obtain⟨k,b2,p2,i2⟩:=t;obtain⟨tb1,tp1,ti1,tk⟩:=ht;have tb1:(b:Int)=(b2:Int):=tb1;have tp1:(p:Int)=(p2:Int):=tp1;have ti1:(i:Int)=(i2:Int):=ti1;obtain rfl:b=b2:=by omega
 obtain rfl:p=p2:=by omega
 obtain rfl:i=i2:=by omega
 have tk:k<=(AU w gr ((b:Int)-p)).length:=tk;have kk:Ad .i64 ((k:Int)+1):=jK;have ck:(k:Int)+1=((k+1:Nat):Int):=by omega
 have ksub:Ad .i64 ((b:Int)-p):=jK;have csub:0<=(b:Int)-p/\(b:Int)-p<(b:Int):=by omega
 have nsub:((b:Int)-p).toNat<b:=by omega
 dsimp only;rw[be];refine⟨ksub,csub,nsub,fun hc4=>?_,fun hc4=>⟨ki,(i+1,b,p),?_⟩⟩;rotate_left
 ·have hc4:¬ (k:Int)<((Ak w gr ((b:Int)-p)).n:Int):=of_decide_eq_false hc4;obtain rfl:k=(AU w gr ((b:Int)-p)).length:=by omega
  rw[Aan w gr b p ilt];have m1:i+1<=(Ak w gr p).n:=by omega
  have m2:(Ak w gr p).n-(i+1)<(Ak w gr p).n-i:=by omega
  exact(by(try dsimp only);(repeat' with_reducible apply And.intro)<;>first|with_reducible rfl|with_reducible assumption|with_reducible exact fun _=>rfl|with_reducible exact fun _ _=>rfl|with_reducible exact trivial|exact rfl|(intro _;exact rfl)|(intro _ _;exact rfl)|exact ci|exact m1|exact m2|exact trivial|(intro _ h_;exact absurd h_ (nT _)))
 have hc4:(k:Int)<((Ak w gr ((b:Int)-p)).n:Int):=of_decide_eq_true hc4;have klt:k<(AU w gr ((b:Int)-p)).length:=by omega
 have ie:((i:Int)).toNat=i:=Aea i;have ke:((k:Int)).toNat=k:=Aea k;have ci0:0<=(i:Int)/\(i:Int)<((Ak w gr p).n:Int):=by omega
 have ck0:0<=(k:Int)/\(k:Int)<((Ak w gr ((b:Int)-p)).n:Int):=by omega
 have bA:=If w gr (q:=(p:Int)) (by omega) (by omega) _ (JK (show i<(Ak w gr p).n from ilt));have bB:=If w gr (q:=(b:Int)-p) (by omega) (by omega) _ (JK (show k<(Ak w gr ((b:Int)-p)).n from klt));have nk:=Aam w gr b p i klt;have hbK:=Zg w gr b15 plt ilt k;have hbK1:=Zg w gr b15 plt ilt (k+1);rw[ie,ke];generalize (Ak w gr p).g i=x at *;generalize (Ak w gr ((b:Int)-p)).g k=y at *;have k1:Ad .i64 (x.w+y.w):=jK;have k2:Ad .i64 (x.h+y.h):=jK;have f1:Ec (BY (Ed w gr b p i k)) ⟨x.w+y.w,max x.h y.h⟩=BY (Ed w gr b p i k ++ [⟨x.w+y.w,max x.h y.h⟩]):=PV _ _;have f2:Ec (BY (Ed w gr b p i k ++ [⟨x.w+y.w,max x.h y.h⟩])) ⟨max x.w y.w,x.h+y.h⟩=BY (Ed w gr b p i (k+1)):=by
  rw[PV,nk];unfold Fu;rw[AeG];rfl
 have hb1':GA (Ed w gr b p i k ++ [⟨x.w+y.w,max x.h y.h⟩]):=Ni hbK fun z hz=>by
  rw[AdY.1 hz];show 0<=x.w+y.w/\x.w+y.w<=122880;omega
 rw[f1,f2];have m1:k+1<=(Ak w gr ((b:Int)-p)).n:=by omega
 have m2:(Ak w gr ((b:Int)-p)).n-(k+1)<(Ak w gr ((b:Int)-p)).n-k:=by omega
 exact⟨cp0,plt,ci0,ksub,csub,nsub,ck0,k1,⟨fun _ _=>rfl,PY hbK⟩,k2,⟨fun _ _=>rfl,PY hb1'⟩,kk,(k+1,b,p,i),(by(try dsimp only);(repeat' with_reducible apply And.intro)<;>first|with_reducible rfl|with_reducible assumption|with_reducible exact fun _=>rfl|with_reducible exact fun _ _=>rfl|with_reducible exact trivial|exact rfl|(intro _;exact rfl)|(intro _ _;exact rfl)|exact ck|exact m1|exact m2|exact trivial|(intro _ h_;exact absurd h_ (nT _)))⟩)
theorem Aax:Ax Tryz.prog 40 Zk:=AK Tryz.func40 (c:=Ai Tryz.f40) (by kernel_rfl) mixed (fun args p r hs hp=>by
 unfold Zj at hs;split at hs
 ·cases hs;exact⟨_,_,Aaw _ _ hp.2,(.p (DY hp.1) (.same _ .nil)),⟨show Aa Tryz.prog _ from(Aa.cons YQ YR (Aa.cons vV vW (Aa.cons uZ vA (Aa.cons Aab Aac Aa.nil)))),rfl,⟨show Af Tryz.prog _ from Af.nil,(AA.none (fun _=>rfl))⟩⟩⟩
 ·cases hs)
theorem Aay:As Tryz.prog 40:=fun args w=>by kernel_rfl
end
section
attribute [local irreducible] DZ AU
def Zl (w:(L.Sq Ab)):Prop:=w.n<=1000000/\∀i,i<w.n->(w.g i).ol.n<=1000000
def Zm (w:(L.Sq Ab)):SV:=.bool (Cy w)
def Zn:List EV->Option (Prop×SV)
 |[.p (.sl 4 w_n w_g)]=>some ((∀i,i<w_n->Dn (w_g i))/\Zl (⟨w_n,fun i=>Bx (w_g i)⟩:(L.Sq Ab)),Zm (⟨w_n,fun i=>Bx (w_g i)⟩:(L.Sq Ab)))
 |_=>none
abbrev PZ:SE.Spec:=(AI Zn)
def Aaz:Al:={ cC with specs:=AC [(77,Xl)] }
theorem Aa0 (w:(L.Sq Ab)) (hp:Zl w):vc Tryz.prog ({ Aaz with loops:=AT [(2,{ T:=Nat,keep:=[0],keepO:=[],chg:=fun i=>[(3,.p (.int .i64 (i:Int)))],own:=fun _=>[],inv:=fun i=>i<=w.n/\∀j,j<i->C9 (fun i=>D7 (w.g i)) (fun i=>(w.g i).id) j=false,mu:=fun i=>w.n-i })],rfs:=AP [] }) (Ai Tryz.f38) (Au Tryz.f38 [.p (.sl 4 w.n (fun i=>[.int .i64 ((w.g i).id),.int .i64 ((w.g i).colour),.int .i64 ((w.g i).grain),.sl 2 (w.g i).ol.n (fun i1=>[.int .i64 (((w.g i).ol.g i1).x),.int .i64 (((w.g i).ol.g i1).y)])]))]) (AH Tryz.prog Tryz.f38 (Zm w)):=
 @Eq.mpr _ (let I:=SV.int .i64;let T:=Aee;let A9:=(1:Int);let A8:=(0:Int);let A6:=(↑w.n:Int);(∃(g:Nat),A8=(↑g:Int)/\g<=w.n/\∀(j:Nat),j<g->C9 (fun(i:Nat)=>D7 (w.g i)) (fun(i:Nat)=>(w.g i).id) j=false)/\∀(g:Nat),let A1:=(↑g:Int);let A5:=(w.g (T A1));let A4:=(!!D7 A5&&decide (A8<A1));let A2:=(bif !D7 A5 then true else bif decide (A8<A1)then decide (A5.id<=(w.g (T (A1-A9))).id)else false);(g<=w.n/\∀(j:Nat),j<g->C9 (fun(i:Nat)=>D7 (w.g i)) (fun(i:Nat)=>(w.g i).id) j=false)->(decide (A1<A6)=true->(A8<=A1/\A1<A6)/\((∀(i:Nat),let A7:=[I (A5.ol.g i).x,I (A5.ol.g i).y];i<A5.ol.n->A7=A7)/\A5.ol.n<=(1000000:Nat))/\(A4=true->A8<=A1/\A1<A6)/\(A4=true->Ad .i64 (A1-A9))/\(A4=true->A8<=A1-A9/\A1-A9<A6)/\(A2=true->false=Cy w)/\(A2=false->Ad .i64 (A1+A9)/\∃(g':Nat),A1+A9=(↑g':Int)/\(w.n=w.n/\∀(i:Nat),let A3:=[I (w.g i).id,I (w.g i).colour,I (w.g i).grain,SV.sl (2:Nat) (w.g i).ol.n fun(i1:Nat)=>[I ((w.g i).ol.g i1).x,I ((w.g i).ol.g i1).y]];i<w.n->A3=A3)/\(g'<=w.n/\∀(j:Nat),j<g'->C9 (fun(i:Nat)=>D7 (w.g i)) (fun(i:Nat)=>(w.g i).id) j=false)/\w.n-g'<w.n-g))/\(decide (A1<A6)=false->true=Cy w)) (by kernel_rfl) (by
 conv=>zeta
 obtain⟨hn,hol⟩:=hp;refine⟨⟨(0:Nat),rfl,AdL _,fun j hj=>absurd hj (nT _)⟩,fun g hg=>⟨fun hlt=>?_,fun hge=>?_⟩⟩
 ·have hb:(g:Int)<(w.n:Int):=of_decide_eq_true hlt;have e0:((g:Int)).toNat=g:=Aea g;have e1:((g:Int)-1).toNat=g-1:=by omega
  rw[e0,e1];refine⟨⟨Aec _,hb⟩,⟨fun _ _=>rfl,hol g (by omega)⟩,fun _=>⟨Aec _,hb⟩,fun _=>jK,fun h=>?_,fun h=>?_,fun h=>?_⟩
  ·have:0<(g:Int):=of_decide_eq_true (Afg.1 h).2;omega
  ·exact(Nf (i:=g) (f:=fun i=>!C9 (fun i=>D7 (w.g i)) (fun i=>(w.g i).id) i) (by omega) (by show(!_)=false;rw[show C9 (fun i=>D7 (w.g i)) (fun i=>(w.g i).id) g=true from h];rfl)).symm
  ·refine⟨jK,g+1,by omega,⟨rfl,fun _ _=>rfl⟩,⟨by omega,fun j hj=>?_⟩,by omega⟩;rcases AdZ.1 hj with h'|rfl
   ·exact hg.2 j h'
   ·exact h
 ·have hb:¬ (g:Int)<(w.n:Int):=of_decide_eq_false hge;exact(Dk.2 (fun i hi=>by show(!_)=true;rw[hg.2 i (by omega)];rfl)).symm)
theorem Zo:Ax Tryz.prog 38 PZ:=AK Tryz.func38 (c:=Ai Tryz.f38) (by kernel_rfl) mixed (fun args p r hs hp=>by
 unfold Zn at hs;split at hs
 ·cases hs;exact⟨_,_,Aa0 _ hp.2,(.p (DY hp.1) .nil),⟨show Aa Tryz.prog _ from(Aa.cons vR vS Aa.nil),rfl,⟨show Af Tryz.prog _ from Af.nil,(AA.none (fun _=>rfl))⟩⟩⟩
 ·cases hs)
theorem Zp:As Tryz.prog 38:=fun args w=>by kernel_rfl
end
structure AR where
 at_:L.Pt
 size:Ac
structure BQ where
 sheet:Int
 kind:Int
 want:Int
 pts:L.Sq L.Pt
structure CP where
 want:Int
 sheet:Int
 turn:Int
 at_:L.Pt
def CC (r:AR) (up:Bool) (by_:Int):AR:=bif up then⟨r.at_,⟨by_,r.size.h⟩⟩else⟨r.at_,⟨r.size.w,by_⟩⟩
def Ep (r:AR) (up:Bool) (by_:Int):AR:=bif up then⟨⟨r.at_.x+by_,r.at_.y⟩,⟨r.size.w-by_,r.size.h⟩⟩else⟨⟨r.at_.x,r.at_.y+by_⟩,⟨r.size.w,r.size.h-by_⟩⟩
def Aa1 (r:AR) (up:Bool) (by_:Int):L.Pt:=bif up then⟨r.at_.x+by_,r.at_.y⟩else⟨r.at_.x,r.at_.y+by_⟩
def Aa2 (r:AR) (up:Bool) (by_:Int):L.Pt:=bif up then⟨r.at_.x+by_,r.at_.y+r.size.h⟩else⟨r.at_.x+r.size.w,r.at_.y+by_⟩
def Aa3 (a b:L.Pt):L.Sq L.Pt:=⟨2,fun i=>bif decide (i=0)then a else b⟩
def BU (r:AR) (id:Int) (up:Bool) (by_:Int):BQ:=⟨id,1,0,Aa3 (Aa1 r up by_) (Aa2 r up by_)⟩
def CQ (r:AR):Prop:=0<=r.at_.x/\0<=r.at_.y/\0<=r.size.w/\0<=r.size.h/\r.at_.x+r.size.w<=4096/\r.at_.y+r.size.h<=4096
def BV (r:AR):Nat:=(r.size.w-1).toNat
def Bw (r:AR):Nat:=BV r+(r.size.h-1).toNat
def AW (r:AR) (k:Nat):Bool:=decide (k<BV r)
def AV (r:AR) (k:Nat):Int:=bif AW r k then(k:Int)+1 else((k-BV r:Nat):Int)+1
structure Gl where
 pl:Nat->CP
 sc:List BQ
def Ba (l:List BQ):L.Sq BQ:=⟨l.length,fun i=>l.getD i ⟨0,0,0,⟨0,fun _=>⟨0,0⟩⟩⟩⟩
def Bh (x:BQ):List SV:=[.int .i64 x.sheet,.int .i64 x.kind,.int .i64 x.want,.sl 2 x.pts.n fun i=>[.int .i64 (x.pts.g i).x,.int .i64 (x.pts.g i).y]]
def JR (w:L.Sq Ab) (gr:Int) (i:Nat) (r:AR) (t:Int):Bool:=bif (bif Do (w.g i).grain gr t then decide ((Ch (w.g i).ol t).w<=r.size.w)else false)then decide ((Ch (w.g i).ol t).h<=r.size.h)else false
def H2 (w:L.Sq Ab) (gr:Int) (i:Nat) (r:AR):Int:=bif JR w gr i r 0 then 0 else 1
def Zq (P:Nat->CP) (i:Nat) (x:CP):Nat->CP:=fun j=>if j=i then x else P j
def Er (w:L.Sq Ab) (sh:Ah) (i:Nat) (r:AR) (P:Nat->CP):Nat->CP:=Zq P i ⟨(w.g i).id,sh.id,H2 w sh.grain i r,r.at_⟩
def Co (S:List BQ) (x:BQ):List BQ:=S ++ [x]
def Dq (w:L.Sq Ab) (sh:Ah) (i:Nat) (r:AR):Ac:=Ch (w.g i).ol (H2 w sh.grain i r)
def EN (w:L.Sq Ab) (sh:Ah) (i:Nat) (r:AR) (S:List BQ):List BQ:=bif decide ((Dq w sh i r).w<r.size.w)then Co S (BU r sh.id true (Dq w sh i r).w)else S
def Fe (w:L.Sq Ab) (sh:Ah) (i:Nat) (r:AR):AR:=bif decide ((Dq w sh i r).w<r.size.w)then CC r true (Dq w sh i r).w else r
def Fw (w:L.Sq Ab) (sh:Ah) (i:Nat) (r:AR) (S:List BQ):List BQ:=bif decide ((Dq w sh i r).h<(Fe w sh i r).size.h)then Co (EN w sh i r S) (BU (Fe w sh i r) sh.id false (Dq w sh i r).h)else EN w sh i r S
theorem Aa4 {X Y:List BQ} (h:X=Y):(Ba X).n=(Ba Y).n/\∀i,i<(Ba X).n->Bh ((Ba X).g i)=Bh ((Ba Y).g i):=by rw[h];exact⟨rfl,fun _ _=>rfl⟩
theorem Lt (S:List BQ) (x:BQ):(Co S x).length=S.length+1:=by unfold Co;simp
theorem Qa {S Y:List BQ} {x:BQ} (h:Co S x=Y) {r:Nat->List SV} (hr:r 0=Bh x):(Ba S).n+1=(Ba Y).n/\∀i,i<(Ba S).n+1->AN (Ba S).n (fun k=>Bh ((Ba S).g k)) r i=Bh ((Ba Y).g i):=by
 subst h;refine⟨(Lt S x).symm,fun i hi=>?_⟩;unfold AN;have hi:i<S.length+1:=hi
 by_cases e:i<(Ba S).n
 ·rw[if_pos e];have e':i<S.length:=e;simp[Ba,Co,AS,Aeh e']
 ·rw[if_neg e];have e':¬ i<S.length:=e;obtain rfl:i=S.length:=by omega
  rw[show S.length-(Ba S).n=0 from Nat.sub_self _,hr];simp[Ba,Co,AS]
theorem Zr (w:L.Sq Ab) (sh:Ah) (i:Nat) (r:AR):0<=(Dq w sh i r).w/\(Dq w sh i r).w<=4096/\0<=(Dq w sh i r).h/\(Dq w sh i r).h<=4096:=by
 have hb:=Px (w.g i).ol;have h3:(BO (w.g i).ol).x<=(BP (w.g i).ol).x/\(BO (w.g i).ol).y<=(BP (w.g i).ol).y:=by
  unfold BO BP;cases hv:AB (w.g i).ol with
  |false=>simp
  |true =>
    obtain⟨n3,_⟩:=Fr hv;have h1:=Pv (l:=(w.g i).ol) (w.g i).ol.n 0 (by omega);have h2:=Pw (l:=(w.g i).ol) (w.g i).ol.n 0 (by omega);simp only[cond_true];omega
 unfold Dq Ch;cases decide (H2 w sh.grain i r=1)<;>simp only[cond_true,cond_false]<;>omega
theorem Aa5 (w:L.Sq Ab) (sh:Ah) (i:Nat) {r:AR} (hA:CQ r):CQ (Fe w sh i r):=by
 obtain⟨b1,b2,b3,b4⟩:=Zr w sh i r;obtain⟨h1,h2,h3,h4,h5,h6⟩:=hA;unfold Fe
 by_cases e:(Dq w sh i r).w<r.size.w
 ·rw[decide_eq_true e];refine⟨h1,h2,b1,h4,?_,h6⟩;show r.at_.x+(Dq w sh i r).w<=4096;omega
 ·rw[decide_eq_false e];exact⟨h1,h2,h3,h4,h5,h6⟩
theorem Aa6 (w:L.Sq Ab) (sh:Ah) (i:Nat) (r:AR) (S:List BQ):(EN w sh i r S).length<=S.length+1:=by
 unfold EN;cases decide ((Dq w sh i r).w<r.size.w)<;>simp[Lt]
theorem EO {n:Int} (h : -9223372036854775808<=n:=by omega) (k:n<=9223372036854775807:=by omega):Ad .i64 n:=⟨h,k⟩
def Zs (r:AR) (up:Bool) (b:Int):Prop:=CQ r/\0<=b/\b<=4096
def Zt (r:AR) (up:Bool) (b:Int):SV:=.tup [(.agg [.int .i64 ((CC r up b).at_.x),.int .i64 ((CC r up b).at_.y),.int .i64 ((CC r up b).size.w),.int .i64 ((CC r up b).size.h)]),(.agg [.int .i64 ((Ep r up b).at_.x),.int .i64 ((Ep r up b).at_.y),.int .i64 ((Ep r up b).size.w),.int .i64 ((Ep r up b).size.h)])]
def Zu:List EV->Option (Prop×SV)
 |[.p (.agg [.int .i64 r_at__x,.int .i64 r_at__y,.int .i64 r_size_w,.int .i64 r_size_h]),.p (.bool up),.p (.int .i64 b)]=>some (Zs (⟨(⟨r_at__x,r_at__y⟩:L.Pt),(⟨r_size_w,r_size_h⟩:Ac)⟩:AR) up b,Zt (⟨(⟨r_at__x,r_at__y⟩:L.Pt),(⟨r_size_w,r_size_h⟩:Ac)⟩:AR) up b)
 |_=>none
abbrev Qb:SE.Spec:=(AI Zu)
def Aa7:Al:={ cC with muts:=[6,7,8,9],anys:=[1009] }
theorem Aa8 (r:AR) (up:Bool) (b:Int) (hp:Zs r up b):vc Tryz.prog (Aa7) (Ai Tryz.f127) (Au Tryz.f127 [.p (.agg [.int .i64 r.at_.x,.int .i64 r.at_.y,.int .i64 r.size.w,.int .i64 r.size.h]),.p (.bool up),.p (.int .i64 b)]) (AH Tryz.prog Tryz.f127 (Zt r up b)):=
 @Eq.mpr _ (let I:=SV.int .i64;let A8:=[I r.at_.x,I r.at_.y,I r.size.w,I b];let A7:=[I r.at_.x,I r.at_.y,I b,I r.size.h];let A6:=(CC r up b);let A5:=(Ep r up b);let A4:=[I r.at_.x,I (r.at_.y+b),I r.size.w,I (r.size.h-b)];let A3:=[I (r.at_.x+b),I r.at_.y,I (r.size.w-b),I r.size.h];let A2:=[I A5.at_.x,I A5.at_.y,I A5.size.w,I A5.size.h];let A1:=[I A6.at_.x,I A6.at_.y,I A6.size.w,I A6.size.h];(up=true->Ad .i64 (r.at_.x+b)/\Ad .i64 (r.size.w-b)/\(SV.agg A7=SV.agg A1/\SV.agg A3=SV.agg A2)/\SV.agg A7=SV.agg A1/\SV.agg A3=SV.agg A2)/\(up=false->Ad .i64 (r.at_.y+b)/\Ad .i64 (r.size.h-b)/\(SV.agg A8=SV.agg A1/\SV.agg A4=SV.agg A2)/\SV.agg A8=SV.agg A1/\SV.agg A4=SV.agg A2)) (by kernel_rfl) (by
 conv=>zeta
 obtain⟨⟨h1,h2,h3,h4,h5,h6⟩,hb,hb'⟩:=(show CQ r/\0<=b/\b<=4096 from hp);exact⟨fun h=>by subst h;exact⟨EO,EO,⟨rfl,rfl⟩,rfl,rfl⟩,fun h=>by subst h;exact⟨EO,EO,⟨rfl,rfl⟩,rfl,rfl⟩⟩)
theorem Zv:Ax Tryz.prog 127 Qb:=AK Tryz.func127 (c:=Ai Tryz.f127) (by kernel_rfl) mixed (fun args p r hs hp=>by
 unfold Zu at hs;split at hs
 ·cases hs;exact⟨_,_,Aa8 _ _ _ hp,(.same _ (.same _ (.same _ .nil))),⟨show Aa Tryz.prog _ from Aa.nil,rfl,⟨show Af Tryz.prog _ from Af.nil,(AA.none (fun _=>rfl))⟩⟩⟩
 ·cases hs)
theorem Zw:As Tryz.prog 127:=fun args w=>by kernel_rfl
def Zx (r:AR):Prop:=True
def Zy (r:AR):SV:=.clo 152 [.ref [.int .i64 r.at_.x,.int .i64 r.at_.y,.int .i64 r.size.w,.int .i64 r.size.h] 0]
def Zz:List EV->Option (Prop×SV)
 |[.p (.agg [.int .i64 r_at__x,.int .i64 r_at__y,.int .i64 r_size_w,.int .i64 r_size_h])]=>some (Zx (⟨(⟨r_at__x,r_at__y⟩:L.Pt),(⟨r_size_w,r_size_h⟩:Ac)⟩:AR),Zy (⟨(⟨r_at__x,r_at__y⟩:L.Pt),(⟨r_size_w,r_size_h⟩:Ac)⟩:AR))
 |_=>none
abbrev Z0:SE.Spec:=(AI Zz)
def Aa9:Al:={ muts:=[],frz:=B8 [],specs:=AC [],loops:=AT [],iters:=B3 [],rfs:=AP [],nils:=B6 [] }
theorem AaA (r:AR) (hp:Zx r):vc Tryz.prog (Aa9) (Ai Tryz.f126) (Au Tryz.f126 [.p (.agg [.int .i64 r.at_.x,.int .i64 r.at_.y,.int .i64 r.size.w,.int .i64 r.size.h])]) (AH Tryz.prog Tryz.f126 (Zy r)):=
 @Eq.mpr _ (let I:=SV.int .i64;let A1:=[SV.ref [I r.at_.x,I r.at_.y,I r.size.w,I r.size.h] (nat_lit 0)];SV.clo (nat_lit 152) A1=SV.clo (nat_lit 152) A1) (by kernel_rfl) (by
 conv=>zeta
 try rfl)
theorem AaB:Ax Tryz.prog 126 Z0:=AK Tryz.func126 (c:=Ai Tryz.f126) (by kernel_rfl) mixed (fun args p r hs hp=>by
 unfold Zz at hs;split at hs
 ·cases hs;exact⟨_,_,AaA _ hp,(.same _ .nil),⟨show Aa Tryz.prog _ from Aa.nil,rfl,⟨show Af Tryz.prog _ from Af.nil,(AA.none (fun _=>rfl))⟩⟩⟩
 ·cases hs)
theorem AaC:As Tryz.prog 126:=fun args w=>by kernel_rfl
def Z1 (r:AR):Prop:=CQ r
def Qc (r:AR):Nat:=Bw r
def Z2 (r:AR):Nat->List SV:=fun k=>[.bool (AW r k),.int .i64 (AV r k)]
def Z3:List SV->Option (Prop×Nat×(Nat->List SV))
 |[.ref [.int .i64 r_at__x,.int .i64 r_at__y,.int .i64 r_size_w,.int .i64 r_size_h] 0]=>some (Z1 (⟨(⟨r_at__x,r_at__y⟩:L.Pt),(⟨r_size_w,r_size_h⟩:Ac)⟩:AR),Qc (⟨(⟨r_at__x,r_at__y⟩:L.Pt),(⟨r_size_w,r_size_h⟩:Ac)⟩:AR),Z2 (⟨(⟨r_at__x,r_at__y⟩:L.Pt),(⟨r_size_w,r_size_h⟩:Ac)⟩:AR))
 |_=>none
abbrev Z4:F2:=J5 Z3
def AaD:Al:={ muts:=[],frz:=B8 [],specs:=AC [],loops:=fun _=>none,iters:=B3 [],rfs:=AP [] }
theorem AaE (yl:Nat) (r:AR) (hp:Z1 r):vc Tryz.prog { AaD with loops:=AT [(1,{ T:=Nat,keep:=[0,1],keepO:=[],chg:=fun i=>[(3,.p (.int .i64 ((i:Int)+1)))],own:=fun _=>[],inv:=fun i=>i<=BV r,mu:=fun i=>BV r-i,yk:=some (fun i=>i) }),(5,{ T:=Nat,keep:=[0,1],keepO:=[],chg:=fun i=>[(4,.p (.int .i64 ((i:Int)+1)))],own:=fun _=>[],inv:=fun i=>BV r+i<=Bw r,mu:=fun i=>Bw r-i,yk:=some (fun i=>BV r+i) })],yld:=some ⟨yl,Qc r,Z2 r⟩ } (Ai Tryz.f152) (Au Tryz.f152 (.yield yl::([.ref [.int .i64 r.at_.x,.int .i64 r.at_.y,.int .i64 r.size.w,.int .i64 r.size.h] 0]:List SV).map .p)) (J4 Tryz.prog Tryz.f152 (Qc r)):=
 @Eq.mpr _ (let I:=SV.int .i64;let A7:=(nat_lit 0);let A3:=(1:Nat);let A4:=(true=true->Bw r+A3=Bw r\/Bw r+A3=Bw r+A3);let A2:=[I r.at_.x,I r.at_.y,I r.size.w,I r.size.h];let A1:=(1:Int);(∃(g:Nat),nat_lit 0=g/\false=false/\A1=(↑g:Int)+A1/\g<=BV r)/\∀(g:Nat),let A6:=(↑g:Int);g<=BV r->(decide (A6+A1<r.size.w)=true->yl=yl/\g<Bw r /\ [SV.bool true,I (A6+A1)]= [SV.bool (AW r g),I (AV r g)]/\((false=true->g+A3=Bw r\/g+A3=Bw r+A3)/\(false=false->Ad .i64 (A6+A1+A1)/\∃(g':Nat),g+A3=g'/\false=false/\A6+A1+A1=(↑g':Int)+A1/\yl=yl/\SV.ref A2 A7=SV.ref A2 A7/\g'<=BV r/\BV r-g'<BV r-g))/\A4/\(true=false->Ad .i64 (A6+A1+A1)/\∃(g':Nat),Bw r+A3=g'/\false=false/\A6+A1+A1=(↑g':Int)+A1/\yl=yl/\False/\g'<=BV r/\BV r-g'<BV r-g))/\(decide (A6+A1<r.size.w)=false->(∃(g_1:Nat),g=BV r+g_1/\false=false/\A1=(↑g_1:Int)+A1/\BV r+g_1<=Bw r)/\∀(g_1:Nat),let A5:=(↑g_1:Int);BV r+g_1<=Bw r->(decide (A5+A1<r.size.h)=true->yl=yl/\BV r+g_1<Bw r /\ [SV.bool false,I (A5+A1)]= [SV.bool (AW r (BV r+g_1)),I (AV r (BV r+g_1))]/\((false=true->BV r+g_1+A3=Bw r\/BV r+g_1+A3=Bw r+A3)/\(false=false->Ad .i64 (A5+A1+A1)/\∃(g':Nat),BV r+g_1+A3=BV r+g'/\false=false/\A5+A1+A1=(↑g':Int)+A1/\yl=yl/\SV.ref A2 A7=SV.ref A2 A7/\BV r+g'<=Bw r/\Bw r-g'<Bw r-g_1))/\A4/\(true=false->Ad .i64 (A5+A1+A1)/\∃(g':Nat),Bw r+A3=BV r+g'/\false=false/\A5+A1+A1=(↑g':Int)+A1/\yl=yl/\False/\BV r+g'<=Bw r/\Bw r-g'<Bw r-g_1))/\(decide (A5+A1<r.size.h)=false->BV r+g_1=Bw r\/BV r+g_1=Bw r+A3))) (by kernel_rfl) (by
 conv=>zeta
 obtain⟨h1,h2,h3,h4,h5,h6⟩:=(show CQ r from hp);have eW:BV r=(r.size.w-1).toNat:=rfl;have eN:Bw r=(r.size.w-1).toNat+(r.size.h-1).toNat:=rfl;refine⟨⟨0,rfl,rfl,rfl,AdL _⟩,fun k hk=>⟨fun hc=>?_,fun hc=>?_⟩⟩
 ·have hc:(k:Int)+1<r.size.w:=of_decide_eq_true hc;have hk:k<=BV r:=hk;have hlt:k<BV r:=by omega
  have eU:AW r k=true:=decide_eq_true hlt;exact⟨rfl,by omega,by unfold AV;rw[eU];rfl,⟨(fun h=>by cases h),fun _=>⟨EO,k+1,rfl,rfl,rfl,rfl,rfl,hlt,by omega⟩⟩,fun _=>.inr rfl,(fun h=>by cases h)⟩
 ·have hc:¬ (k:Int)+1<r.size.w:=of_decide_eq_false hc;have hk:k<=BV r:=hk;refine⟨⟨0,by omega,rfl,rfl,by omega⟩,fun j hj=>⟨fun hc=>?_,fun hc=>?_⟩⟩
  ·have hc:(j:Int)+1<r.size.h:=of_decide_eq_true hc;have hj:BV r+j<=Bw r:=hj;have eU:AW r (BV r+j)=false:=decide_eq_false (by omega);exact⟨rfl,by omega,by unfold AV;rw[eU,Nat.add_sub_cancel_left];rfl,⟨(fun h=>by cases h),fun _=>⟨EO,j+1,rfl,rfl,rfl,rfl,rfl,by omega,by omega⟩⟩,fun _=>.inr rfl,(fun h=>by cases h)⟩
  ·have hc:¬ (j:Int)+1<r.size.h:=of_decide_eq_false hc;have hj:BV r+j<=Bw r:=hj;exact .inl (by omega))
theorem AaF:Hm Tryz.prog 152 Z4:=M6 Tryz.func152 (c:=Ai Tryz.f152) (by kernel_rfl) mixed (fun caps l p n g hs hp=>by
 unfold Z3 at hs;split at hs
 ·cases hs;exact⟨_,_,AaE l _ hp,(.cons (AX.refl _) .nil),rfl,show Aa Tryz.prog _ from Aa.nil,⟨show Af Tryz.prog _ from Af.nil,AA.none (fun _=>rfl)⟩⟩
 ·cases hs)
theorem AaG:As Tryz.prog 152:=fun args w=>by kernel_rfl
def Z5 (r:AR) (id:Int) (up:Bool) (b:Int):Prop:=CQ r/\0<=b/\b<=4096
def Z6 (r:AR) (id:Int) (up:Bool) (b:Int):SV:=(.agg [.int .i64 ((BU r id up b).sheet),.int .i64 ((BU r id up b).kind),.int .i64 ((BU r id up b).want),.sl 2 (BU r id up b).pts.n (fun i=>[.int .i64 (((BU r id up b).pts.g i).x),.int .i64 (((BU r id up b).pts.g i).y)])])
def Z7:List EV->Option (Prop×SV)
 |[.p (.agg [.int .i64 r_at__x,.int .i64 r_at__y,.int .i64 r_size_w,.int .i64 r_size_h]),.p (.int .i64 id),.p (.bool up),.p (.int .i64 b)]=>some (Z5 (⟨(⟨r_at__x,r_at__y⟩:L.Pt),(⟨r_size_w,r_size_h⟩:Ac)⟩:AR) id up b,Z6 (⟨(⟨r_at__x,r_at__y⟩:L.Pt),(⟨r_size_w,r_size_h⟩:Ac)⟩:AR) id up b)
 |_=>none
abbrev Qd:SE.Spec:=(AI Z7)
def AaH:Al:={ cC with muts:=[8,9,10] }
theorem AaI (r:AR) (id:Int) (up:Bool) (b:Int) (hp:Z5 r id up b):vc Tryz.prog (AaH) (Ai Tryz.f128) (Au Tryz.f128 [.p (.agg [.int .i64 r.at_.x,.int .i64 r.at_.y,.int .i64 r.size.w,.int .i64 r.size.h]),.p (.int .i64 id),.p (.bool up),.p (.int .i64 b)]) (AH Tryz.prog Tryz.f128 (Z6 r id up b)):=
 @Eq.mpr _ (let I:=SV.int .i64;let A3:=(r.at_.y+b);let A2:=(r.at_.x+b);let A1:=(BU r id up b);Ad .i64 (r.at_.x+r.size.w)/\Ad .i64 (r.at_.y+r.size.h)/\(up=true->Ad .i64 A2/\id=A1.sheet/\(1:Int)=A1.kind/\(0:Int)=A1.want/\nat_lit 2=A1.pts.n/\∀(i:Nat),i<nat_lit 2->Ce [I A2,I r.at_.y,I A2,I (r.at_.y+r.size.h)] (nat_lit 2) i = [I (A1.pts.g i).x,I (A1.pts.g i).y])/\(up=false->Ad .i64 A3/\id=A1.sheet/\(1:Int)=A1.kind/\(0:Int)=A1.want/\nat_lit 2=A1.pts.n/\∀(i:Nat),i<nat_lit 2->Ce [I r.at_.x,I A3,I (r.at_.x+r.size.w),I A3] (nat_lit 2) i = [I (A1.pts.g i).x,I (A1.pts.g i).y])) (by kernel_rfl) (by
 conv=>zeta
 obtain⟨⟨h1,h2,h3,h4,h5,h6⟩,hb,hb'⟩:=(show CQ r/\0<=b/\b<=4096 from hp);refine⟨EO,EO,fun h=>?_,fun h=>?_⟩<;>subst h<;>exact⟨EO,rfl,rfl,rfl,rfl,fun i hi=>by match i,hi with|0,_=>rfl|1,_=>rfl⟩)
theorem Z8:Ax Tryz.prog 128 Qd:=AK Tryz.func128 (c:=Ai Tryz.f128) (by kernel_rfl) mixed (fun args p r hs hp=>by
 unfold Z7 at hs;split at hs
 ·cases hs;exact⟨_,_,AaI _ _ _ _ hp,(.same _ (.same _ (.same _ (.same _ .nil)))),⟨show Aa Tryz.prog _ from Aa.nil,rfl,⟨show Af Tryz.prog _ from Af.nil,(AA.none (fun _=>rfl))⟩⟩⟩
 ·cases hs)
theorem Z9:As Tryz.prog 128:=fun args w=>by kernel_rfl
abbrev JS:Tr:={ T:=(L.Sq Ab)×(Ah)×(Int->Bool)×(Nat->CP)×(List BQ)×(Nat)×(AR)×(Int),U:=Nat,args:=fun t=>(fun w sh dom P S i r t=>[.p (.int .i64 t),.p (.ref [.int .i64 ((w.g i).id),.int .i64 ((w.g i).colour),.int .i64 ((w.g i).grain),.sl 2 (w.g i).ol.n (fun i1=>[.int .i64 (((w.g i).ol.g i1).x),.int .i64 (((w.g i).ol.g i1).y)])] 0),.loc 1006 0,.loc 1007 0]) t.1 t.2.1 t.2.2.1 t.2.2.2.1 t.2.2.2.2.1 t.2.2.2.2.2.1 t.2.2.2.2.2.2.1 t.2.2.2.2.2.2.2,own:=fun t=>(fun w sh dom P S i r t=>[(1000,.blk 130 [.p ((.sl 4 w.n (fun i=>[.int .i64 ((w.g i).id),.int .i64 ((w.g i).colour),.int .i64 ((w.g i).grain),.sl 2 (w.g i).ol.n (fun i1=>[.int .i64 (((w.g i).ol.g i1).x),.int .i64 (((w.g i).ol.g i1).y)])]))),.p (.int .i64 sh.grain),.mapv 1001]),(1001,.mq 3 27 dom (Aj (Ak w sh.grain))),(1002,.blk 93 [.loc 1000 0,.p (.int .i64 sh.id),.p (.int .i64 sh.colour),.p (.int .i64 sh.w),.p (.int .i64 sh.h),.p (.int .i64 sh.grain),.row 1003,.row 1004]),(1003,.row 76 5 w.n (fun k=>[.int .i64 ((P k).want),.int .i64 ((P k).sheet),.int .i64 ((P k).turn),.int .i64 ((P k).at_.x),.int .i64 ((P k).at_.y)])),(1004,.row 101 4 (Ba (S)).n (fun k=>Bh ((Ba (S)).g k))),(1006,.blk 90 [.loc 1002 0]),(1007,.blk 146 [.p (.int .i64 r.at_.x),.p (.int .i64 r.at_.y),.p (.int .i64 r.size.w),.p (.int .i64 r.size.h)])]) t.1 t.2.1 t.2.2.1 t.2.2.2.1 t.2.2.2.2.1 t.2.2.2.2.2.1 t.2.2.2.2.2.2.1 t.2.2.2.2.2.2.2,pre:=fun t=>(fun w sh dom P S i r t=>(w.g i).ol.n<=1000000) t.1 t.2.1 t.2.2.1 t.2.2.2.1 t.2.2.2.2.1 t.2.2.2.2.2.1 t.2.2.2.2.2.2.1 t.2.2.2.2.2.2.2,post:=fun t u=>(fun w sh dom P S i r t=>fun u=>True) t.1 t.2.1 t.2.2.1 t.2.2.2.1 t.2.2.2.2.1 t.2.2.2.2.2.1 t.2.2.2.2.2.2.1 t.2.2.2.2.2.2.2 u,own':=fun t u=>(fun w sh dom P S i r t=>fun u=>[(1000,.blk 130 [.p ((.sl 4 w.n (fun i=>[.int .i64 ((w.g i).id),.int .i64 ((w.g i).colour),.int .i64 ((w.g i).grain),.sl 2 (w.g i).ol.n (fun i1=>[.int .i64 (((w.g i).ol.g i1).x),.int .i64 (((w.g i).ol.g i1).y)])]))),.p (.int .i64 sh.grain),.mapv 1001]),(1001,.mq 3 27 dom (Aj (Ak w sh.grain))),(1002,.blk 93 [.loc 1000 0,.p (.int .i64 sh.id),.p (.int .i64 sh.colour),.p (.int .i64 sh.w),.p (.int .i64 sh.h),.p (.int .i64 sh.grain),.row 1003,.row 1004]),(1003,.row 76 5 w.n (fun k=>[.int .i64 ((P k).want),.int .i64 ((P k).sheet),.int .i64 ((P k).turn),.int .i64 ((P k).at_.x),.int .i64 ((P k).at_.y)])),(1004,.row 101 4 (Ba (S)).n (fun k=>Bh ((Ba (S)).g k))),(1006,.blk 90 [.loc 1002 0]),(1007,.blk 146 [.p (.int .i64 r.at_.x),.p (.int .i64 r.at_.y),.p (.int .i64 r.size.w),.p (.int .i64 r.size.h)])]) t.1 t.2.1 t.2.2.1 t.2.2.2.1 t.2.2.2.2.1 t.2.2.2.2.2.1 t.2.2.2.2.2.2.1 t.2.2.2.2.2.2.2 u,res:=fun t u=>(fun w sh dom P S i r t=>fun u=>.p (.bool (JR w sh.grain i r t))) t.1 t.2.1 t.2.2.1 t.2.2.2.1 t.2.2.2.2.1 t.2.2.2.2.2.1 t.2.2.2.2.2.2.1 t.2.2.2.2.2.2.2 u }
theorem AaJ (w:L.Sq Ab) (sh:Ah) (dom:Int->Bool) (P:Nat->CP) (S:List BQ) (i:Nat) (r:AR) (t:Int) (hp:JS.pre (w,sh,dom,P,S,i,r,t)):vc Tryz.prog ({ cC with specs:=AC [(74,MS),(73,P2)] }) (Ai Tryz.f151) (Dy Tryz.f151 (JS.args (w,sh,dom,P,S,i,r,t)) (JS.own (w,sh,dom,P,S,i,r,t))) (OG Tryz.prog Tryz.f151 JS (w,sh,dom,P,S,i,r,t)):=
 @Eq.mpr _ (let I:=SV.int .i64;let A5:=(Ba S);let A3:=(Ch (L.Sq.mk (w.g i).ol.n fun(i_1:Nat)=>(w.g i).ol.g i_1) t);((∀(i_1:Nat),let A4:=((w.g i).ol.g i_1);i_1<(w.g i).ol.n -> [I A4.x,I A4.y]= [I A4.x,I A4.y])/\(w.g i).ol.n<=(1000000:Nat))/\True/\∃(u:Nat),(bif bif Do (w.g i).grain sh.grain t then decide (A3.w<=r.size.w)else false then decide (A3.h<=r.size.h)else false)=JR w sh.grain i r t/\(w.n=w.n/\∀(i:Nat),let A1:=[I (w.g i).id,I (w.g i).colour,I (w.g i).grain,SV.sl (2:Nat) (w.g i).ol.n fun(i1:Nat)=>[I ((w.g i).ol.g i1).x,I ((w.g i).ol.g i1).y]];i<w.n->A1=A1)/\sh.grain=sh.grain/\(∀(x:Int),dom x=dom x)/\(∀(x:Int),dom x=true->Aj (Ak w sh.grain) x=Aj (Ak w sh.grain) x)/\nat_lit 0=(0:Nat)/\sh.id=sh.id/\sh.colour=sh.colour/\sh.w=sh.w/\sh.h=sh.h/\sh.grain=sh.grain/\(w.n=w.n/\∀(i:Nat),let A2:=[I (P i).want,I (P i).sheet,I (P i).turn,I (P i).at_.x,I (P i).at_.y];i<w.n->A2=A2)/\(A5.n=A5.n/\∀(i:Nat),i<A5.n->Bh (A5.g i)=Bh (A5.g i))/\nat_lit 0=(0:Nat)/\r.at_.x=r.at_.x/\r.at_.y=r.at_.y/\r.size.w=r.size.w/\r.size.h=r.size.h/\True) (by kernel_rfl) (by
 conv=>zeta
 have ho:(w.g i).ol.n<=1000000:=hp;exact⟨⟨fun _ _=>rfl,ho⟩,trivial,(0:Nat),rfl,⟨rfl,fun _ _=>rfl⟩,rfl,fun _=>rfl,fun _ _=>rfl,rfl,rfl,rfl,rfl,rfl,rfl,⟨rfl,fun _ _=>rfl⟩,⟨rfl,fun _ _=>rfl⟩,rfl,rfl,rfl,rfl,rfl,trivial⟩)
theorem AaK:As Tryz.prog 151:=fun args w=>by kernel_rfl
theorem AaL:FV Tryz.prog 151 JS:=SG (ks:=[1000,1001,1002,1003,1004,1006,1007]) (n:=4) Tryz.func151 (c:=Ai Tryz.f151) (by kernel_rfl) mixed ⟨fun t=>rfl,fun t=>rfl,fun t u=>rfl,fun t u=>rfl,fun t u=>rfl,by kernel_rfl⟩ (fun⟨w,sh,dom,P,S,i,r,t⟩ hp=>⟨_,AaJ w sh dom P S i r t hp,⟨show Aa Tryz.prog _ from(Aa.cons P0 P1 (Aa.cons Xc Xd Aa.nil)),rfl,⟨show Af Tryz.prog _ from Af.nil,(AA.none (fun _=>rfl))⟩⟩⟩)
abbrev JT:Mk:={ T:=(L.Sq Ab)×(Ah)×(Int->Bool)×(Nat->CP)×(List BQ)×(Nat)×(AR),U:=Nat,args:=fun t=>(fun w sh dom P S i r=>[.loc 1002 0,.p (.int .i64 (i:Int)),.p ((.agg [.int .i64 r.at_.x,.int .i64 r.at_.y,.int .i64 r.size.w,.int .i64 r.size.h]))]) t.1 t.2.1 t.2.2.1 t.2.2.2.1 t.2.2.2.2.1 t.2.2.2.2.2.1 t.2.2.2.2.2.2,lkeys:=[1000,1001,1002,1003,1004],keys:=[],lent:=fun t=>(fun w sh dom P S i r=>[(1000,.blk 130 [.p ((.sl 4 w.n (fun i=>[.int .i64 ((w.g i).id),.int .i64 ((w.g i).colour),.int .i64 ((w.g i).grain),.sl 2 (w.g i).ol.n (fun i1=>[.int .i64 (((w.g i).ol.g i1).x),.int .i64 (((w.g i).ol.g i1).y)])]))),.p (.int .i64 sh.grain),.mapv 1001]),(1001,.mq 3 27 dom (Aj (Ak w sh.grain))),(1002,.blk 93 [.loc 1000 0,.p (.int .i64 sh.id),.p (.int .i64 sh.colour),.p (.int .i64 sh.w),.p (.int .i64 sh.h),.p (.int .i64 sh.grain),.row 1003,.row 1004]),(1003,.row 76 5 w.n (fun k=>[.int .i64 ((P k).want),.int .i64 ((P k).sheet),.int .i64 ((P k).turn),.int .i64 ((P k).at_.x),.int .i64 ((P k).at_.y)])),(1004,.row 101 4 (Ba (S)).n (fun k=>Bh ((Ba (S)).g k)))]) t.1 t.2.1 t.2.2.1 t.2.2.2.1 t.2.2.2.2.1 t.2.2.2.2.2.1 t.2.2.2.2.2.2,pre:=fun t=>(fun w sh dom P S i r=>i<w.n/\w.n<=4/\(w.g i).ol.n<=1000000/\CQ r/\(Ba S).n<=1000) t.1 t.2.1 t.2.2.1 t.2.2.2.1 t.2.2.2.2.1 t.2.2.2.2.2.1 t.2.2.2.2.2.2,post:=fun t u=>(fun w sh dom P S i r=>fun uu=>True) t.1 t.2.1 t.2.2.1 t.2.2.2.1 t.2.2.2.2.1 t.2.2.2.2.2.1 t.2.2.2.2.2.2 u,lent':=fun t u=>(fun w sh dom P S i r=>fun uu=>[(1000,.blk 130 [.p ((.sl 4 w.n (fun i=>[.int .i64 ((w.g i).id),.int .i64 ((w.g i).colour),.int .i64 ((w.g i).grain),.sl 2 (w.g i).ol.n (fun i1=>[.int .i64 (((w.g i).ol.g i1).x),.int .i64 (((w.g i).ol.g i1).y)])]))),.p (.int .i64 sh.grain),.mapv 1001]),(1001,.mq 3 27 dom (Aj (Ak w sh.grain))),(1002,.blk 93 [.loc 1000 0,.p (.int .i64 sh.id),.p (.int .i64 sh.colour),.p (.int .i64 sh.w),.p (.int .i64 sh.h),.p (.int .i64 sh.grain),.row 1003,.row 1004]),(1003,.row 76 5 w.n (fun k=>[.int .i64 (((Er w sh i r P) k).want),.int .i64 (((Er w sh i r P) k).sheet),.int .i64 (((Er w sh i r P) k).turn),.int .i64 (((Er w sh i r P) k).at_.x),.int .i64 (((Er w sh i r P) k).at_.y)])),(1004,.row 101 4 (Ba (Fw w sh i r S)).n (fun k=>Bh ((Ba (Fw w sh i r S)).g k)))]) t.1 t.2.1 t.2.2.1 t.2.2.2.1 t.2.2.2.2.1 t.2.2.2.2.2.1 t.2.2.2.2.2.2 u,own:=fun t u=>(fun w sh dom P S i r=>fun uu=>[]) t.1 t.2.1 t.2.2.1 t.2.2.2.1 t.2.2.2.2.1 t.2.2.2.2.2.1 t.2.2.2.2.2.2 u,res:=fun t u=>(fun w sh dom P S i r=>fun uu=>.p (.tup [])) t.1 t.2.1 t.2.2.1 t.2.2.2.1 t.2.2.2.2.1 t.2.2.2.2.2.1 t.2.2.2.2.2.2 u,mv:=some (1004,80) }
theorem AaM (w:L.Sq Ab) (sh:Ah) (dom:Int->Bool) (P:Nat->CP) (S:List BQ) (i:Nat) (r:AR) (hp:JT.pre (w,sh,dom,P,S,i,r)):vc Tryz.prog ({ cC with muts:=[3,5],frz:=B8 [(3,[6])],specs:=AC [(74,MS),(128,Qd),(127,Qb)],trs:=Ht [(151,JS)],ren:=fun k=>if k=1006 then 3 else if k=1007 then 5 else if k=1004 then 80 else k,joins:=AT [(6,{ T:=Nat,keep:=[1,3,5,6],keepO:=[3,5,80,1000,1001,1002,1003],chg:=fun _=>[(7,.p (.int .i64 (H2 w sh.grain i r)))],own:=fun _=>[],inv:=fun _=>True,mu:=fun _=>0 }),(8,{ T:=Nat,keep:=[3,5,9],keepO:=[3,5,80,1000,1001,1002],chg:=fun _=>[],own:=fun _=>[(9,.blk 74 [.p (.int .i64 (Dq w sh i r).w),.p (.int .i64 (Dq w sh i r).h)]),(1003,.row 76 5 w.n (fun k=>[.int .i64 (((Er w sh i r P) k).want),.int .i64 (((Er w sh i r P) k).sheet),.int .i64 (((Er w sh i r P) k).turn),.int .i64 (((Er w sh i r P) k).at_.x),.int .i64 (((Er w sh i r P) k).at_.y)]))],inv:=fun _=>True,mu:=fun _=>0 }),(10,{ T:=Nat,keep:=[3,5,9],keepO:=[3,5,9,1000,1001,1002,1003],chg:=fun _=>[],own:=fun _=>[(80,.row 101 4 (Ba (Co S (BU r sh.id true (Dq w sh i r).w))).n (fun k=>Bh ((Ba (Co S (BU r sh.id true (Dq w sh i r).w))).g k)))],inv:=fun _=>True,mu:=fun _=>0 }),(11,{ T:=Nat,keep:=[3,5,9],keepO:=[3,9,1000,1001,1002,1003],chg:=fun _=>[],own:=fun _=>[(80,.row 101 4 (Ba (EN w sh i r S)).n (fun k=>Bh ((Ba (EN w sh i r S)).g k))),(5,.blk 146 [.p (.int .i64 (Fe w sh i r).at_.x),.p (.int .i64 (Fe w sh i r).at_.y),.p (.int .i64 (Fe w sh i r).size.w),.p (.int .i64 (Fe w sh i r).size.h)])],inv:=fun _=>True,mu:=fun _=>0 })],anys:=[1009,1012],rek:=L8 [(1,[(1004,80)])] }) (Ai Tryz.f125) (Dy Tryz.f125 (JT.args (w,sh,dom,P,S,i,r)) (JT.lent (w,sh,dom,P,S,i,r))) (Fq Tryz.prog Tryz.f125 JT (w,sh,dom,P,S,i,r)):=
 @Eq.mpr _ (let I:=SV.int .i64;let T:=Aee;let A45:=(H2 w sh.grain i r);let A44:=(0:Int);let A41:=(2:Nat);let A37:=(nat_lit 0);let A36:=(0:Nat);let A34:=(Ak w sh.grain);let A31:=(140737488355328:Nat);let A28:=(↑i:Int);let A39:=(A44<=A28/\A28<(↑w.n:Int));let A27:=(Ba (Fw w sh i r S));let A19:=(Ba S);let A14:=(∀(x
:Int),dom x=dom x);let A12:=(Fe w sh i r);let A10:=(w.g (T A28));let A24:=(Ch (L.Sq.mk A10.ol.n fun(i_1:Nat)=>A10.ol.g i_1) A45);let A9:=(Ba (EN w sh i r S));let A6:=(∀(x:Int),dom x=true->Aj A34 x=Aj A34 x);let A4:=(Dq w sh i r);let A35:=(CQ r/\A44<=A4.w/\A4.w<=(4096:Int));let A29:=(CC r true A4.w);let A16
:=(BU A12 sh.id false A4.h);let A7:=(BU r sh.id true A4.w);let A20:=(Ba (Co S A7));let A21:=(A19.n+nat_lit 1=A20.n/\∀(i_1:Nat),i_1<A19.n+nat_lit 1->AN A19.n (fun(k:Nat)=>Bh (A19.g k)) (fun(x:Nat)=>[I A7.sheet,I A7.kind,I A7.want,SV.sl (nat_lit 2) A7.pts.n fun(i_2:Nat)=>[I (A7.pts.g i_2).x,I (A7.pts.g i_2).y]]) i_1
 = Bh (A20.g i_1));let A3:=[I A10.id,I A10.colour,I A10.grain,SV.sl (nat_lit 2) A10.ol.n fun(i1:Nat)=>[I (A10.ol.g i1).x,I (A10.ol.g i1).y]];let A2:=(w.n=w.n/\∀(i_1:Nat),let A13:=(Er w sh i r P i_1);let A30:=[I A13.want,I A13.sheet,I A13.turn,I A13.at_.x,I A13.at_.y];i_1<w.n->A30=A30);let A1:=(w.n=w.n/\∀(i:Nat),let A18:=[I (w.g i).id,I
 (w.g i).colour,I (w.g i).grain,SV.sl A41 (w.g i).ol.n fun(i1:Nat)=>[I ((w.g i).ol.g i1).x,I ((w.g i).ol.g i1).y]];i<w.n->A18=A18);A39/\(∃(t:L.Sq Ab×Ah×(Int->Bool)×(Nat->CP)×List BQ×Nat×AR×Int),let A46:=(Ak t.1 t.2.1.grain);let A40:=(∀(x:Int),t.snd.2.1 x=dom x);let A23:=(!JR t.1 t.2.1.grain t.snd.snd.snd.snd.2.1
 t.snd.snd.snd.snd.snd.2.1 t.snd.snd.snd.snd.snd.2.2);let A22:=(∀(x:Int),t.snd.2.1 x=true->Aj A46 x=Aj A34 x);let A17:=(Ba t.snd.snd.snd.2.1);let A26:=(A17.n=A19.n/\∀(i:Nat),i<A17.n->Bh (A17.g i)=Bh (A19.g i));let A15:=(t.1.g t.snd.snd.snd.snd.2.1);let A11:=(t.1.n=w.n/\∀(i:Nat),let A32:=(t.snd.snd.2.1 i);i<t.1.n -> [I A32.want,I
 A32.sheet,I A32.turn,I A32.at_.x,I A32.at_.y]= [I (P i).want,I (P i).sheet,I (P i).turn,I (P i).at_.x,I (P i).at_.y]);let A8:=(t.1.n=w.n/\∀(i:Nat),let A42:=(t.1.g i);i<t.1.n -> [I A42.id,I A42.colour,I A42.grain,SV.sl A41 A42.ol.n fun(i1:Nat)=>[I (A42.ol.g i1).x,I (A42.ol.g i1).y]]= [I (w.g i).id,I (w.g i).colour,I (w.g i).grain,SV.sl A41 (w.g i).ol.n
 fun(i1:Nat)=>[I ((w.g i).ol.g i1).x,I ((w.g i).ol.g i1).y]]);A44=t.snd.snd.snd.snd.snd.2.2/\SV.ref A3 A37=SV.ref [I A15.id,I A15.colour,I A15.grain,SV.sl A41 A15.ol.n fun(i1:Nat)=>[I (A15.ol.g i1).x,I (A15.ol.g i1).y]] A36/\nat_lit 0=A36/\nat_lit 0=A36/\(w.n=t.1.n/\∀(i:Nat),let A43:=(t.1.g i);i<w.n -> [I (w.g i).id,I (w.g i).colour,I (w.g
 i).grain,SV.sl A41 (w.g i).ol.n fun(i1:Nat)=>[I ((w.g i).ol.g i1).x,I ((w.g i).ol.g i1).y]]= [I A43.id,I A43.colour,I A43.grain,SV.sl A41 A43.ol.n fun(i1:Nat)=>[I (A43.ol.g i1).x,I (A43.ol.g i1).y]])/\sh.grain=t.2.1.grain/\(∀(x:Int),dom x=t.snd.2.1 x)/\(∀(x:Int),dom x=true->Aj A34 x=Aj A46 x)/\nat_lit 0=A36/\sh.id=t.2.1.id /\
 sh.colour=t.2.1.colour/\sh.w=t.2.1.w/\sh.h=t.2.1.h/\sh.grain=t.2.1.grain/\(w.n=t.1.n/\∀(i:Nat),let A33:=(t.snd.snd.2.1 i);i<w.n -> [I (P i).want,I (P i).sheet,I (P i).turn,I (P i).at_.x,I (P i).at_.y]= [I A33.want,I A33.sheet,I A33.turn,I A33.at_.x,I A33.at_.y])/\(A19.n=A17.n/\∀(i:Nat),i<A19.n->Bh (A19.g i)=Bh (A17.g i))/\nat_lit 0=A36 /\
 r.at_.x=t.snd.snd.snd.snd.snd.2.1.at_.x/\r.at_.y=t.snd.snd.snd.snd.snd.2.1.at_.y/\r.size.w=t.snd.snd.snd.snd.snd.2.1.size.w/\r.size.h=t.snd.snd.snd.snd.snd.2.1.size.h/\A15.ol.n<=(1000000:Nat)/\∀(u:Nat),True->(A23=true->∃(g:Nat),(1:Int)=H2 w sh.grain i r/\SV.ref A3 A37=SV.ref A3 A37/\nat_lit 0=nat_lit 0/\nat_lit 0=nat_lit 0/\A28=A28
 /\ t.snd.snd.snd.snd.snd.2.1.at_.x=r.at_.x/\t.snd.snd.snd.snd.snd.2.1.at_.y=r.at_.y/\t.snd.snd.snd.snd.snd.2.1.size.w=r.size.w/\t.snd.snd.snd.snd.snd.2.1.size.h=r.size.h/\nat_lit 0=nat_lit 0/\A8/\t.2.1.grain=sh.grain/\A40/\A22/\nat_lit 0=nat_lit 0/\t.2.1.id=sh.id/\t.2.1.colour=sh.colour/\t.2.1.w=sh.w/\t.2.1.h=sh.h/\t.2.1.grain=sh.grain/\A11/\A26/\True) /\
 (A23=false->∃(g:Nat),A44=H2 w sh.grain i r/\SV.ref A3 A37=SV.ref A3 A37/\nat_lit 0=nat_lit 0/\nat_lit 0=nat_lit 0/\A28=A28/\t.snd.snd.snd.snd.snd.2.1.at_.x=r.at_.x/\t.snd.snd.snd.snd.snd.2.1.at_.y=r.at_.y/\t.snd.snd.snd.snd.snd.2.1.size.w=r.size.w/\t.snd.snd.snd.snd.snd.2.1.size.h=r.size.h/\nat_lit 0=nat_lit 0/\A8/\t.2.1.grain=sh.grain
 /\ A40/\A22/\nat_lit 0=nat_lit 0/\t.2.1.id=sh.id/\t.2.1.colour=sh.colour/\t.2.1.w=sh.w/\t.2.1.h=sh.h/\t.2.1.grain=sh.grain/\A11/\A26/\True))/\∀(g:Nat),True->((∀(i_1:Nat),let A38:=[I (A10.ol.g i_1).x,I (A10.ol.g i_1).y];i_1<A10.ol.n->A38=A38)/\A10.ol.n<=(1000000:Nat))/\(A39/\T A28<w.n/\∃(g:Nat),nat_lit 0=nat_lit 0/\nat_lit 0=nat_lit 0 /\
 nat_lit 0=nat_lit 0/\A24.w=A4.w/\A24.h=A4.h/\(w.n=w.n/\∀(i_1:Nat),let A25:=(Er w sh i r P i_1);i_1<w.n->setRow (fun(k:Nat)=>[I (P k).want,I (P k).sheet,I (P k).turn,I (P k).at_.x,I (P k).at_.y]) (T A28) A37 [I A10.id,I sh.id,I A45,I r.at_.x,I r.at_.y] i_1 = [I A25.want,I A25.sheet,I A25.turn,I A25.at_.x,I A25.at_.y])/\r.at_.x=r.at_.x/\r.at_.y =
 r.at_.y/\r.size.w=r.size.w/\r.size.h=r.size.h/\nat_lit 0=nat_lit 0/\A1/\sh.grain=sh.grain/\A14/\A6/\nat_lit 0=nat_lit 0/\sh.id=sh.id/\sh.colour=sh.colour/\sh.w=sh.w/\sh.h=sh.h/\sh.grain=sh.grain/\(A19.n=A19.n/\∀(i:Nat),i<A19.n->Bh (A19.g i)=Bh (A19.g i))/\True)/\∀(g_1:Nat),True->((decide (A4.w<r.size.w)=true->(A35 /\
 ((A19.n+nat_lit 1)*nat_lit 48<=A31/\∃(g:Nat),nat_lit 0=nat_lit 0/\nat_lit 0=nat_lit 0/\nat_lit 0=nat_lit 0/\A21/\A4.w=A4.w/\A4.h=A4.h/\A2/\r.at_.x=r.at_.x/\r.at_.y=r.at_.y/\r.size.w=r.size.w/\r.size.h=r.size.h/\nat_lit 0=nat_lit 0/\A1/\sh.grain=sh.grain/\A14/\A6/\nat_lit 0=nat_lit 0/\sh.id=sh.id/\sh.colour=sh.colour/\sh.w=sh.w/\sh.h =
 sh.h/\sh.grain=sh.grain/\True)/\(A19.n+nat_lit 1)*nat_lit 48<=A31/\∃(g:Nat),nat_lit 0=nat_lit 0/\nat_lit 0=nat_lit 0/\nat_lit 0=nat_lit 0/\A21/\A4.w=A4.w/\A4.h=A4.h/\A2/\r.at_.x=r.at_.x/\r.at_.y=r.at_.y/\r.size.w=r.size.w/\r.size.h=r.size.h/\nat_lit 0=nat_lit 0/\A1/\sh.grain=sh.grain/\A14/\A6/\nat_lit 0=nat_lit 0/\sh.id=sh.id/\sh.colour =
 sh.colour/\sh.w=sh.w/\sh.h=sh.h/\sh.grain=sh.grain/\True)/\∀(g_2:Nat),True->A35/\∃(g:Nat),nat_lit 0=nat_lit 0/\nat_lit 0=nat_lit 0/\nat_lit 0=nat_lit 0/\(A20.n=A9.n/\∀(i_1:Nat),i_1<A20.n->Bh (A20.g i_1)=Bh (A9.g i_1))/\A29.at_.x=A12.at_.x/\A29.at_.y=A12.at_.y/\A29.size.w=A12.size.w/\A29.size.h=A12.size.h/\A4.w=A4.w/\A4.h=A4.h/\A2 /\
 nat_lit 0=nat_lit 0/\A1/\sh.grain=sh.grain/\A14/\A6/\nat_lit 0=nat_lit 0/\sh.id=sh.id/\sh.colour=sh.colour/\sh.w=sh.w/\sh.h=sh.h/\sh.grain=sh.grain/\True)/\(decide (A4.w<r.size.w)=false->∃(g:Nat),nat_lit 0=nat_lit 0/\nat_lit 0=nat_lit 0/\nat_lit 0=nat_lit 0/\(A19.n=A9.n/\∀(i_1:Nat),i_1<A19.n->Bh (A19.g i_1)=Bh (A9.g
 i_1))/\r.at_.x=A12.at_.x/\r.at_.y=A12.at_.y/\r.size.w=A12.size.w/\r.size.h=A12.size.h/\A4.w=A4.w/\A4.h=A4.h/\A2/\nat_lit 0=nat_lit 0/\A1/\sh.grain=sh.grain/\A14/\A6/\nat_lit 0=nat_lit 0/\sh.id=sh.id/\sh.colour=sh.colour/\sh.w=sh.w/\sh.h=sh.h/\sh.grain=sh.grain/\True))/\∀(g:Nat),let A5:=(A9.n+nat_lit 1=A27.n/\∀(i_1:Nat),i_1<A9.n +
 nat_lit 1->AN A9.n (fun(k:Nat)=>Bh (A9.g k)) (fun(x:Nat)=>[I A16.sheet,I A16.kind,I A16.want,SV.sl (nat_lit 2) A16.pts.n fun(i_2:Nat)=>[I (A16.pts.g i_2).x,I (A16.pts.g i_2).y]]) i_1=Bh (A27.g i_1));True->(decide (A4.h<A12.size.h)=true->(CQ A12/\A44<=A4.h/\A4.h<=(4096:Int))/\((A9.n+nat_lit 1)*nat_lit 48<=A31/\∃(u :
 Nat),A1/\sh.grain=sh.grain/\A14/\A6/\nat_lit 0=A36/\sh.id=sh.id/\sh.colour=sh.colour/\sh.w=sh.w/\sh.h=sh.h/\sh.grain=sh.grain/\A2/\A5/\True)/\(A9.n+nat_lit 1)*nat_lit 48<=A31/\∃(u:Nat),A1/\sh.grain=sh.grain/\A14/\A6/\nat_lit 0=A36/\sh.id=sh.id/\sh.colour=sh.colour/\sh.w=sh.w/\sh.h=sh.h/\sh.grain=sh.grain/\A2/\A5/\True) /\
 (decide (A4.h<A12.size.h)=false->∃(u:Nat),A1/\sh.grain=sh.grain/\A14/\A6/\nat_lit 0=A36/\sh.id=sh.id/\sh.colour=sh.colour/\sh.w=sh.w/\sh.h=sh.h/\sh.grain=sh.grain/\A2/\(A9.n=A27.n/\∀(i_1:Nat),i_1<A9.n->Bh (A9.g i_1)=Bh (A27.g i_1))/\True)) (by kernel_rfl) (by
  conv=>zeta
  have hp:i<w.n/\w.n<=4/\(w.g i).ol.n<=1000000/\CQ r/\S.length<=1000:=hp;obtain⟨hi,hw4,ho,hA,hS⟩:=hp;have hiw:0<=(i:Int)/\(i:Int)<(w.n:Int):=⟨Aec _,by omega⟩;obtain⟨b1,b2,b3,b4⟩:=Zr w sh i r;have hA1:=Aa5 w sh i hA;have sz:((Ba S).n+1)*48<=140737488355328:=by show(S.length+1)*48<=_;omega
  have sz1:((Ba (EN w sh i r S)).n+1)*48<=140737488355328:=by show((EN w sh i r S).length+1)*48<=_;have:=Aa6 w sh i r S;omega
  refine⟨hiw,⟨(w,sh,dom,P,S,i,r,0),rfl,rfl,rfl,rfl,⟨rfl,fun _ _=>rfl⟩,rfl,fun _=>rfl,fun _ _=>rfl,rfl,rfl,rfl,rfl,rfl,rfl,⟨rfl,fun _ _=>rfl⟩,⟨rfl,fun _ _=>rfl⟩,rfl,rfl,rfl,rfl,rfl,ho,fun u _=>⟨fun hf=>?_,fun hf=>?_⟩⟩,fun _ _=>⟨⟨fun _ _=>rfl,ho⟩,⟨hiw,hi,(0:Nat),rfl,rfl,rfl,rfl,rfl,⟨rfl,fun j hj=>?_⟩,rfl,rfl,rfl,rfl,rfl,⟨rfl,fun _ _=>rfl⟩,rfl,fun _=>rfl,fun _ _=>rfl,rfl,rfl,rfl,rfl,rfl,rfl,⟨rfl,fun _ _=>rfl⟩,trivial⟩,fun _ _=>⟨⟨fun hc=>⟨?_,fun _ _=>?_⟩,fun hc=>?_⟩,fun _ _=>⟨fun hc=>?_,fun hc=>?_⟩⟩⟩⟩
  ·have hf:JR w sh.grain i r 0=false:=Cx hf;exact⟨(0:Nat),by unfold H2;rw[hf];rfl,rfl,rfl,rfl,rfl,rfl,rfl,rfl,rfl,rfl,⟨rfl,fun _ _=>rfl⟩,rfl,fun _=>rfl,fun _ _=>rfl,rfl,rfl,rfl,rfl,rfl,rfl,⟨rfl,fun _ _=>rfl⟩,⟨rfl,fun _ _=>rfl⟩,trivial⟩
  ·have hf:JR w sh.grain i r 0=true:=BW hf;exact⟨(0:Nat),by unfold H2;rw[hf];rfl,rfl,rfl,rfl,rfl,rfl,rfl,rfl,rfl,rfl,⟨rfl,fun _ _=>rfl⟩,rfl,fun _=>rfl,fun _ _=>rfl,rfl,rfl,rfl,rfl,rfl,rfl,⟨rfl,fun _ _=>rfl⟩,⟨rfl,fun _ _=>rfl⟩,trivial⟩
  ·unfold setRow Er Zq
   by_cases e:j=i
   ·subst e;rw[if_pos rfl,if_pos (show j=Aee (j:Int)from rfl)];try rfl
   ·rw[if_neg e,if_neg (show ¬ j=Aee (i:Int)from e)]
  ·repeat' with_reducible apply And.intro
   all_goals first|exact hA|exact b1|exact b2|exact sz|exact⟨(0:Nat),rfl,rfl,rfl,Qa rfl rfl,rfl,rfl,⟨rfl,fun _ _=>rfl⟩,rfl,rfl,rfl,rfl,rfl,⟨rfl,fun _ _=>rfl⟩,rfl,fun _=>rfl,fun _ _=>rfl,rfl,rfl,rfl,rfl,rfl,rfl,trivial⟩
  ·have e1:EN w sh i r S=Co S (BU r sh.id true (Dq w sh i r).w):=by unfold EN;rw[hc];rfl
   have e2:Fe w sh i r=CC r true (Dq w sh i r).w:=by unfold Fe;rw[hc];rfl
   rw[e1,e2];exact⟨⟨hA,b1,b2⟩,(0:Nat),rfl,rfl,rfl,⟨rfl,fun _ _=>rfl⟩,rfl,rfl,rfl,rfl,rfl,rfl,⟨rfl,fun _ _=>rfl⟩,rfl,⟨rfl,fun _ _=>rfl⟩,rfl,fun _=>rfl,fun _ _=>rfl,rfl,rfl,rfl,rfl,rfl,rfl,trivial⟩
  ·have e1:EN w sh i r S=S:=by unfold EN;rw[hc];rfl
   have e2:Fe w sh i r=r:=by unfold Fe;rw[hc];rfl
   rw[e1,e2];exact⟨(0:Nat),rfl,rfl,rfl,⟨rfl,fun _ _=>rfl⟩,rfl,rfl,rfl,rfl,rfl,rfl,⟨rfl,fun _ _=>rfl⟩,rfl,⟨rfl,fun _ _=>rfl⟩,rfl,fun _=>rfl,fun _ _=>rfl,rfl,rfl,rfl,rfl,rfl,rfl,trivial⟩
  ·have e1:Co (EN w sh i r S) (BU (Fe w sh i r) sh.id false (Dq w sh i r).h)=Fw w sh i r S:=by unfold Fw;rw[hc];rfl
   repeat' with_reducible apply And.intro
   all_goals first|exact hA1|exact b3|exact b4|exact sz1|exact⟨(0:Nat),⟨rfl,fun _ _=>rfl⟩,rfl,fun _=>rfl,fun _ _=>rfl,rfl,rfl,rfl,rfl,rfl,rfl,⟨rfl,fun _ _=>rfl⟩,Qa e1 rfl,trivial⟩
  ·have e1:EN w sh i r S=Fw w sh i r S:=by unfold Fw;rw[hc];rfl
   exact⟨(0:Nat),⟨rfl,fun _ _=>rfl⟩,rfl,fun _=>rfl,fun _ _=>rfl,rfl,rfl,rfl,rfl,rfl,rfl,⟨rfl,fun _ _=>rfl⟩,Aa4 e1,trivial⟩)
theorem AaN:As Tryz.prog 125:=fun args w=>by kernel_rfl
theorem AaO:De Tryz.prog 125 JT:=FB (n:=3) Tryz.func125 (c:=Ai Tryz.f125) (by kernel_rfl) mixed ⟨fun t=>rfl,fun t=>rfl,fun t u=>rfl,fun t u=>rfl,fun t u=>rfl,fun t u=>⟨rfl,rfl⟩,by kernel_rfl,by kernel_rfl⟩ (fun⟨w,sh,dom,P,S,i,r⟩ hp=>⟨_,AaM w sh dom P S i r hp,⟨show Aa Tryz.prog _ from(Aa.cons P0 P1 (Aa.cons Z8 Z9 (Aa.cons Zv Zw Aa.nil))),rfl,⟨show Af Tryz.prog _ from Af.nil,⟨show DE Tryz.prog _ from(DE.cons AaL AaK DE.nil),⟨Gx.no1 (fun _=>rfl),FamsOk.none (fun _=>rfl)⟩⟩⟩⟩⟩)
section
attribute [local irreducible] DZ AU
end
section
attribute [local irreducible] DZ AU
end
theorem AaP {b:Int} {n i:Nat} (h:i<(B2 b n).length):(B2 b n).getD i 0<n:=by
 rw[AS,AdH h,Option.getD_some];have:=Aeg h;unfold B2 at this;exact AdQ.1 (AdK.1 this).1
theorem AaQ (b:Int) (n:Nat):(B2 b n).length<=n:=by
 unfold B2;exact Aeu (Afe _ _) (by rw[List.length_range];exact AdS _)
theorem AaR {w:L.Sq Ab} (h:Bv w) (b:Int):Bv (Bs w b):=⟨Aeu (AaQ b w.n) h.1,fun i hi=>h.2 _ (AaP hi)⟩
theorem Ig {α:Type} (X Y:List α) (d:α) (i:Nat):(X++Y).getD i d=if i<X.length then X.getD i d else Y.getD (i-X.length) d:=by
 by_cases h:i<X.length
 ·rw[if_pos h,AS,AS,Aeh h]
 ·rw[if_neg h,AS,AS,Aej (by omega)]
section
attribute [local irreducible] DZ AU Bs
end
def IQ (l:List Int):Nat:=l.length
def Ae (a b:Nat):Bool:=decide (a<b)
def Am (l:List Int):L.Sq Int:=⟨l.length,fun i=>l.getD i 0⟩
structure BI where
 fd:Bool
 ls:Int
 bt:List Int
def H3 (g:Int) (i:Nat):Int:=FN g (Bi 1 i)
def FI (w:L.Sq Ab) (s:L.Sq Ah) (G:Nat->Int) (i k:Nat):Bool:=bif !decide ((s.g k).colour=(w.g i).colour)then true else !CH w (s.g k).grain (H3 (G k) i) ⟨(s.g k).w,(s.g k).h⟩
def CU (s:L.Sq Ah) (G:Nat->Int) (k:Nat):Int:=bif decide (G k=0)then(s.g k).w*(s.g k).h else 0
def Dv (G:Nat->Int) (k i:Nat):Nat->Int:=fun j=>if j=k then H3 (G k) i else G j
def Br (l:List Int) (k:Int):List Int:=l ++ [k]
def DN (w:L.Sq Ab) (s:L.Sq Ah):Nat->Nat->List Int->Int->(Nat->Int)->BI->BI
 |0,_,_,_,_,st=>st
 |f+1,i,A,sum,G,st=>if (st.fd&&decide (st.ls<=sum))=true then st else if i=w.n then⟨true,sum,A⟩else
   (AdP s.n).foldl (fun st k=>bif FI w s G i k then st else DN w s f (i+1) (Br A k) (sum+CU s G k) (Dv G k i) st) st
def Dw (w:L.Sq Ab) (s:L.Sq Ah) (i:Nat) (A:List Int) (sum:Int) (G:Nat->Int) (st:BI):BI:=DN w s (w.n+1-i) i A sum G st
def Dr (w:L.Sq Ab) (s:L.Sq Ah) (i:Nat) (A:List Int) (sum:Int) (G:Nat->Int) (st:BI) (k:Nat):BI:=(AdP k).foldl (fun st k=>bif FI w s G i k then st else Dw w s (i+1) (Br A k) (sum+CU s G k) (Dv G k i) st) st
theorem ZA (w:L.Sq Ab) (s:L.Sq Ah) (i:Nat) (A:List Int) (sum:Int) (G:Nat->Int) (st:BI) (k:Nat):Dr w s i A sum G st (k+1)=bif FI w s G i k then Dr w s i A sum G st k else Dw w s (i+1) (Br A k) (sum+CU s G k) (Dv G k i) (Dr w s i A sum G st k):=by
 unfold Dr;rw[Afb,List.foldl_append];rfl
theorem AaS (w:L.Sq Ab) (s:L.Sq Ah) {i:Nat} (A:List Int) {sum:Int} (G:Nat->Int) {st:BI} (hi:i<=w.n) (h:(st.fd&&decide (st.ls<=sum))=true):Dw w s i A sum G st=st:=by
 unfold Dw;obtain⟨f,e⟩:∃f,w.n+1-i=f+1:=⟨w.n-i,by omega⟩;rw[e,DN,if_pos h]
theorem AaT (w:L.Sq Ab) (s:L.Sq Ah) (A:List Int) {sum:Int} (G:Nat->Int) {st:BI} (h:(st.fd&&decide (st.ls<=sum))=false):Dw w s w.n A sum G st=⟨true,sum,A⟩:=by
 unfold Dw;rw[show w.n+1-w.n=0+1 by omega,DN,if_neg (by rw[h];decide),if_pos rfl]
theorem AaU (w:L.Sq Ab) (s:L.Sq Ah) {i:Nat} (A:List Int) {sum:Int} (G:Nat->Int) {st:BI} (hi:i<w.n) (h:(st.fd&&decide (st.ls<=sum))=false):Dw w s i A sum G st=Dr w s i A sum G st s.n:=by
 unfold Dw Dr;rw[show w.n+1-i=(w.n-i)+1 by omega,DN,if_neg (by rw[h];decide),if_neg (by omega)];unfold Dw;rw[show w.n+1-(i+1)=w.n-i by omega]
def ZB (i g:Nat):Bool:=decide (H3 g i=g+2 ^ i)&&(decide (Di (g+2 ^ i) (Bi 1 i)=g)&&decide (0<=Bi 1 i)&&decide (Bi 1 i<=16))
theorem AaV:((AdP 4).all fun i=>(AdP (2 ^ i)).all (ZB i))=true:=by kernel_rfl
theorem Nj {i:Nat} (hi:i<4) {g:Int} (h0:0<=g) (h1:g<2 ^ i):H3 g i=g+2 ^ i/\Di (g+2 ^ i) (Bi 1 i)=g/\0<=Bi 1 i/\Bi 1 i<=16:=by
 obtain⟨n,rfl⟩:=Aev h0;have hn:n<2 ^ i:=by exact_mod_cast h1
 have:=AdO.1 (AdO.1 AaV i (AdQ.2 hi)) n (AdQ.2 hn);unfold ZB at this;simp only[oE,decide_eq_true_eq]at this;exact⟨this.1,this.2.1.1,this.2.1.2,this.2.2⟩
theorem Qe {s:Ah} (h:Bo s=true):1<=s.w/\s.w<=4096/\1<=s.h/\s.h<=4096:=by
 unfold Bo at h;cases h1:Ay s.id 1 65535
 ·rw[h1]at h;cases h
 cases h2:Ay s.colour 1 16
 ·rw[h1,h2]at h;cases h
 cases h3:Ay s.w 1 4096
 ·rw[h1,h2,h3]at h;cases h
 cases h4:Ay s.h 1 4096
 ·rw[h1,h2,h3,h4]at h;cases h
 unfold Ay at h3 h4;rw[oE,decide_eq_true_eq,decide_eq_true_eq]at h3 h4;omega
def H4 (n i:Nat) (G:Nat->Int):Prop:=∀k,k<n->0<=G k/\G k<2 ^ i
theorem AaW {n i:Nat} (hn:n<=4) (hi:i<n) {g:Int} (h0:0<=g) (h1:g<2 ^ i):0<=H3 g i/\H3 g i<=AM n:=by
 obtain⟨e,_⟩:=Nj (show i<4 by omega) h0 h1;rw[e,XM hn];have hp:(2:Int) ^ i+2 ^ i<=2 ^ n:=by
  have:(2:Int) ^ (i+1)<=2 ^ n:=by exact_mod_cast Nat.pow_le_pow_right (show 0<2 by decide) hi
  rw[Int.pow_succ]at this;omega
 have h2:(0:Int)<2 ^ i:=Int.pow_pos (by decide);omega
theorem JU (w:L.Sq Ab) (s:L.Sq Ah) (i:Nat) (A:List Int) (sum:Int) (G:Nat->Int) (st:BI):Dr w s i A sum G st 0=st:=rfl
theorem AaX {n i k:Nat} {G:Nat->Int} (hi:i<4) (h:H4 n i G) (hk:k<n):H4 n (i+1) (Dv G k i):=fun j hj=>by
 have h2:(0:Int)<2 ^ i:=Int.pow_pos (by decide);have hp:(2:Int) ^ (i+1)=2 ^ i+2 ^ i:=by rw[Int.pow_succ];omega
 unfold Dv
 by_cases e:j=k
 ·rw[if_pos e,(Nj hi (h k hk).1 (h k hk).2).1];have:=h k hk;omega
 ·rw[if_neg e];have:=h j hj;omega
def BJ (A:List Int) (X:Nat->Int) (j:Nat):Int:=if j<A.length then A.getD j 0 else X j
section
attribute [local irreducible] Dr Dw DN CH Ak AU AM Ao Di FN Bi
def ZC (l:(L.Sq Int)):Prop:=l.n<=1000000
def ZD (l:(L.Sq Int)):Nat->Prop:=fun _=>True
def ZE (l:(L.Sq Int)):Nat->Nat:=fun _=>l.n
def ZF (l:(L.Sq Int)):Nat->Nat->List SV:=fun _ i=>[.int .i64 (l.g i)]
def ZG:List EV->Option (Prop×(Nat->Prop)×(Nat->Nat)×(Nat->Nat->List SV))
 |[.p (.sl 1 l_n l_g)]=>some ((∀i,i<l_n->l_g i = [.int .i64 ((Ca (l_g i)))])/\ZC (⟨l_n,fun i=>Ca (l_g i)⟩:(L.Sq Int)),ZD (⟨l_n,fun i=>Ca (l_g i)⟩:(L.Sq Int)),ZE (⟨l_n,fun i=>Ca (l_g i)⟩:(L.Sq Int)),ZF (⟨l_n,fun i=>Ca (l_g i)⟩:(L.Sq Int)))
 |_=>none
abbrev ZH:SE.Spec:=(Ge Nat 0 3 1 ZG)
def AaY:Al:={ cC with muts:=[5] }
theorem AaZ (l:(L.Sq Int)) (hp:ZC l):vc Tryz.prog (AaY) (Ai Tryz.f92) (Au Tryz.f92 [.p (.sl 1 l.n (fun i=>[.int .i64 ((l.g i))]))]) (EW Tryz.prog Tryz.f92 (Nat) (ZD l) 3 1 (ZE l) (ZF l)):=
 @Eq.mpr _ (∀(b:Bool),(b = !false->l.n=(0:Nat))->(b=true->∃(t:Nat),l.n=(0:Nat)/\True)/\(b=false->(nat_lit 0+l.n)*nat_lit 8<=(140737488355328:Nat)/\∃(t:Nat),(nat_lit 0+l.n=l.n/\∀(i:Nat),i<nat_lit 0+l.n->AN (nat_lit 0) (Ce [] (nat_lit 1)) (fun(i:Nat)=>[SV.int .i64 (l.g i)]) i = [SV.int .i64 (l.g i)])/\True)) (by kernel_rfl) (by
 have hn:l.n<=1000000:=hp;refine fun b hb=>⟨fun h=>⟨(0:Nat),hb h,trivial⟩,fun h=>⟨show(0+l.n)*8<=140737488355328 by omega,(0:Nat),⟨Nat.zero_add _,fun i hi=>?_⟩,trivial⟩⟩;unfold AN;rw[if_neg (nT _)];rfl)
theorem Aba:Ax Tryz.prog 92 ZH:=G3 Tryz.func92 (c:=Ai Tryz.f92) (by kernel_rfl) mixed (fun args p q n g hs hp=>by
 unfold ZG at hs;split at hs
 ·cases hs;exact⟨_,_,AaZ _ hp.2,(.p (.sl hp.1) .nil),⟨show Aa Tryz.prog _ from Aa.nil,rfl,⟨show Af Tryz.prog _ from Af.nil,(AA.none (fun _=>rfl))⟩⟩⟩
 ·cases hs)
theorem Abb:As Tryz.prog 92:=fun args w=>by kernel_rfl
abbrev ZI:Fk:={ T:=L.Sq Ab×Int×Int×Ac,args:=fun t=>[.int .i64 t.2.2.1,.agg [.int .i64 t.2.2.2.w,.int .i64 t.2.2.2.h]],t:=130,kt:=3,vt:=27,head:=fun t=>(fun w gr=>[(.sl 4 w.n (fun i=>[.int .i64 ((w.g i).id),.int .i64 ((w.g i).colour),.int .i64 ((w.g i).grain),.sl 2 (w.g i).ol.n (fun i1=>[.int .i64 (((w.g i).ol.g i1).x),.int .i64 (((w.g i).ol.g i1).y)])])),.int .i64 gr]) t.1 t.2.1,val:=fun t=>Aj (Ak t.1 t.2.1),pre:=fun t=>Bv t.1/\0<=t.2.2.1/\t.2.2.1<=AM t.1.n,res:=fun t=>.bool (CH t.1 t.2.1 t.2.2.1 t.2.2.2) }
theorem Abc:I1 Tryz.prog 41 ZI:=mG 1000 1001 (by decide) PK (fun t d=>(t.1,t.2.1,d,t.2.2.1,t.2.2.2)) (fun _ _ u=>u) rfl rfl rfl (fun _ _=>rfl) (fun _ _=>rfl) (fun _ _ _=>rfl) (fun _ _ h=>h) (fun _ _ _=>rfl)
theorem Abd:As Tryz.prog 41:=PJ
abbrev Ih:Mk:={ T:=(L.Sq Ab)×(L.Sq Ah)×(Nat)×(List Int)×(Nat->Int)×(Int)×(Nat->Int)×(BI),U:=Nat->Int,args:=fun t=>(fun w s i A X sum G st=>[.p (.int .i64 (i:Int)),.rpre 1012 i,.p (.int .i64 sum)] ++ [.loc 1000 0,.loc 1001 0,.p (.ref [(.sl 4 w.n (fun i=>[.int .i64 ((w.g i).id),.int .i64 ((w.g i).colour),.int .i64 ((w.g i).grain),.sl 2 (w.g i).ol.n (fun i1=>[.int .i64 (((w.g i).ol.g i1).x),.int .i64 (((w.g i).ol.g i1).y)])]))] 0),.loc 1002 0,.p (.ref [(.sl 5 s.n (fun i=>[.int .i64 ((s.g i).id),.int .i64 ((s.g i).colour),.int .i64 ((s.g i).w),.int .i64 ((s.g i).h),.int .i64 ((s.g i).grain)]))] 0),.loc 1003 0,.loc 1004 0,.loc 1005 0]) t.1 t.2.1 t.2.2.1 t.2.2.2.1 t.2.2.2.2.1 t.2.2.2.2.2.1 t.2.2.2.2.2.2.1 t.2.2.2.2.2.2.2,lkeys:=[1000,1001,1002,1003,1004,1005,1010,1020,1021,1022,1023,1024,1025,1026,1027,1011,1012],keys:=[],lent:=fun t=>(fun w s i A X sum G st=>[(1000,.blk 4 [.p (.bool (st).fd)]),(1001,.blk 3 [.p (.int .i64 (st).ls)]),(1002,.blk 42 [.p (.sl 1 (Am (st).bt).n (fun j=>[.int .i64 ((Am (st).bt).g j)]))]),(1003,.blk 153 [.row 1010]),(1004,.blk 42 [.row 1011]),(1005,.blk 154 [.cl 91 [.loc 1000 0,.loc 1001 0,.p (.ref [(.sl 4 w.n (fun i=>[.int .i64 ((w.g i).id),.int .i64 ((w.g i).colour),.int .i64 ((w.g i).grain),.sl 2 (w.g i).ol.n (fun i1=>[.int .i64 (((w.g i).ol.g i1).x),.int .i64 (((w.g i).ol.g i1).y)])]))] 0),.loc 1002 0,.p (.ref [(.sl 5 s.n (fun i=>[.int .i64 ((s.g i).id),.int .i64 ((s.g i).colour),.int .i64 ((s.g i).w),.int .i64 ((s.g i).h),.int .i64 ((s.g i).grain)]))] 0),.loc 1003 0,.loc 1004 0,.loc 1005 0]]),(1010,.prow 79 s.n [1020,1021,1022,1023,1024,1025,1026,1027]),(1020,.oblk (Ae 0 s.n) 130 [.p ((.sl 4 w.n (fun i=>[.int .i64 ((w.g i).id),.int .i64 ((w.g i).colour),.int .i64 ((w.g i).grain),.sl 2 (w.g i).ol.n (fun i1=>[.int .i64 (((w.g i).ol.g i1).x),.int .i64 (((w.g i).ol.g i1).y)])]))),.p (.int .i64 (s.g 0).grain),.mapv 1021]),(1021,.omq (Ae 0 s.n) 3 27 (Aj (Ak w (s.g 0).grain))),(1022,.oblk (Ae 1 s.n) 130 [.p ((.sl 4 w.n (fun i=>[.int .i64 ((w.g i).id),.int .i64 ((w.g i).colour),.int .i64 ((w.g i).grain),.sl 2 (w.g i).ol.n (fun i1=>[.int .i64 (((w.g i).ol.g i1).x),.int .i64 (((w.g i).ol.g i1).y)])]))),.p (.int .i64 (s.g 1).grain),.mapv 1023]),(1023,.omq (Ae 1 s.n) 3 27 (Aj (Ak w (s.g 1).grain))),(1024,.oblk (Ae 2 s.n) 130 [.p ((.sl 4 w.n (fun i=>[.int .i64 ((w.g i).id),.int .i64 ((w.g i).colour),.int .i64 ((w.g i).grain),.sl 2 (w.g i).ol.n (fun i1=>[.int .i64 (((w.g i).ol.g i1).x),.int .i64 (((w.g i).ol.g i1).y)])]))),.p (.int .i64 (s.g 2).grain),.mapv 1025]),(1025,.omq (Ae 2 s.n) 3 27 (Aj (Ak w (s.g 2).grain))),(1026,.oblk (Ae 3 s.n) 130 [.p ((.sl 4 w.n (fun i=>[.int .i64 ((w.g i).id),.int .i64 ((w.g i).colour),.int .i64 ((w.g i).grain),.sl 2 (w.g i).ol.n (fun i1=>[.int .i64 (((w.g i).ol.g i1).x),.int .i64 (((w.g i).ol.g i1).y)])]))),.p (.int .i64 (s.g 3).grain),.mapv 1027]),(1027,.omq (Ae 3 s.n) 3 27 (Aj (Ak w (s.g 3).grain))),(1011,.row 3 1 s.n (fun k=>[.int .i64 (G k)])),(1012,.row 3 1 w.n (fun j=>[.int .i64 (BJ A X j)]))]) t.1 t.2.1 t.2.2.1 t.2.2.2.1 t.2.2.2.2.1 t.2.2.2.2.2.1 t.2.2.2.2.2.2.1 t.2.2.2.2.2.2.2,pre:=fun t=>(fun w s i A X sum G st=>Bv w/\s.n<=4/\(∀k,k<s.n->Bo (s.g k)=true)/\i<=w.n/\IQ A=i/\H4 s.n i G/\0<=(sum:Int)/\(sum:Int)<=(i:Int)*16777216) t.1 t.2.1 t.2.2.1 t.2.2.2.1 t.2.2.2.2.1 t.2.2.2.2.2.1 t.2.2.2.2.2.2.1 t.2.2.2.2.2.2.2,post:=fun t u=>(fun w s i A X sum G st=>fun u=>True) t.1 t.2.1 t.2.2.1 t.2.2.2.1 t.2.2.2.2.1 t.2.2.2.2.2.1 t.2.2.2.2.2.2.1 t.2.2.2.2.2.2.2 u,lent':=fun t u=>(fun w s i A X sum G st=>fun u=>[(1000,.blk 4 [.p (.bool (Dw w s i A sum G st).fd)]),(1001,.blk 3 [.p (.int .i64 (Dw w s i A sum G st).ls)]),(1002,.blk 42 [.p (.sl 1 (Am (Dw w s i A sum G st).bt).n (fun j=>[.int .i64 ((Am (Dw w s i A sum G st).bt).g j)]))]),(1003,.blk 153 [.row 1010]),(1004,.blk 42 [.row 1011]),(1005,.blk 154 [.cl 91 [.loc 1000 0,.loc 1001 0,.p (.ref [(.sl 4 w.n (fun i=>[.int .i64 ((w.g i).id),.int .i64 ((w.g i).colour),.int .i64 ((w.g i).grain),.sl 2 (w.g i).ol.n (fun i1=>[.int .i64 (((w.g i).ol.g i1).x),.int .i64 (((w.g i).ol.g i1).y)])]))] 0),.loc 1002 0,.p (.ref [(.sl 5 s.n (fun i=>[.int .i64 ((s.g i).id),.int .i64 ((s.g i).colour),.int .i64 ((s.g i).w),.int .i64 ((s.g i).h),.int .i64 ((s.g i).grain)]))] 0),.loc 1003 0,.loc 1004 0,.loc 1005 0]]),(1010,.prow 79 s.n [1020,1021,1022,1023,1024,1025,1026,1027]),(1020,.oblk (Ae 0 s.n) 130 [.p ((.sl 4 w.n (fun i=>[.int .i64 ((w.g i).id),.int .i64 ((w.g i).colour),.int .i64 ((w.g i).grain),.sl 2 (w.g i).ol.n (fun i1=>[.int .i64 (((w.g i).ol.g i1).x),.int .i64 (((w.g i).ol.g i1).y)])]))),.p (.int .i64 (s.g 0).grain),.mapv 1021]),(1021,.omq (Ae 0 s.n) 3 27 (Aj (Ak w (s.g 0).grain))),(1022,.oblk (Ae 1 s.n) 130 [.p ((.sl 4 w.n (fun i=>[.int .i64 ((w.g i).id),.int .i64 ((w.g i).colour),.int .i64 ((w.g i).grain),.sl 2 (w.g i).ol.n (fun i1=>[.int .i64 (((w.g i).ol.g i1).x),.int .i64 (((w.g i).ol.g i1).y)])]))),.p (.int .i64 (s.g 1).grain),.mapv 1023]),(1023,.omq (Ae 1 s.n) 3 27 (Aj (Ak w (s.g 1).grain))),(1024,.oblk (Ae 2 s.n) 130 [.p ((.sl 4 w.n (fun i=>[.int .i64 ((w.g i).id),.int .i64 ((w.g i).colour),.int .i64 ((w.g i).grain),.sl 2 (w.g i).ol.n (fun i1=>[.int .i64 (((w.g i).ol.g i1).x),.int .i64 (((w.g i).ol.g i1).y)])]))),.p (.int .i64 (s.g 2).grain),.mapv 1025]),(1025,.omq (Ae 2 s.n) 3 27 (Aj (Ak w (s.g 2).grain))),(1026,.oblk (Ae 3 s.n) 130 [.p ((.sl 4 w.n (fun i=>[.int .i64 ((w.g i).id),.int .i64 ((w.g i).colour),.int .i64 ((w.g i).grain),.sl 2 (w.g i).ol.n (fun i1=>[.int .i64 (((w.g i).ol.g i1).x),.int .i64 (((w.g i).ol.g i1).y)])]))),.p (.int .i64 (s.g 3).grain),.mapv 1027]),(1027,.omq (Ae 3 s.n) 3 27 (Aj (Ak w (s.g 3).grain))),(1011,.row 3 1 s.n (fun k=>[.int .i64 (G k)])),(1012,.row 3 1 w.n (fun j=>[.int .i64 (BJ A u j)]))]) t.1 t.2.1 t.2.2.1 t.2.2.2.1 t.2.2.2.2.1 t.2.2.2.2.2.1 t.2.2.2.2.2.2.1 t.2.2.2.2.2.2.2 u,own:=fun t u=>(fun w s i A X sum G st=>fun u=>[]) t.1 t.2.1 t.2.2.1 t.2.2.2.1 t.2.2.2.2.1 t.2.2.2.2.2.1 t.2.2.2.2.2.2.1 t.2.2.2.2.2.2.2 u,res:=fun t u=>(fun w s i A X sum G st=>fun u=>.p (.tup [])) t.1 t.2.1 t.2.2.1 t.2.2.2.1 t.2.2.2.2.1 t.2.2.2.2.2.1 t.2.2.2.2.2.2.1 t.2.2.2.2.2.2.2 u }
abbrev ZJ:Ih.T->Nat:=fun t=>(fun w s i A X sum G st=>w.n-i) t.1 t.2.1 t.2.2.1 t.2.2.2.1 t.2.2.2.2.1 t.2.2.2.2.2.1 t.2.2.2.2.2.2.1 t.2.2.2.2.2.2.2
theorem Abe (rn:Nat) (w:L.Sq Ab) (s:L.Sq Ah) (i:Nat) (A:List Int) (X:Nat->Int) (sum:Int) (G:Nat->Int) (st:BI) (hp:Ih.pre (w,s,i,A,X,sum,G,st)) (hmu:w.n-i<rn+1):vc Tryz.prog ({ muts:=[],frz:=B8 [],specs:=AC [(92,ZH)],loops:=AT [(4,{ T:=Nat×(Nat->Int),keep:=[0,1,2,3,4,5,6,7,8,9,10,30],keepO:=[1003,1004,1005,1010,1020,1021,1022,1023,1024,1025,1026,1027,1011],chg:=fun t=>[(31,.p (.int .i64 (t.1:Int)))],own:=fun t=>[(1000,.blk 4 [.p (.bool ((Dr w s i A sum G st t.1)).fd)]),(1001,.blk 3 [.p (.int .i64 ((Dr w s i A sum G st t.1)).ls)]),(1002,.blk 42 [.p (.sl 1 (Am ((Dr w s i A sum G st t.1)).bt).n (fun j=>[.int .i64 ((Am ((Dr w s i A sum G st t.1)).bt).g j)]))]),(1012,.row 3 1 w.n (fun j=>[.int .i64 (BJ A t.2 j)]))],inv:=fun t=>t.1<=s.n,mu:=fun t=>s.n-t.1 })],iters:=B3 [],rfs:=AP [],nils:=B6 [],mks:=DF [(91,Mk.lt Ih ZJ rn)],ren:=fun k=>k,fams:=KT [(41,ZI)],joins:=AT [(10,{ T:=Nat,keep:=[0,1,2,3,4,5,6,7,8,9,10,14,30,31],keepO:=[1003,1004,1005,1010,1020,1021,1022,1023,1024,1025,1026,1027,1000,1001,1002,1011,1012],chg:=fun k=>[(15,.p (.int .i64 (CU s G k)))],own:=fun _=>[],inv:=fun _=>True,mu:=fun _=>0,tie:=fun k=>[(14,.int .i64 (k:Int))] })],anys:=[1011] }) (Ai Tryz.f91) (Dy Tryz.f91 (Ih.args (w,s,i,A,X,sum,G,st)) (Ih.lent (w,s,i,A,X,sum,G,st))) (Fq Tryz.prog Tryz.f91 Ih (w,s,i,A,X,sum,G,st)):=
  @Eq.mpr _ (let I:=SV.int .i64;let T:=Aee;let A107:=(↑w.n:Int);let A96:=(nat_lit 1005);let A95:=(nat_lit 1004);let A94:=(nat_lit 1003);let A93:=(nat_lit 1002);let A92:=(nat_lit 1001);let A91:=(nat_lit 1000);let A90:=(4:Nat);let A88:=(91:Nat);let A59:=(nat_lit 4);let A58:=(Am st.bt);let A57:=(1:Int);let A55:=(bif st.fd then
 decide (st.ls<=sum)else false);let A40:=(nat_lit 91);let A34:=(0:Int);let A31:=(↑i:Int);let A30:=(↑s.n:Int);let A26:=(Dw w s i A sum G st);let A56:=(Am A26.bt);let A25:=(Bi A57 A31);let A24:=(s.n=s.n/\∀(i:Nat),i<s.n -> [I (G i)]= [I (G i)]);let A17:=(3:Nat);let A36:=(s.g A17);let A43:=(Ak w A36.grain);let A23
:=(∀(x:Int),Aj A43 x=Aj A43 x);let A16:=(nat_lit 0);let A15:=(1:Nat);let A37:=(s.g A15);let A44:=(Ak w A37.grain);let A21:=(∀(x:Int),Aj A44 x=Aj A44 x);let A13:=(0:Nat);let A61:=(A13<nat_lit 1/\i+nat_lit 1<=w.n);let A38:=(s.g A13);let A45:=(Ak w A38.grain);let A20:=(∀(x:Int),Aj A45 x=Aj A45 x);let A12:=(2
:Nat);let A39:=(s.g A12);let A46:=(Ak w A39.grain);let A22:=(∀(x:Int),Aj A46 x=Aj A46 x);let A4:=[SV.sl (nat_lit 5) s.n fun(i:Nat)=>[I (s.g i).id,I (s.g i).colour,I (s.g i).w,I (s.g i).h,I (s.g i).grain]];let A3:=[SV.sl A59 w.n fun(i:Nat)=>[I (w.g i).id,I (w.g i).colour,I (w.g i).grain,SV.sl A12 (w.g i).ol.n fun(i1:Nat)=>[I
 ((w.g i).ol.g i1).x,I ((w.g i).ol.g i1).y]]];let A2:=(w.n=w.n/\∀(i:Nat),let A35:=[I (w.g i).id,I (w.g i).colour,I (w.g i).grain,SV.sl A12 (w.g i).ol.n fun(i1:Nat)=>[I ((w.g i).ol.g i1).x,I ((w.g i).ol.g i1).y]];i<w.n->A35=A35);let A1:=[EV.loc A91 A16,EV.loc A92 A16,EV.p (SV.ref A3 A16),EV.loc A93 A16,EV.p (SV.ref A4
 A16),EV.loc A94 A16,EV.loc A95 A16,EV.loc A96 A16];(A55=true->∃(u:Nat->Int),st.fd=A26.fd/\st.ls=A26.ls/\(A58.n=A56.n/\∀(i_1:Nat),i_1<A58.n -> [I (A58.g i_1)]= [I (A56.g i_1)])/\EV.cl A40 A1=EV.cl A88 A1/\s.n=s.n/\Ae A13 s.n=Ae A13 s.n/\A2/\A38.grain=A38.grain/\Ae A13 s.n=Ae A13 s.n/\A20/\Ae A15 s.n
 = Ae A15 s.n/\A2/\A37.grain=A37.grain/\Ae A15 s.n=Ae A15 s.n/\A21/\Ae A12 s.n=Ae A12 s.n/\A2/\A39.grain=A39.grain/\Ae A12 s.n=Ae A12 s.n/\A22/\Ae A17 s.n=Ae A17 s.n/\A2/\A36.grain=A36.grain/\Ae A17 s.n=Ae A17 s.n/\A23/\A24/\(w.n=w.n/\∀(i:Nat),i<w.n -> [I (BJ A X i)]= [I (BJ A u i)])/\True)/\(A55 =
 false->(decide (A31=A107)=true->i<=w.n/\((∀(i_1:Nat),i_1<i -> [I (BJ A X i_1)]= [I (BJ A X i_1)])/\i<=(1000000:Nat))/\∀(t:Nat),True->(∀(i_1:Nat),i_1<i->(true&&true)=true)/\∃(u:Nat->Int),true=A26.fd/\sum=A26.ls/\(i=A56.n/\∀(i_1:Nat),i_1<i -> [I (BJ A X i_1)]= [I (A56.g i_1)])/\EV.cl A40
 A1=EV.cl A88 A1/\s.n=s.n/\Ae A13 s.n=Ae A13 s.n/\A2/\A38.grain=A38.grain/\Ae A13 s.n=Ae A13 s.n/\A20/\Ae A15 s.n=Ae A15 s.n/\A2/\A37.grain=A37.grain/\Ae A15 s.n=Ae A15 s.n/\A21/\Ae A12 s.n=Ae A12 s.n/\A2/\A39.grain=A39.grain/\Ae A12 s.n=Ae A12 s.n/\A22/\Ae A17 s.n=Ae A17 s.n/\A2/\A36.grain =
 A36.grain/\Ae A17 s.n=Ae A17 s.n/\A23/\A24/\(w.n=w.n/\∀(i:Nat),i<w.n -> [I (BJ A X i)]= [I (BJ A u i)])/\True)/\(decide (A31=A107)=false->(∃(g:Nat×(Nat->Int)),let A51:=(Dr w s i A sum G st g.1);A34=(↑g.1:Int)/\st.fd=A51.fd/\st.ls=A51.ls/\(A58.n=(Am A51.bt).n/\∀(i_1:Nat),i_1<A58.n -> [I (A58.g i_1)]= [I ((Am
 A51.bt).g i_1)])/\(w.n=w.n/\∀(i:Nat),i<w.n -> [I (BJ A X i)]= [I (BJ A g.2 i)])/\g.1<=s.n)/\∀(g:Nat×(Nat->Int)),let A53:=(w.n=w.n/\∀(i:Nat),i<w.n -> [I (BJ A g.2 i)]= [I (BJ A g.2 i)]);let A11:=(↑g.1:Int);let A79:=[I (FN (G (T A11)) A25)];let A54:=(s.g (T A11));let A47:=(A34<=A11/\A11<A30);let A10:=(Dr w s i A sum G st
 g.1);let A27:=(Am A10.bt);let A52:=(A27.n=A27.n/\∀(i_1:Nat),i_1<A27.n -> [I (A27.g i_1)]= [I (A27.g i_1)]);let A5:=(!!decide (A54.colour=(w.g (T A31)).colour));let A89:=(A5=true->T A11<s.n);let A42:=(A5=true->A34<=A11/\A11<A30);g.1<=s.n->(decide (A11<A30)=true->A47/\(A34<=A31/\A31<A107)/\A42/\A89/\A42/\A89
 /\ (A5=true->A34<=A31)/\(A5=true->Ad .i64 A25)/\A42/\A42/\∃(t:L.Sq Ab×Int×Int×Ac),let A60:=(Ak t.1 t.2.1);let A41:=(bif !decide (A54.colour=(w.g (T A31)).colour)then true else !CH t.1 t.2.1 t.snd.2.1 t.snd.2.2);let A14:=[SV.sl A90 t.1.n fun(i:Nat)=>let A70:=(t.1.g i);[I A70.id,I A70.colour,I
 A70.grain,SV.sl A12 A70.ol.n fun(i1:Nat)=>[I (A70.ol.g i1).x,I (A70.ol.g i1).y]],I t.2.1];(A5=true->T A11<A13+A15+A15+A15+A15)/\(A5=true->T A11=A13->Ae A13 s.n=true/\Ae A13 s.n=true /\ [SV.sl A59 w.n fun(i:Nat)=>[I (w.g i).id,I (w.g i).colour,I (w.g i).grain,SV.sl A12 (w.g i).ol.n fun(i1:Nat)=>[I ((w.g i).ol.g
 i1).x,I ((w.g i).ol.g i1).y]],I A38.grain]=A14/\∀(x:Int),Aj A45 x=Aj A60 x)/\(A5=true->T A11=A13+A15->Ae A15 s.n=true/\Ae A15 s.n=true /\ [SV.sl A59 w.n fun(i:Nat)=>[I (w.g i).id,I (w.g i).colour,I (w.g i).grain,SV.sl A12 (w.g i).ol.n fun(i1:Nat)=>[I ((w.g i).ol.g i1).x,I ((w.g i).ol.g i1).y]],I A37.grain]=A14/\∀(x
:Int),Aj A44 x=Aj A60 x)/\(A5=true->T A11=A13+A15+A15->Ae A12 s.n=true/\Ae A12 s.n=true /\ [SV.sl A59 w.n fun(i:Nat)=>[I (w.g i).id,I (w.g i).colour,I (w.g i).grain,SV.sl A12 (w.g i).ol.n fun(i1:Nat)=>[I ((w.g i).ol.g i1).x,I ((w.g i).ol.g i1).y]],I A39.grain]=A14/\∀(x:Int),Aj A46 x=Aj A60 x)/\(A5 =
 true->T A11=A13+A15+A15+A15->Ae A17 s.n=true/\Ae A17 s.n=true /\ [SV.sl A59 w.n fun(i:Nat)=>[I (w.g i).id,I (w.g i).colour,I (w.g i).grain,SV.sl A12 (w.g i).ol.n fun(i1:Nat)=>[I ((w.g i).ol.g i1).x,I ((w.g i).ol.g i1).y]],I A36.grain]=A14/\∀(x:Int),Aj A43 x=Aj A60 x)/\(A5=true->FN (G (T A11)) A25 =
 t.snd.2.1)/\(A5=true->SV.agg [I A54.w,I A54.h]=SV.agg [I t.snd.2.2.w,I t.snd.2.2.h])/\(A5=true->Bv t.1/\A34<=t.snd.2.1/\t.snd.2.1<=AM t.1.n)/\(A41=true->Ad .i64 (A11+A57)/\∃(g':Nat×(Nat->Int)),let A48:=(Dr w s i A sum G st g'.1);A11+A57=(↑g'.1:Int)/\A30=A30/\A31=A31/\i=i/\sum=sum/\nat_lit 0 =
 nat_lit 0/\nat_lit 0=nat_lit 0/\SV.ref A3 A16=SV.ref A3 A16/\nat_lit 0=nat_lit 0/\SV.ref A4 A16=SV.ref A4 A16/\nat_lit 0=nat_lit 0/\nat_lit 0=nat_lit 0/\nat_lit 0=nat_lit 0/\A10.fd=A48.fd/\A10.ls=A48.ls/\(A27.n=(Am A48.bt).n/\∀(i_1:Nat),i_1<A27.n -> [I (A27.g i_1)]= [I ((Am A48.bt).g i_1)])/\(w.n=w.n/\∀(i:Nat),i<w.n -> [I
 (BJ A g.2 i)]= [I (BJ A g'.2 i)])/\EV.cl A40 A1=EV.cl A40 A1/\s.n=s.n/\Ae A13 s.n=Ae A13 s.n/\A2/\A38.grain=A38.grain/\Ae A13 s.n=Ae A13 s.n/\A20/\Ae A15 s.n=Ae A15 s.n/\A2/\A37.grain=A37.grain/\Ae A15 s.n=Ae A15 s.n/\A21/\Ae A12 s.n=Ae A12 s.n/\A2/\A39.grain=A39.grain/\Ae A12 s.n=Ae A12 s.n /\
 A22/\Ae A17 s.n=Ae A17 s.n/\A2/\A36.grain=A36.grain/\Ae A17 s.n=Ae A17 s.n/\A23/\A24/\g'.1<=s.n/\s.n-g'.1<s.n-g.1)/\(A41=false->(A47/\T A11<s.n/\(decide (G (T A11)=A34)=true->A47/\A47/\Ad .i64 (A54.w*A54.h)/\∃(g_1:Nat),A54.w*A54.h=CU s G g_1/\A11=A11/\A11=A11/\A30=A30/\A31=A31/\i=i
 /\ sum=sum/\nat_lit 0=nat_lit 0/\nat_lit 0=nat_lit 0/\SV.ref A3 A16=SV.ref A3 A16/\nat_lit 0=nat_lit 0/\SV.ref A4 A16=SV.ref A4 A16/\nat_lit 0=nat_lit 0/\nat_lit 0=nat_lit 0/\nat_lit 0=nat_lit 0/\A10.fd=A10.fd/\A10.ls=A10.ls/\A52/\A53/\EV.cl A40 A1=EV.cl A40 A1/\s.n=s.n/\Ae A13 s.n=Ae A13 s.n/\A2/\A38.grain =
 A38.grain/\Ae A13 s.n=Ae A13 s.n/\A20/\Ae A15 s.n=Ae A15 s.n/\A2/\A37.grain=A37.grain/\Ae A15 s.n=Ae A15 s.n/\A21/\Ae A12 s.n=Ae A12 s.n/\A2/\A39.grain=A39.grain/\Ae A12 s.n=Ae A12 s.n/\A22/\Ae A17 s.n=Ae A17 s.n/\A2/\A36.grain=A36.grain/\Ae A17 s.n=Ae A17 s.n/\A23/\A24/\A11=(↑g_1:Int)/\True) /\
 (decide (G (T A11)=A34)=false->∃(g_1:Nat),A34=CU s G g_1/\A11=A11/\A11=A11/\A30=A30/\A31=A31/\i=i/\sum=sum/\nat_lit 0=nat_lit 0/\nat_lit 0=nat_lit 0/\SV.ref A3 A16=SV.ref A3 A16/\nat_lit 0=nat_lit 0/\SV.ref A4 A16=SV.ref A4 A16/\nat_lit 0=nat_lit 0/\nat_lit 0=nat_lit 0/\nat_lit 0=nat_lit 0/\A10.fd =
 A10.fd/\A10.ls=A10.ls/\A52/\A53/\EV.cl A40 A1=EV.cl A40 A1/\s.n=s.n/\Ae A13 s.n=Ae A13 s.n/\A2/\A38.grain=A38.grain/\Ae A13 s.n=Ae A13 s.n/\A20/\Ae A15 s.n=Ae A15 s.n/\A2/\A37.grain=A37.grain/\Ae A15 s.n=Ae A15 s.n/\A21/\Ae A12 s.n=Ae A12 s.n/\A2/\A39.grain=A39.grain/\Ae A12 s.n=Ae A12 s.n/\A22
 /\ Ae A17 s.n=Ae A17 s.n/\A2/\A36.grain=A36.grain/\Ae A17 s.n=Ae A17 s.n/\A23/\A24/\A11=(↑g_1:Int)/\True))/\∀(g_1:Nat),A11=(↑g_1:Int)/\True->A47/\T A11<s.n/\A34<=A31/\Ad .i64 A25/\A47/\T A11<s.n/\Ad .i64 (A31+A57)/\Ad .i64 (sum+CU s G g_1)/\(A61/\∃(t:L.Sq Ab×L.Sq Ah ×
 Nat×List Int×(Nat->Int)×Int×(Nat->Int)×BI),let A78:=(t.2.1.g A17);let A102:=(Ak t.1 A78.grain);let A77:=(t.2.1.g A12);let A101:=(Ak t.1 A77.grain);let A76:=(t.2.1.g A15);let A100:=(Ak t.1 A76.grain);let A75:=(t.2.1.g A13);let A99:=(Ak t.1 A75.grain);let A63:=(A34<=A11/\A11<(↑t.2.1.n:Int));let A62:=(Am
 t.snd.snd.snd.snd.snd.2.2.bt);let A32:=(SV.ref [SV.sl (nat_lit 5) t.2.1.n fun(i:Nat)=>let A66:=(t.2.1.g i);[I A66.id,I A66.colour,I A66.w,I A66.h,I A66.grain]] A16);let A28:=(SV.ref [SV.sl A59 t.1.n fun(i:Nat)=>let A71:=(t.1.g i);[I A71.id,I A71.colour,I A71.grain,SV.sl A12 A71.ol.n fun(i1:Nat)=>[I (A71.ol.g i1).x,I (A71.ol.g i1).y]]]
 A16);let A18:=(Dw t.1 t.2.1 t.snd.2.1 t.snd.snd.2.1 t.snd.snd.snd.snd.2.1 t.snd.snd.snd.snd.snd.2.1 t.snd.snd.snd.snd.snd.2.2);let A97:=(Am A18.bt);let A8:=(w.n=t.1.n/\∀(i:Nat),let A72:=(t.1.g i);i<w.n -> [I (w.g i).id,I (w.g i).colour,I (w.g i).grain,SV.sl A12 (w.g i).ol.n fun(i1:Nat)=>[I ((w.g i).ol.g i1).x,I ((w.g i).ol.g i1).y]]= [I A72.id,I
 A72.colour,I A72.grain,SV.sl A12 A72.ol.n fun(i1:Nat)=>[I (A72.ol.g i1).x,I (A72.ol.g i1).y]]);let A6:=(t.1.n=w.n/\∀(i:Nat),let A73:=(t.1.g i);i<t.1.n -> [I A73.id,I A73.colour,I A73.grain,SV.sl A12 A73.ol.n fun(i1:Nat)=>[I (A73.ol.g i1).x,I (A73.ol.g i1).y]]= [I (w.g i).id,I (w.g i).colour,I (w.g i).grain,SV.sl A12 (w.g i).ol.n fun(i1:Nat)=>
 [I ((w.g i).ol.g i1).x,I ((w.g i).ol.g i1).y]]);A31+A57=(↑t.snd.2.1:Int)/\i+nat_lit 1=t.snd.2.1/\sum+CU s G g_1=t.snd.snd.snd.snd.2.1/\nat_lit 0=A13/\nat_lit 0=A13/\SV.ref A3 A16=SV.ref [SV.sl A90 t.1.n fun(i:Nat)=>let A74:=(t.1.g i);[I A74.id,I A74.colour,I A74.grain,SV.sl A12 A74.ol.n fun(i1:Nat)=>[I (A74.ol.g i1).x,I (A74.ol.g
 i1).y]]] A13/\nat_lit 0=A13/\SV.ref A4 A16=SV.ref [SV.sl (5:Nat) t.2.1.n fun(i:Nat)=>let A67:=(t.2.1.g i);[I A67.id,I A67.colour,I A67.w,I A67.h,I A67.grain]] A13/\nat_lit 0=A13/\nat_lit 0=A13/\nat_lit 0=A13/\A10.fd=t.snd.snd.snd.snd.snd.2.2.fd/\A10.ls=t.snd.snd.snd.snd.snd.2.2.ls/\(A27.n=A62.n/\∀(i_1:Nat),i_1<A27.n -> [I (A27.g i_1)] =
 [I (A62.g i_1)])/\EV.cl A40 A1=EV.cl A88 [EV.loc A91 A16,EV.loc A92 A16,EV.p A28,EV.loc A93 A16,EV.p A32,EV.loc A94 A16,EV.loc A95 A16,EV.loc A96 A16]/\s.n=t.2.1.n/\Ae A13 s.n=Ae A13 t.2.1.n/\A8/\A38.grain=A75.grain/\Ae A13 s.n=Ae A13 t.2.1.n/\(∀(x:Int),Aj A45 x=Aj A99 x)/\Ae A15
 s.n=Ae A15 t.2.1.n/\A8/\A37.grain=A76.grain/\Ae A15 s.n=Ae A15 t.2.1.n/\(∀(x:Int),Aj A44 x=Aj A100 x)/\Ae A12 s.n=Ae A12 t.2.1.n/\A8/\A39.grain=A77.grain/\Ae A12 s.n=Ae A12 t.2.1.n/\(∀(x:Int),Aj A46 x=Aj A101 x)/\Ae A17 s.n=Ae A17 t.2.1.n/\A8/\A36.grain=A78.grain/\Ae A17 s.n=Ae A17 t.2.1.n/\(∀
 (x:Int),Aj A43 x=Aj A102 x)/\(s.n=t.2.1.n/\∀(i_1:Nat),i_1<s.n->setRow (fun(k:Nat)=>[I (G k)]) (T A11) A16 A79 i_1 = [I (t.snd.snd.snd.snd.snd.2.1 i_1)])/\(w.n=t.1.n/\∀(i_1:Nat),i_1<w.n->(if i<=i_1/\i_1<i+nat_lit 1 then [I A11]else [I (BJ A g.2 i_1)])= [I (BJ t.snd.snd.2.1 t.snd.snd.snd.2.1 i_1)])/\((Bv t.1/\t.2.1.n<=A90/\(∀(k :
 Nat),k<t.2.1.n->Bo (t.2.1.g k)=true)/\t.snd.2.1<=t.1.n/\IQ t.snd.snd.2.1=t.snd.2.1/\H4 t.2.1.n t.snd.2.1 t.snd.snd.snd.snd.snd.2.1/\A34<=t.snd.snd.snd.snd.2.1/\t.snd.snd.snd.snd.2.1<=(↑t.snd.2.1:Int)*(16777216:Int))/\t.1.n-t.snd.2.1<rn)/\∀(u:Nat->Int),True->A63/\T A11<t.2.1.n/\A34<=A31/\Ad .i64 A25/\A63/\T A11<t.2.1.n /\
 Ad .i64 (A11+A57)/\∃(g':Nat×(Nat->Int)),let A49:=(Dr w s i A sum G st g'.1);A11+A57=(↑g'.1:Int)/\A30=A30/\A31=A31/\i=i/\sum=sum/\nat_lit 0=nat_lit 0/\nat_lit 0=nat_lit 0/\SV.ref A3 A16=SV.ref A3 A16/\nat_lit 0=nat_lit 0/\SV.ref A4 A16=SV.ref A4 A16/\nat_lit 0=nat_lit 0/\nat_lit 0=nat_lit 0/\nat_lit 0
 = nat_lit 0/\A18.fd=A49.fd/\A18.ls=A49.ls/\(A97.n=(Am A49.bt).n/\∀(i_1:Nat),i_1<A97.n -> [I (A97.g i_1)]= [I ((Am A49.bt).g i_1)])/\(t.1.n=w.n/\∀(i:Nat),i<t.1.n -> [I (BJ t.snd.snd.2.1 u i)]= [I (BJ A g'.2 i)])/\EV.cl A40 [EV.loc (1000:Nat) A16,EV.loc (1001:Nat) A16,EV.p A28,EV.loc (1002:Nat) A16,EV.p A32,
 EV.loc (1003:Nat) A16,EV.loc (1004:Nat) A16,EV.loc (1005:Nat) A16]=EV.cl A40 A1/\t.2.1.n=s.n/\Ae A13 t.2.1.n=Ae A13 s.n/\A6/\A75.grain=A38.grain/\Ae A13 t.2.1.n=Ae A13 s.n/\(∀(x:Int),Aj A99 x=Aj A45 x)/\Ae A15 t.2.1.n=Ae A15 s.n/\A6/\A76.grain=A37.grain/\Ae A15 t.2.1.n=Ae A15 s.n/\(∀(x:Int),
 Aj A100 x=Aj A44 x)/\Ae A12 t.2.1.n=Ae A12 s.n/\A6/\A77.grain=A39.grain/\Ae A12 t.2.1.n=Ae A12 s.n/\(∀(x:Int),Aj A101 x=Aj A46 x)/\Ae A17 t.2.1.n=Ae A17 s.n/\A6/\A78.grain=A36.grain/\Ae A17 t.2.1.n=Ae A17 s.n/\(∀(x:Int),Aj A102 x=Aj A43 x)/\(t.2.1.n=s.n/\∀(i_1:Nat),i_1<t.2.1.n->setRow (fun
 (k:Nat)=>[I (t.snd.snd.snd.snd.snd.2.1 k)]) (T A11) A16 [I (Di (t.snd.snd.snd.snd.snd.2.1 (T A11)) A25)] i_1 = [I (G i_1)])/\g'.1<=s.n/\s.n-g'.1<s.n-g.1)/\A61/\∃(t:L.Sq Ab×L.Sq Ah×Nat×List Int×(Nat->Int)×Int×(Nat->Int)×BI),let A87:=(t.2.1.g A17);let A106:=(Ak t.1 A87.grain);let A86:=(t.2.1.g A12);let A105:=(Ak t.1
 A86.grain);let A85:=(t.2.1.g A15);let A104:=(Ak t.1 A85.grain);let A84:=(t.2.1.g A13);let A103:=(Ak t.1 A84.grain);let A65:=(A34<=A11/\A11<(↑t.2.1.n:Int));let A64:=(Am t.snd.snd.snd.snd.snd.2.2.bt);let A33:=(SV.ref [SV.sl (nat_lit 5) t.2.1.n fun(i:Nat)=>let A68:=(t.2.1.g i);[I A68.id,I A68.colour,I A68.w,I A68.h,I A68.grain]] A16);let
 A29:=(SV.ref [SV.sl A59 t.1.n fun(i:Nat)=>let A80:=(t.1.g i);[I A80.id,I A80.colour,I A80.grain,SV.sl A12 A80.ol.n fun(i1:Nat)=>[I (A80.ol.g i1).x,I (A80.ol.g i1).y]]] A16);let A19:=(Dw t.1 t.2.1 t.snd.2.1 t.snd.snd.2.1 t.snd.snd.snd.snd.2.1 t.snd.snd.snd.snd.snd.2.1 t.snd.snd.snd.snd.snd.2.2);let A98:=(Am A19.bt);let A9:=(w.n=t.1.n/\∀(i :
 Nat),let A81:=(t.1.g i);i<w.n -> [I (w.g i).id,I (w.g i).colour,I (w.g i).grain,SV.sl A12 (w.g i).ol.n fun(i1:Nat)=>[I ((w.g i).ol.g i1).x,I ((w.g i).ol.g i1).y]]= [I A81.id,I A81.colour,I A81.grain,SV.sl A12 A81.ol.n fun(i1:Nat)=>[I (A81.ol.g i1).x,I (A81.ol.g i1).y]]);let A7:=(t.1.n=w.n/\∀(i:Nat),let A82:=(t.1.g i);i<t.1.n -> [I A82.id,I
 A82.colour,I A82.grain,SV.sl A12 A82.ol.n fun(i1:Nat)=>[I (A82.ol.g i1).x,I (A82.ol.g i1).y]]= [I (w.g i).id,I (w.g i).colour,I (w.g i).grain,SV.sl A12 (w.g i).ol.n fun(i1:Nat)=>[I ((w.g i).ol.g i1).x,I ((w.g i).ol.g i1).y]]);A31+A57=(↑t.snd.2.1:Int)/\i+nat_lit 1=t.snd.2.1/\sum+CU s G g_1=t.snd.snd.snd.snd.2.1/\nat_lit 0=A13/\nat_lit 0=A13 /\
 SV.ref A3 A16=SV.ref [SV.sl A90 t.1.n fun(i:Nat)=>let A83:=(t.1.g i);[I A83.id,I A83.colour,I A83.grain,SV.sl A12 A83.ol.n fun(i1:Nat)=>[I (A83.ol.g i1).x,I (A83.ol.g i1).y]]] A13/\nat_lit 0=A13/\SV.ref A4 A16=SV.ref [SV.sl (5:Nat) t.2.1.n fun(i:Nat)=>let A69:=(t.2.1.g i);[I A69.id,I A69.colour,I A69.w,I A69.h,I
 A69.grain]] A13/\nat_lit 0=A13/\nat_lit 0=A13/\nat_lit 0=A13/\A10.fd=t.snd.snd.snd.snd.snd.2.2.fd/\A10.ls=t.snd.snd.snd.snd.snd.2.2.ls/\(A27.n=A64.n/\∀(i_1:Nat),i_1<A27.n -> [I (A27.g i_1)]= [I (A64.g i_1)])/\EV.cl A40 A1=EV.cl A88 [EV.loc A91 A16,EV.loc A92 A16,EV.p A29,EV.loc A93 A16,EV.p A33,EV.loc A94 A16,
 EV.loc A95 A16,EV.loc A96 A16]/\s.n=t.2.1.n/\Ae A13 s.n=Ae A13 t.2.1.n/\A9/\A38.grain=A84.grain/\Ae A13 s.n=Ae A13 t.2.1.n/\(∀(x:Int),Aj A45 x=Aj A103 x)/\Ae A15 s.n=Ae A15 t.2.1.n/\A9/\A37.grain=A85.grain/\Ae A15 s.n=Ae A15 t.2.1.n/\(∀(x:Int),Aj A44 x=Aj A104 x)/\Ae A12 s.n=Ae A12 t.2.1.n
 /\ A9/\A39.grain=A86.grain/\Ae A12 s.n=Ae A12 t.2.1.n/\(∀(x:Int),Aj A46 x=Aj A105 x)/\Ae A17 s.n=Ae A17 t.2.1.n/\A9/\A36.grain=A87.grain/\Ae A17 s.n=Ae A17 t.2.1.n/\(∀(x:Int),Aj A43 x=Aj A106 x)/\(s.n=t.2.1.n/\∀(i_1:Nat),i_1<s.n->setRow (fun(k:Nat)=>[I (G k)]) (T A11) A16 A79 i_1 = [I
 (t.snd.snd.snd.snd.snd.2.1 i_1)])/\(w.n=t.1.n/\∀(i_1:Nat),i_1<w.n->(if i<=i_1/\i_1<i+nat_lit 1 then [I A11]else [I (BJ A g.2 i_1)])= [I (BJ t.snd.snd.2.1 t.snd.snd.snd.2.1 i_1)])/\((Bv t.1/\t.2.1.n<=A90/\(∀(k:Nat),k<t.2.1.n->Bo (t.2.1.g k)=true)/\t.snd.2.1<=t.1.n/\IQ t.snd.snd.2.1=t.snd.2.1/\H4 t.2.1.n t.snd.2.1
 t.snd.snd.snd.snd.snd.2.1/\A34<=t.snd.snd.snd.snd.2.1/\t.snd.snd.snd.snd.2.1<=(↑t.snd.2.1:Int)*(16777216:Int))/\t.1.n-t.snd.2.1<rn)/\∀(u:Nat->Int),True->A65/\T A11<t.2.1.n/\A34<=A31/\Ad .i64 A25/\A65/\T A11<t.2.1.n/\Ad .i64 (A11+A57)/\∃(g':Nat×(Nat->Int)),let A50:=(Dr w s i A sum G st g'.1);A11+A57=(↑g'.1 :
 Int)/\A30=A30/\A31=A31/\i=i/\sum=sum/\nat_lit 0=nat_lit 0/\nat_lit 0=nat_lit 0/\SV.ref A3 A16=SV.ref A3 A16/\nat_lit 0=nat_lit 0/\SV.ref A4 A16=SV.ref A4 A16/\nat_lit 0=nat_lit 0/\nat_lit 0=nat_lit 0/\nat_lit 0=nat_lit 0/\A19.fd=A50.fd/\A19.ls=A50.ls/\(A98.n=(Am A50.bt).n/\∀(i_1:Nat),i_1<A98.n -> [I (A98.g i_1)]= [I
 ((Am A50.bt).g i_1)])/\(t.1.n=w.n/\∀(i:Nat),i<t.1.n -> [I (BJ t.snd.snd.2.1 u i)]= [I (BJ A g'.2 i)])/\EV.cl A40 [EV.loc (1000:Nat) A16,EV.loc (1001:Nat) A16,EV.p A29,EV.loc (1002:Nat) A16,EV.p A33,EV.loc (1003:Nat) A16,EV.loc (1004:Nat) A16,EV.loc (1005:Nat) A16]=EV.cl A40 A1/\t.2.1.n=s.n /\
 Ae A13 t.2.1.n=Ae A13 s.n/\A7/\A84.grain=A38.grain/\Ae A13 t.2.1.n=Ae A13 s.n/\(∀(x:Int),Aj A103 x=Aj A45 x)/\Ae A15 t.2.1.n=Ae A15 s.n/\A7/\A85.grain=A37.grain/\Ae A15 t.2.1.n=Ae A15 s.n/\(∀(x:Int),Aj A104 x=Aj A44 x)/\Ae A12 t.2.1.n=Ae A12 s.n/\A7/\A86.grain=A39.grain/\Ae A12 t.2.1.n=Ae A12
 s.n/\(∀(x:Int),Aj A105 x=Aj A46 x)/\Ae A17 t.2.1.n=Ae A17 s.n/\A7/\A87.grain=A36.grain/\Ae A17 t.2.1.n=Ae A17 s.n/\(∀(x:Int),Aj A106 x=Aj A43 x)/\(t.2.1.n=s.n/\∀(i_1:Nat),i_1<t.2.1.n->setRow (fun(k:Nat)=>[I (t.snd.snd.snd.snd.snd.2.1 k)]) (T A11) A16 [I (Di (t.snd.snd.snd.snd.snd.2.1 (T A11)) A25)] i_1 = [I
 (G i_1)])/\g'.1<=s.n/\s.n-g'.1<s.n-g.1))/\(decide (A11<A30)=false->∃(u:Nat->Int),A10.fd=A26.fd/\A10.ls=A26.ls/\(A27.n=A56.n/\∀(i_1:Nat),i_1<A27.n -> [I (A27.g i_1)]= [I (A56.g i_1)])/\EV.cl A40 A1=EV.cl A88 A1/\s.n=s.n/\Ae A13 s.n=Ae A13 s.n/\A2/\A38.grain=A38.grain/\Ae A13 s.n=Ae A13 s.n/\A20/\Ae
 A15 s.n=Ae A15 s.n/\A2/\A37.grain=A37.grain/\Ae A15 s.n=Ae A15 s.n/\A21/\Ae A12 s.n=Ae A12 s.n/\A2/\A39.grain=A39.grain/\Ae A12 s.n=Ae A12 s.n/\A22/\Ae A17 s.n=Ae A17 s.n/\A2/\A36.grain=A36.grain/\Ae A17 s.n=Ae A17 s.n/\A23/\A24/\(w.n=w.n/\∀(i:Nat),i<w.n -> [I (BJ A g.2 i)]= [I (BJ A u i)])/\True)))) (by kernel_rfl) (by
  conv=>zeta
  have hp:Bv w/\s.n<=4/\(∀k,k<s.n->Bo (s.g k)=true)/\i<=w.n/\IQ A=i/\H4 s.n i G/\0<=sum/\sum<=(i:Int)*16777216:=hp;have hmu:w.n-i<rn+1:=hmu;obtain⟨hok,hs4,hsv,hi,hA,hG,hs0,hs1⟩:=hp;have hA2:A.length=i:=hA;have hw4:=hok.1;have ei:((i:Int)).toNat=i:=Aea i;have atA:∀(X:Nat->Int) j,j<i->BJ A X j=A.getD j 0:=fun X j hj=>by unfold BJ;rw[if_pos (by omega)]
  refine⟨fun h1=>?_,fun h1=>⟨fun h2=>?_,fun h2=>?_⟩⟩
  ·rw[GY]at h1;rw[AaS w s A G hi h1];exact⟨X,(by(try dsimp only);(repeat' with_reducible apply And.intro)<;>first|with_reducible rfl|with_reducible exact fun _=>rfl|with_reducible exact fun _ _=>rfl|with_reducible exact trivial|exact rfl|(intro _;exact rfl)|(intro _ _;exact rfl)|exact trivial|(intro _ h_;exact absurd h_ (nT _)))⟩
  ·rw[GY]at h1;have h2:(i:Int)=(w.n:Int):=of_decide_eq_true h2;obtain rfl:i=w.n:=by omega
   rw[AaT w s A G h1];have c1:w.n<=1000000:=by omega
   exact⟨AdS _,⟨fun _ _=>rfl,c1⟩,fun _ _=>⟨fun _ _=>rfl,X,(by(try dsimp only);(repeat' with_reducible apply And.intro)<;>first|with_reducible rfl|with_reducible exact hA.symm|with_reducible exact fun _=>rfl|with_reducible exact fun _ _=>rfl|with_reducible exact trivial|(intro j hj;exact congrArg (fun x=>[SV.int .i64 x]) (atA X j hj))|exact rfl|(intro _;exact rfl)|(intro _ _;exact rfl)|exact hA.symm|exact trivial|(intro _ h_;exact absurd h_ (nT _)))⟩⟩
  ·rw[GY]at h1;have h2:¬ (i:Int)=(w.n:Int):=of_decide_eq_false h2;have hlt:i<w.n:=by omega
   have hi4:i<4:=by omega
   rw[AaU w s A G hlt h1];refine⟨⟨(0,X),(by(try dsimp only);(repeat' with_reducible apply And.intro)<;>first|with_reducible rfl|with_reducible exact AdL _|with_reducible exact congrArg BI.fd (JU w s i A sum G st).symm|with_reducible exact congrArg BI.ls (JU w s i A sum G st).symm|with_reducible exact fun _=>rfl|with_reducible exact fun _ _=>rfl|with_reducible exact trivial|(intro j _;exact congrArg (fun x:BI=>[SV.int .i64 ((Am x.bt).g j)]) (JU w s i A sum G st).symm)|exact rfl|(intro _;exact rfl)|(intro _ _;exact rfl)|exact AdL _|exact congrArg BI.fd (JU w s i A sum G st).symm|exact congrArg BI.ls (JU w s i A sum G st).symm|exact congrArg (fun x:BI=>(Am x.bt).n) (JU w s i A sum G st).symm|exact trivial|(intro _ h_;exact absurd h_ (nT _)))⟩,fun g hg=>?_⟩;obtain⟨k,Y⟩:=g;dsimp only at hg ⊢;have ek:((k:Int)).toNat=k:=Aea k;rw[ei,ek];refine⟨fun hc=>?_,fun hc=>?_⟩
   ·have hc:(k:Int)<(s.n:Int):=of_decide_eq_true hc;have hk:k<s.n:=by omega
    obtain⟨g0,g1⟩:=hG k hk;obtain⟨wd1,wd2,wd3,wd4⟩:=Nj hi4 g0 g1;obtain⟨wa1,wa2⟩:=AaW hw4 hlt g0 g1;have c0:0<=(k:Int)/\(k:Int)<(s.n:Int):=⟨Aec _,hc⟩;have ci:0<=(i:Int):=Aec _;have ci2:0<=(i:Int)/\(i:Int)<(w.n:Int):=by omega
    have k1:Ad .i64 (Bi 1 (i:Int)):=jK;have k2:Ad .i64 ((k:Int)+1):=jK;have k3:Ad .i64 ((i:Int)+1):=jK;have kk:k+1<=s.n:=hk;have mm:s.n-(k+1)<s.n-k:=by omega
    have cn:(k:Int)+1=((k+1:Nat):Int):=by omega
    refine⟨c0,ci2,fun _=>c0,fun _=>hk,fun _=>c0,fun _=>hk,fun _=>ci,fun _=>k1,fun _=>c0,fun _=>c0,(w,(s.g k).grain,H3 (G k) i,⟨(s.g k).w,(s.g k).h⟩),fun _=>(by omega),?_,?_,?_,?_,fun _=>rfl,fun _=>rfl,fun _=>⟨hok,wa1,wa2⟩,fun h=>?_,fun h=>?_⟩
    ·intro _ e;subst e;exact⟨decide_eq_true hk,decide_eq_true hk,rfl,fun _=>rfl⟩
    ·intro _ e;subst e;exact⟨decide_eq_true hk,decide_eq_true hk,rfl,fun _=>rfl⟩
    ·intro _ e;subst e;exact⟨decide_eq_true hk,decide_eq_true hk,rfl,fun _=>rfl⟩
    ·intro _ e;subst e;exact⟨decide_eq_true hk,decide_eq_true hk,rfl,fun _=>rfl⟩
    ·have h:FI w s G i k=true:=h;have e2:Dr w s i A sum G st k=Dr w s i A sum G st (k+1):=by rw[ZA,h];rfl
     exact⟨k2,(k+1,Y),(by(try dsimp only);(repeat' with_reducible apply And.intro)<;>first|with_reducible rfl|with_reducible assumption|with_reducible exact congrArg BI.fd e2|with_reducible exact congrArg BI.ls e2|with_reducible exact fun _=>rfl|with_reducible exact fun _ _=>rfl|with_reducible exact trivial|(intro j _;exact congrArg (fun x:BI=>[SV.int .i64 ((Am x.bt).g j)]) e2)|exact rfl|(intro _;exact rfl)|(intro _ _;exact rfl)|exact cn|exact kk|exact mm|exact congrArg BI.fd e2|exact congrArg BI.ls e2|exact congrArg (fun x:BI=>(Am x.bt).n) e2|exact trivial|(intro _ h_;exact absurd h_ (nT _)))⟩
    ·have h:FI w s G i k=false:=h;have e3:Dw w s (i+1) (Br A k) (sum+CU s G k) (Dv G k i) (Dr w s i A sum G st k)=Dr w s i A sum G st (k+1):=by rw[ZA,h];rfl
     obtain⟨v1,v2,v3,v4⟩:=Qe (hsv k hk);have ar0:0<=(s.g k).w*(s.g k).h:=Int.mul_nonneg (by omega) (by omega);have ar1:(s.g k).w*(s.g k).h<=4096*4096:=Int.mul_le_mul (by omega) (by omega) (by omega) (by omega);have k4:Ad .i64 ((s.g k).w*(s.g k).h):=jK;have am:0<=CU s G k/\CU s G k<=16777216:=by
      unfold CU;cases decide (G k=0)<;>simp only[cond_true,cond_false]<;>omega
     refine⟨⟨c0,hk,fun hz=>?_,fun hz=>?_⟩,fun k2' hk2=>?_⟩
     ·have em:(s.g k).w*(s.g k).h=CU s G k:=by unfold CU;rw[hz];rfl
      exact⟨c0,c0,k4,k,(by(try dsimp only);(repeat' with_reducible apply And.intro)<;>first|with_reducible rfl|with_reducible assumption|with_reducible exact fun _=>rfl|with_reducible exact fun _ _=>rfl|with_reducible exact trivial|exact rfl|(intro _;exact rfl)|(intro _ _;exact rfl)|exact em|exact trivial|(intro _ h_;exact absurd h_ (nT _)))⟩
     ·have em:0=CU s G k:=by unfold CU;rw[hz];rfl
      exact⟨k,(by(try dsimp only);(repeat' with_reducible apply And.intro)<;>first|with_reducible rfl|with_reducible assumption|with_reducible exact fun _=>rfl|with_reducible exact fun _ _=>rfl|with_reducible exact trivial|exact rfl|(intro _;exact rfl)|(intro _ _;exact rfl)|exact em|exact trivial|(intro _ h_;exact absurd h_ (nT _)))⟩
     ·obtain rfl:k2'=k:=by have:=hk2.1;omega
      have k5:Ad .i64 (sum+CU s G k2'):=jK;have i1:i+1<=w.n:=hlt;have l1:IQ (Br A k2')=i+1:=by show(A ++ [(k2':Int)]).length=i+1;simp[hA2]
      have hG1:=AaX hi4 hG hk;have s0:0<=sum+CU s G k2':=by omega
      have s1:sum+CU s G k2'<=((i+1:Nat):Int)*16777216:=by push_cast;omega
      have m1:w.n-(i+1)<rn:=by omega
      have p0:0<1:=Nat.one_pos;have row1:∀j,j<s.n->setRow (fun k=>[SV.int .i64 (G k)]) k2' 0 [SV.int .i64 (FN (G k2') (Bi 1 (i:Int)))] j = [SV.int .i64 (Dv G k2' i j)]:=fun j _=>by
       unfold setRow Dv
       by_cases e:j=k2'
       ·rw[if_pos e,if_pos e];rfl
       ·rw[if_neg e,if_neg e]
      have row2:∀j,j<s.n->setRow (fun k=>[SV.int .i64 (Dv G k2' i k)]) k2' 0 [SV.int .i64 (Di (Dv G k2' i k2') (Bi 1 (i:Int)))] j = [SV.int .i64 (G j)]:=fun j _=>by
       unfold setRow
       by_cases e:j=k2'
       ·subst e;rw[if_pos rfl];have:Dv G j i j=G j+2 ^ i:=by unfold Dv;rw[if_pos rfl];exact wd1
        rw[this,wd2];rfl
       ·rw[if_neg e];have:Dv G k2' i j=G j:=by unfold Dv;rw[if_neg e]
        dsimp only;rw[this]
      have getS:∀j,j<i->(Br A k2').getD j 0=A.getD j 0:=fun j hj=>by
       unfold Br;rw[AS,AS,Aeh (by omega)]
      have len2:(Br A k2').length=i+1:=l1;have at1:∀j,j<w.n->(if i<=j/\j<i+1 then [SV.int .i64 (k2':Int)]else [SV.int .i64 (BJ A Y j)])= [SV.int .i64 (BJ (Br A k2') Y j)]:=fun j _=>by
       by_cases e:j<i
       ·rw[if_neg (by omega),atA Y j e];unfold BJ;rw[if_pos (by omega),getS j e]
       ·by_cases e2:j=i
        ·subst e2;rw[if_pos (by omega)];unfold BJ;rw[if_pos (by omega)];have:(Br A k2').getD j 0=(k2':Int):=by
          unfold Br;rw[AS,Aej (by omega),show j-A.length=0 by omega];rfl
         rw[this]
        ·rw[if_neg (by omega)];unfold BJ;rw[if_neg (by omega),if_neg (by omega)]
      have at2:∀(u:Nat->Int) j,j<w.n -> [SV.int .i64 (BJ (Br A k2') u j)]= [SV.int .i64 (BJ A (fun j=>BJ (Br A k2') u j) j)]:=fun u j _=>by
       by_cases e:j<i
       ·rw[atA _ j e];unfold BJ;rw[if_pos (by omega),getS j e]
       ·conv=>rhs;unfold BJ
        rw[if_neg (by omega)];unfold BJ;rfl
      repeat' with_reducible apply And.intro
      all_goals first|exact c0.1|exact c0.2|exact hk|exact ci|exact k1|exact k3|exact k5|exact p0|exact i1|exact⟨(w,s,i+1,Br A k2',Y,sum+CU s G k2',Dv G k2' i,Dr w s i A sum G st k2'),(by(try dsimp only);(repeat' with_reducible apply And.intro)<;>first|with_reducible rfl|with_reducible assumption|with_reducible exact fun _=>rfl|with_reducible exact fun _ _=>rfl|with_reducible exact trivial|(intro u _;exact⟨c0,hk,ci,k1,c0,hk,k2,(k2'+1,fun j=>BJ (Br A k2') u j),(by(try dsimp only);(repeat' with_reducible apply And.intro)<;>first|with_reducible rfl|with_reducible assumption|with_reducible exact at2 u|with_reducible exact congrArg BI.fd e3|with_reducible exact congrArg BI.ls e3|with_reducible exact fun _=>rfl|with_reducible exact fun _ _=>rfl|with_reducible exact trivial|(intro j _;exact congrArg (fun x:BI=>[SV.int .i64 ((Am x.bt).g j)]) e3)|exact rfl|(intro _;exact rfl)|(intro _ _;exact rfl)|exact cn|exact kk|exact mm|exact row2|exact at2 u|exact congrArg BI.fd e3|exact congrArg BI.ls e3|exact congrArg (fun x:BI=>(Am x.bt).n) e3|exact trivial|(intro _ h_;exact absurd h_ (nT _)))⟩)|exact rfl|(intro _;exact rfl)|(intro _ _;exact rfl)|exact hok|exact hs4|exact hsv|exact i1|exact l1|exact hG1|exact s0|exact s1|exact m1|exact row1|exact at1|exact trivial|(intro _ h_;exact absurd h_ (nT _)))⟩
   ·have hc:¬ (k:Int)<(s.n:Int):=of_decide_eq_false hc;obtain rfl:k=s.n:=by omega
    exact⟨Y,(by(try dsimp only);(repeat' with_reducible apply And.intro)<;>first|with_reducible rfl|with_reducible exact fun _=>rfl|with_reducible exact fun _ _=>rfl|with_reducible exact trivial|exact rfl|(intro _;exact rfl)|(intro _ _;exact rfl)|exact trivial|(intro _ h_;exact absurd h_ (nT _)))⟩)
theorem ZK:As Tryz.prog 91:=fun args w=>by kernel_rfl
theorem Abf:De Tryz.prog 91 Ih:=KS ZJ ⟨fun t=>rfl,fun t u=>rfl,fun t u=>rfl,fun t u=>⟨rfl,rfl,rfl⟩,.inl rfl,fun k h=>(by cases h)⟩ (fun rn ih=>FB (n:=11) Tryz.func91 (c:=Ai Tryz.f91) (by kernel_rfl) mixed ⟨fun t=>rfl,fun t=>rfl,fun t u=>rfl,fun t u=>rfl,fun t u=>rfl,fun t u=>⟨rfl,rfl⟩,by kernel_rfl,by kernel_rfl⟩ (fun⟨w,s,i,A,X,sum,G,st⟩ hp=>⟨_,Abe rn w s i A X sum G st hp.1 hp.2,⟨show Aa Tryz.prog _ from(Aa.cons Aba Abb Aa.nil),rfl,⟨show Af Tryz.prog _ from Af.nil,⟨AA.no1 (fun _=>rfl),⟨show Bj Tryz.prog _ from(Bj.cons ih ZK Bj.nil),show HW Tryz.prog _ from(HW.cons Abc Abd HW.nil)⟩⟩⟩⟩⟩))
end
def JV:BI:=⟨false,0,[]⟩
theorem Ii (j g:Nat):(Ae j g||decide (g=j))=Ae j (g+1):=by
 unfold Ae
 by_cases h1:j<g
 ·rw[decide_eq_true h1,decide_eq_true (show j<g+1 by omega)];rfl
 ·by_cases h2:g=j
  ·rw[decide_eq_true h2,decide_eq_true (show j<g+1 by omega),Bool.or_true]
  ·rw[decide_eq_false h1,decide_eq_false h2,decide_eq_false (show ¬ j<g+1 by omega)];rfl
theorem ZL (j:Nat):Ae j j=false:=decide_eq_false (Nat.lt_irrefl j)
theorem ZM (j:Nat):false=Ae j 0:=(decide_eq_false (nT j)).symm
def B5 (w:L.Sq Ab) (s:L.Sq Ah):BI:=Dw w s 0 [] 0 (fun _=>0) JV
section
attribute [local irreducible] Dr Dw DN CH Ak AU AM Ao Di FN Bi Ae
abbrev IR:Mk:={ T:=(L.Sq Ab)×(L.Sq Ah),U:=Nat,args:=fun t=>(fun w s=>[.p ((.sl 4 w.n (fun i=>[.int .i64 ((w.g i).id),.int .i64 ((w.g i).colour),.int .i64 ((w.g i).grain),.sl 2 (w.g i).ol.n (fun i1=>[.int .i64 (((w.g i).ol.g i1).x),.int .i64 (((w.g i).ol.g i1).y)])]))),.p ((.sl 5 s.n (fun i=>[.int .i64 ((s.g i).id),.int .i64 ((s.g i).colour),.int .i64 ((s.g i).w),.int .i64 ((s.g i).h),.int .i64 ((s.g i).grain)])))]) t.1 t.2,lkeys:=[],keys:=[],lent:=fun t=>(fun w s=>[]) t.1 t.2,pre:=fun t=>(fun w s=>Bv w/\s.n<=4/\(∀k,k<s.n->Bo (s.g k)=true)) t.1 t.2,post:=fun t u=>(fun w s=>fun uu=>True) t.1 t.2 u,lent':=fun t u=>(fun w s=>fun uu=>[]) t.1 t.2 u,own:=fun t u=>(fun w s=>fun uu=>[]) t.1 t.2 u,res:=fun t u=>(fun w s=>fun uu=>.p (.tup [.sl 1 (Am (B5 w s).bt).n (fun i=>[.int .i64 ((Am (B5 w s).bt).g i)]),.int .i64 (B5 w s).ls,.bool (B5 w s).fd])) t.1 t.2 u }
theorem Abg (w:L.Sq Ab) (s:L.Sq Ah) (hp:IR.pre (w,s)):vc Tryz.prog ({ muts:=[7,8,9,10,12,13,16,35,40],frz:=B8 [],specs:=AC [],loops:=AT [(5,{ T:=Nat,keep:=[2,3,7,8,9,10,18],keepO:=[7,8,9,10,16],chg:=fun k=>[(19,.p (.int .i64 (k:Int)))],own:=fun k=>[(17,.oblk (Ae 0 (k)) 130 [.p ((.sl 4 w.n (fun i=>[.int .i64 ((w.g i).id),.int .i64 ((w.g i).colour),.int .i64 ((w.g i).grain),.sl 2 (w.g i).ol.n (fun i1=>[.int .i64 (((w.g i).ol.g i1).x),.int .i64 (((w.g i).ol.g i1).y)])]))),.p (.int .i64 (s.g 0).grain),.mapv 18]),(18,.omq (Ae 0 (k)) 3 27 (Aj (Ak w (s.g 0).grain))),(20,.oblk (Ae 1 (k)) 130 [.p ((.sl 4 w.n (fun i=>[.int .i64 ((w.g i).id),.int .i64 ((w.g i).colour),.int .i64 ((w.g i).grain),.sl 2 (w.g i).ol.n (fun i1=>[.int .i64 (((w.g i).ol.g i1).x),.int .i64 (((w.g i).ol.g i1).y)])]))),.p (.int .i64 (s.g 1).grain),.mapv 21]),(21,.omq (Ae 1 (k)) 3 27 (Aj (Ak w (s.g 1).grain))),(23,.oblk (Ae 2 (k)) 130 [.p ((.sl 4 w.n (fun i=>[.int .i64 ((w.g i).id),.int .i64 ((w.g i).colour),.int .i64 ((w.g i).grain),.sl 2 (w.g i).ol.n (fun i1=>[.int .i64 (((w.g i).ol.g i1).x),.int .i64 (((w.g i).ol.g i1).y)])]))),.p (.int .i64 (s.g 2).grain),.mapv 24]),(24,.omq (Ae 2 (k)) 3 27 (Aj (Ak w (s.g 2).grain))),(25,.oblk (Ae 3 (k)) 130 [.p ((.sl 4 w.n (fun i=>[.int .i64 ((w.g i).id),.int .i64 ((w.g i).colour),.int .i64 ((w.g i).grain),.sl 2 (w.g i).ol.n (fun i1=>[.int .i64 (((w.g i).ol.g i1).x),.int .i64 (((w.g i).ol.g i1).y)])]))),.p (.int .i64 (s.g 3).grain),.mapv 26]),(26,.omq (Ae 3 (k)) 3 27 (Aj (Ak w (s.g 3).grain)))],inv:=fun k=>k<=s.n,mu:=fun k=>s.n-k })],iters:=B3 [],rfs:=AP [],nils:=B6 [],mks:=DF [(34,Hy),(91,Ih)],ren:=fun k=>if k=9 then 27 else if k=7 then 28 else if k=1000 then 9 else if k=1001 then 8 else if k=1002 then 7 else if k=1003 then 10 else if k=1004 then 12 else if k=1005 then 13 else if k=1010 then 16 else if k=1011 then 35 else if k=1012 then 40 else if k=1020 then 17 else if k=1021 then 18 else if k=1022 then 20 else if k=1023 then 21 else if k=1024 then 23 else if k=1025 then 24 else if k=1026 then 25 else if k=1027 then 26 else k,anys:=[1007,1012],pres:=[40],prows:=SH [(16,{ bs:=[17,18,20,21,23,24,25,26],t:=130,kt:=3,vt:=27,head:=fun j=>[(.sl 4 w.n (fun i=>[.int .i64 ((w.g i).id),.int .i64 ((w.g i).colour),.int .i64 ((w.g i).grain),.sl 2 (w.g i).ol.n (fun i1=>[.int .i64 (((w.g i).ol.g i1).x),.int .i64 (((w.g i).ol.g i1).y)])])),.int .i64 (s.g j).grain],val:=fun j=>Aj (Ak w (s.g j).grain) })] }) (Ai Tryz.f49) (Dy Tryz.f49 (IR.args (w,s)) (IR.lent (w,s))) (Fq Tryz.prog Tryz.f49 IR (w,s)):=
  @Eq.mpr _ (let I:=SV.int .i64;let T:=Aee;let A59:=(4:Nat);let A58:=(1:Int);let A57:=(140737488355328:Int);let A34:=(↑w.n:Int);let A31:=(B5 w s);let A39:=(Am A31.bt);let A23:=(0:Int);let A28:=(A23<=A23/\A23<=A34/\A34*(↑(nat_lit 8):Int)<=A57);let A16:=(3:Nat);let A32:=(s.g A16);let A20:=(Ak w A32.grain);let A37:=(∀
 (x:Int),Aj A20 x=Aj A20 x);let A15:=(↑s.n:Int);let A30:=(A23<=A15/\A15<=A15/\A15*(↑(nat_lit 8):Int)<=A57);let A13:=(nat_lit 0);let A12:=(2:Nat);let A33:=(s.g A12);let A19:=(Ak w A33.grain);let A36:=(∀(x:Int),Aj A19 x=Aj A19 x);let A9:=(1:Nat);let A22:=(Ak w (s.g A9).grain);let A35:=(∀(x:Int),Aj A22 x=Aj
 A22 x);let A8:=(0:Nat);let A54:=(s.g (A8+A9+A9+A9));let A18:=(Ak w (s.g A8).grain);let A29:=(∀(x:Int),Aj A18 x=Aj A18 x);let A7:=[SV.sl (nat_lit 5) s.n fun(i:Nat)=>[I (s.g i).id,I (s.g i).colour,I (s.g i).w,I (s.g i).h,I (s.g i).grain]];let A2:=[SV.sl (nat_lit 4) w.n fun(i:Nat)=>[I (w.g i).id,I (w.g i).colour,I (w.g i).grain,
 SV.sl A12 (w.g i).ol.n fun(i1:Nat)=>[I ((w.g i).ol.g i1).x,I ((w.g i).ol.g i1).y]]];let A17:=[EV.loc (nat_lit 9) A13,EV.loc (nat_lit 8) A13,EV.p (SV.ref A2 A13),EV.loc (nat_lit 7) A13,EV.p (SV.ref A7 A13),EV.loc (nat_lit 10) A13,EV.loc (nat_lit 12) A13,EV.loc (nat_lit 13) A13];let A1:=(w.n=w.n/\∀(i:Nat),let
 A26:=[I (w.g i).id,I (w.g i).colour,I (w.g i).grain,SV.sl A12 (w.g i).ol.n fun(i1:Nat)=>[I ((w.g i).ol.g i1).x,I ((w.g i).ol.g i1).y]];i<w.n->A26=A26);A30/\A12*T A15<=A8+A9+A9+A9+A9+A9+A9+A9+A9/\(∃(g:Nat),A23=(↑g:Int)/\false=Ae A8 g/\A1/\(s.g A8).grain=(s.g A8).grain/\false=Ae A8 g/\A29/\false=Ae A9 g/\A1
 /\ (s.g (A8+A9)).grain=(s.g A9).grain/\false=Ae A9 g/\(∀(x:Int),Aj (Ak w (s.g (A8+A9)).grain) x=Aj A22 x)/\false=Ae A12 g/\A1/\(s.g (A8+A9+A9)).grain=A33.grain/\false=Ae A12 g/\(∀(x:Int),Aj (Ak w (s.g (A8+A9+A9)).grain) x=Aj A19 x)/\false=Ae A16 g/\A1/\A54.grain=A32.grain/\false =
 Ae A16 g/\(∀(x:Int),Aj (Ak w A54.grain) x=Aj A20 x)/\g<=s.n)/\∀(g:Nat),let A14:=(↑g:Int);let A38:=(A23<=A14/\A14<(↑(T A15):Int));let A27:=(Ae A8 g||decide (T A14=A8));let A25:=(Ae A9 g||decide (T A14=A8+A9));let A24:=(Ae A12 g||decide (T A14=A8+A9+A9));let A21:=(Ae A16 g ||
 decide (T A14=A8+A9+A9+A9));g<=s.n->(decide (A14<A15)=true->(A23<=A14/\A14<A15)/\(∃(t:L.Sq Ab×Int×(Int->L.Sq Ac)),let A3:=(t.1.n=w.n/\∀(i:Nat),let A44:=(t.1.g i);i<t.1.n -> [I A44.id,I A44.colour,I A44.grain,SV.sl A12 A44.ol.n fun(i1:Nat)=>[I (A44.ol.g i1).x,I (A44.ol.g i1).y]]= [I (w.g i).id,I (w.g
 i).colour,I (w.g i).grain,SV.sl A12 (w.g i).ol.n fun(i1:Nat)=>[I ((w.g i).ol.g i1).x,I ((w.g i).ol.g i1).y]]);(w.n=t.1.n/\∀(i:Nat),let A45:=(t.1.g i);i<w.n -> [I (w.g i).id,I (w.g i).colour,I (w.g i).grain,SV.sl A12 (w.g i).ol.n fun(i1:Nat)=>[I ((w.g i).ol.g i1).x,I ((w.g i).ol.g i1).y]]= [I A45.id,I A45.colour,I A45.grain,SV.sl A12 A45.ol.n fun(i1
:Nat)=>[I (A45.ol.g i1).x,I (A45.ol.g i1).y]])/\(s.g (T A14)).grain=t.2.1/\True/\∀(u:Nat),True->A38/\T A14<T A15/\(T A14=A8->Ae A8 g=false/\Ae A8 g=false/\(∀(x:Int),false=true->Aj t.2.2 x=Aj A18 x)/\A3/\t.2.1=(s.g A8).grain)/\(T A14=A8+A9->Ae A9 g=false/\Ae A9 g=false/\(∀(x:Int),false
 = true->Aj t.2.2 x=Aj A22 x)/\A3/\t.2.1=(s.g A9).grain)/\(T A14=A8+A9+A9->Ae A12 g=false/\Ae A12 g=false/\(∀(x:Int),false=true->Aj t.2.2 x=Aj A19 x)/\A3/\t.2.1=A33.grain)/\(T A14=A8+A9+A9+A9->Ae A16 g=false/\Ae A16 g=false/\(∀(x:Int),false=true->Aj t.2.2 x =
 Aj A20 x)/\A3/\t.2.1=A32.grain)/\Ad .i64 (A14+A58)/\∃(g':Nat),A14+A58=(↑g':Int)/\A15=A15/\nat_lit 0=nat_lit 0/\nat_lit 0=nat_lit 0/\nat_lit 0=nat_lit 0/\nat_lit 0=nat_lit 0/\SV.ref A7 A13=SV.ref A7 A13/\SV.ref A2 A13=SV.ref A2 A13/\A27=Ae A8 g'/\A1/\(s.g A8).grain=(s.g A8).grain/\A27=Ae A8 g' /\
 A29/\A25=Ae A9 g'/\A1/\(s.g A9).grain=(s.g A9).grain/\A25=Ae A9 g'/\A35/\A24=Ae A12 g'/\A1/\A33.grain=A33.grain/\A24=Ae A12 g'/\A36/\A21=Ae A16 g'/\A1/\A32.grain=A32.grain/\A21=Ae A16 g'/\A37/\T A15=T A15/\false=false/\A23=A23/\Value.slice AdV A8 A8=Value.slice AdV A8 A8/\g'<=s.n/\s.n-g'<s.n
 - g)/\∃(t:L.Sq Ab×Int×(Int->L.Sq Ac)),let A4:=(t.1.n=w.n/\∀(i:Nat),let A46:=(t.1.g i);i<t.1.n -> [I A46.id,I A46.colour,I A46.grain,SV.sl A12 A46.ol.n fun(i1:Nat)=>[I (A46.ol.g i1).x,I (A46.ol.g i1).y]]= [I (w.g i).id,I (w.g i).colour,I (w.g i).grain,SV.sl A12 (w.g i).ol.n fun(i1:Nat)=>[I ((w.g i).ol.g i1).x,I ((w.g i).ol.g i1).y]]);(w.n
 = t.1.n/\∀(i:Nat),let A47:=(t.1.g i);i<w.n -> [I (w.g i).id,I (w.g i).colour,I (w.g i).grain,SV.sl A12 (w.g i).ol.n fun(i1:Nat)=>[I ((w.g i).ol.g i1).x,I ((w.g i).ol.g i1).y]]= [I A47.id,I A47.colour,I A47.grain,SV.sl A12 A47.ol.n fun(i1:Nat)=>[I (A47.ol.g i1).x,I (A47.ol.g i1).y]])/\(s.g (T A14)).grain=t.2.1/\True/\∀(u:Nat),True->A38/\T A14<T A15
 /\ (T A14=A8->Ae A8 g=false/\Ae A8 g=false/\(∀(x:Int),false=true->Aj t.2.2 x=Aj A18 x)/\A4/\t.2.1=(s.g A8).grain)/\(T A14=A8+A9->Ae A9 g=false/\Ae A9 g=false/\(∀(x:Int),false=true->Aj t.2.2 x=Aj A22 x)/\A4/\t.2.1=(s.g A9).grain)/\(T A14=A8+A9+A9->Ae A12 g=false /\
 Ae A12 g=false/\(∀(x:Int),false=true->Aj t.2.2 x=Aj A19 x)/\A4/\t.2.1=A33.grain)/\(T A14=A8+A9+A9+A9->Ae A16 g=false/\Ae A16 g=false/\(∀(x:Int),false=true->Aj t.2.2 x=Aj A20 x)/\A4/\t.2.1=A32.grain)/\Ad .i64 (A14+A58)/\∃(g':Nat),A14+A58=(↑g':Int)/\A15=A15 /\
 nat_lit 0=nat_lit 0/\nat_lit 0=nat_lit 0/\nat_lit 0=nat_lit 0/\nat_lit 0=nat_lit 0/\SV.ref A7 A13=SV.ref A7 A13/\SV.ref A2 A13=SV.ref A2 A13/\A27=Ae A8 g'/\A1/\(s.g A8).grain=(s.g A8).grain/\A27=Ae A8 g'/\A29/\A25=Ae A9 g'/\A1/\(s.g A9).grain=(s.g A9).grain/\A25=Ae A9 g'/\A35/\A24=Ae A12 g'/\A1/\A33.grain =
 A33.grain/\A24=Ae A12 g'/\A36/\A21=Ae A16 g'/\A1/\A32.grain=A32.grain/\A21=Ae A16 g'/\A37/\T A15=T A15/\false=false/\A23=A23/\Value.slice AdV A8 A8=Value.slice AdV A8 A8/\g'<=s.n/\s.n-g'<s.n-g)/\(decide (A14<A15)=false->A30/\(A28/\∃(t:L.Sq Ab×L.Sq Ah×Nat×List Int×(Nat->Int) ×
 Int×(Nat->Int)×BI),let A10:=(Dw t.1 t.2.1 t.snd.2.1 t.snd.snd.2.1 t.snd.snd.snd.snd.2.1 t.snd.snd.snd.snd.snd.2.1 t.snd.snd.snd.snd.snd.2.2);let A55:=(Am A10.bt);let A5:=(w.n=t.1.n/\∀(i:Nat),let A48:=(t.1.g i);i<w.n -> [I (w.g i).id,I (w.g i).colour,I (w.g i).grain,SV.sl A12 (w.g i).ol.n fun(i1:Nat)=>[I ((w.g i).ol.g i1).x,I ((w.g i).ol.g i1).y]] =
 [I A48.id,I A48.colour,I A48.grain,SV.sl A12 A48.ol.n fun(i1:Nat)=>[I (A48.ol.g i1).x,I (A48.ol.g i1).y]]);A23=(↑t.snd.2.1:Int)/\nat_lit 0=t.snd.2.1/\A23=t.snd.snd.snd.snd.2.1/\nat_lit 0=A8/\nat_lit 0=A8/\SV.ref A2 A13=SV.ref [SV.sl A59 t.1.n fun(i:Nat)=>let A49:=(t.1.g i);[I A49.id,I A49.colour,I A49.grain,SV.sl A12 A49.ol.n fun
 (i1:Nat)=>[I (A49.ol.g i1).x,I (A49.ol.g i1).y]]] A8/\nat_lit 0=A8/\SV.ref A7 A13=SV.ref [SV.sl (5:Nat) t.2.1.n fun(i:Nat)=>let A40:=(t.2.1.g i);[I A40.id,I A40.colour,I A40.w,I A40.h,I A40.grain]] A8/\nat_lit 0=A8/\nat_lit 0=A8/\nat_lit 0=A8/\false=t.snd.snd.snd.snd.snd.2.2.fd/\A23=t.snd.snd.snd.snd.snd.2.2.ls/\(Am
 t.snd.snd.snd.snd.snd.2.2.bt).n=A8/\EV.cl (nat_lit 91) A17=EV.cl (91:Nat) [EV.loc (9:Nat) A13,EV.loc (8:Nat) A13,EV.p (SV.ref [SV.sl (nat_lit 4) t.1.n fun(i:Nat)=>let A50:=(t.1.g i);[I A50.id,I A50.colour,I A50.grain,SV.sl A12 A50.ol.n fun(i1:Nat)=>[I (A50.ol.g i1).x,I (A50.ol.g i1).y]]] A13),EV.loc (7:Nat) A13,
 EV.p (SV.ref [SV.sl (nat_lit 5) t.2.1.n fun(i:Nat)=>let A41:=(t.2.1.g i);[I A41.id,I A41.colour,I A41.w,I A41.h,I A41.grain]] A13),EV.loc (10:Nat) A13,EV.loc (12:Nat) A13,EV.loc (13:Nat) A13]/\T A15=t.2.1.n/\Ae A8 g=Ae A8 t.2.1.n/\A5/\(s.g A8).grain=(t.2.1.g A8).grain/\Ae A8 g=Ae A8 t.2.1.n/\(∀(x:Int),Aj
 A18 x=Aj (Ak t.1 (t.2.1.g A8).grain) x)/\Ae A9 g=Ae A9 t.2.1.n/\A5/\(s.g A9).grain=(t.2.1.g A9).grain/\Ae A9 g=Ae A9 t.2.1.n/\(∀(x:Int),Aj A22 x=Aj (Ak t.1 (t.2.1.g A9).grain) x)/\Ae A12 g=Ae A12 t.2.1.n/\A5/\A33.grain=(t.2.1.g A12).grain/\Ae A12 g=Ae A12 t.2.1.n/\(∀(x:Int),Aj A19 x=Aj (Ak t.1
 (t.2.1.g A12).grain) x)/\Ae A16 g=Ae A16 t.2.1.n/\A5/\A32.grain=(t.2.1.g A16).grain/\Ae A16 g=Ae A16 t.2.1.n/\(∀(x:Int),Aj A20 x=Aj (Ak t.1 (t.2.1.g A16).grain) x)/\(T A15=t.2.1.n/\∀(i:Nat),i<T A15 -> [I A23]= [I (t.snd.snd.snd.snd.snd.2.1 i)])/\(T A34=t.1.n/\∀(i:Nat),i<T A34 -> [I A23]= [I (BJ t.snd.snd.2.1 t.snd.snd.snd.2.1 i)])
 /\ (Bv t.1/\t.2.1.n<=A59/\(∀(k:Nat),k<t.2.1.n->Bo (t.2.1.g k)=true)/\t.snd.2.1<=t.1.n/\IQ t.snd.snd.2.1=t.snd.2.1/\H4 t.2.1.n t.snd.2.1 t.snd.snd.snd.snd.snd.2.1/\A23<=t.snd.snd.snd.snd.2.1/\t.snd.snd.snd.snd.2.1<=(↑t.snd.2.1:Int)*(16777216:Int))/\∀(u:Nat->Int),True->∃(u:Nat),(A55.n=A39.n/\∀(i:Nat),i<A55.n -> [I (A55.g i)]= [I
 (A39.g i)])/\A10.ls=A31.ls/\A10.fd=A31.fd/\True)/\A28/\∃(t:L.Sq Ab×L.Sq Ah×Nat×List Int×(Nat->Int)×Int×(Nat->Int)×BI),let A11:=(Dw t.1 t.2.1 t.snd.2.1 t.snd.snd.2.1 t.snd.snd.snd.snd.2.1 t.snd.snd.snd.snd.snd.2.1 t.snd.snd.snd.snd.snd.2.2);let A56:=(Am A11.bt);let A6:=(w.n=t.1.n/\∀(i:Nat),let A51:=(t.1.g i);i<w.n -> [I (w.g i).id,I
 (w.g i).colour,I (w.g i).grain,SV.sl A12 (w.g i).ol.n fun(i1:Nat)=>[I ((w.g i).ol.g i1).x,I ((w.g i).ol.g i1).y]]= [I A51.id,I A51.colour,I A51.grain,SV.sl A12 A51.ol.n fun(i1:Nat)=>[I (A51.ol.g i1).x,I (A51.ol.g i1).y]]);A23=(↑t.snd.2.1:Int)/\nat_lit 0=t.snd.2.1/\A23=t.snd.snd.snd.snd.2.1/\nat_lit 0=A8/\nat_lit 0=A8/\SV.ref A2 A13=SV.ref
 [SV.sl A59 t.1.n fun(i:Nat)=>let A52:=(t.1.g i);[I A52.id,I A52.colour,I A52.grain,SV.sl A12 A52.ol.n fun(i1:Nat)=>[I (A52.ol.g i1).x,I (A52.ol.g i1).y]]] A8/\nat_lit 0=A8/\SV.ref A7 A13=SV.ref [SV.sl (5:Nat) t.2.1.n fun(i:Nat)=>let A42:=(t.2.1.g i);[I A42.id,I A42.colour,I A42.w,I A42.h,I A42.grain]] A8/\nat_lit 0=A8/\nat_lit 0 =
 A8/\nat_lit 0=A8/\false=t.snd.snd.snd.snd.snd.2.2.fd/\A23=t.snd.snd.snd.snd.snd.2.2.ls/\(Am t.snd.snd.snd.snd.snd.2.2.bt).n=A8/\EV.cl (nat_lit 91) A17=EV.cl (91:Nat) [EV.loc (9:Nat) A13,EV.loc (8:Nat) A13,EV.p (SV.ref [SV.sl (nat_lit 4) t.1.n fun(i:Nat)=>let A53:=(t.1.g i);[I A53.id,I A53.colour,I A53.grain,
 SV.sl A12 A53.ol.n fun(i1:Nat)=>[I (A53.ol.g i1).x,I (A53.ol.g i1).y]]] A13),EV.loc (7:Nat) A13,EV.p (SV.ref [SV.sl (nat_lit 5) t.2.1.n fun(i:Nat)=>let A43:=(t.2.1.g i);[I A43.id,I A43.colour,I A43.w,I A43.h,I A43.grain]] A13),EV.loc (10:Nat) A13,EV.loc (12:Nat) A13,EV.loc (13:Nat) A13]/\T A15=t.2.1.n/\Ae A8 g =
 Ae A8 t.2.1.n/\A6/\(s.g A8).grain=(t.2.1.g A8).grain/\Ae A8 g=Ae A8 t.2.1.n/\(∀(x:Int),Aj A18 x=Aj (Ak t.1 (t.2.1.g A8).grain) x)/\Ae A9 g=Ae A9 t.2.1.n/\A6/\(s.g A9).grain=(t.2.1.g A9).grain/\Ae A9 g=Ae A9 t.2.1.n/\(∀(x:Int),Aj A22 x=Aj (Ak t.1 (t.2.1.g A9).grain) x)/\Ae A12 g=Ae A12 t.2.1.n/\A6 /\
 A33.grain=(t.2.1.g A12).grain/\Ae A12 g=Ae A12 t.2.1.n/\(∀(x:Int),Aj A19 x=Aj (Ak t.1 (t.2.1.g A12).grain) x)/\Ae A16 g=Ae A16 t.2.1.n/\A6/\A32.grain=(t.2.1.g A16).grain/\Ae A16 g=Ae A16 t.2.1.n/\(∀(x:Int),Aj A20 x=Aj (Ak t.1 (t.2.1.g A16).grain) x)/\(T A15=t.2.1.n/\∀(i:Nat),i<T A15 -> [I A23]= [I
 (t.snd.snd.snd.snd.snd.2.1 i)])/\(T A34=t.1.n/\∀(i:Nat),i<T A34 -> [I A23]= [I (BJ t.snd.snd.2.1 t.snd.snd.snd.2.1 i)])/\(Bv t.1/\t.2.1.n<=A59/\(∀(k:Nat),k<t.2.1.n->Bo (t.2.1.g k)=true)/\t.snd.2.1<=t.1.n/\IQ t.snd.snd.2.1=t.snd.2.1/\H4 t.2.1.n t.snd.2.1 t.snd.snd.snd.snd.snd.2.1/\A23<=t.snd.snd.snd.snd.2.1/\t.snd.snd.snd.snd.2.1<=(↑t.snd.2.1
:Int)*(16777216:Int))/\∀(u:Nat->Int),True->∃(u:Nat),(A56.n=A39.n/\∀(i:Nat),i<A56.n -> [I (A56.g i)]= [I (A39.g i)])/\A11.ls=A31.ls/\A11.fd=A31.fd/\True)) (by kernel_rfl) (by
 conv=>zeta
 have hp:Bv w/\s.n<=4/\(∀k,k<s.n->Bo (s.g k)=true):=hp;obtain⟨hok,hs4,hsv⟩:=hp;have hw4:=hok.1;have b1:0<=(s.n:Int):=Aec _;have b2:(s.n:Int)*8<=140737488355328:=by omega
 have b3:0<=(w.n:Int):=Aec _;have b4:(w.n:Int)*8<=140737488355328:=by omega
 have b5:2*s.n<=0+1+1+1+1+1+1+1+1:=by omega
 rw[Aea s.n,Aea w.n];refine⟨⟨b1,Ael _,b2⟩,b5,⟨0,(by(try dsimp only);(repeat' with_reducible apply And.intro)<;>first|with_reducible rfl|with_reducible exact AdL _|with_reducible exact ZM _|with_reducible exact fun _=>rfl|with_reducible exact fun _ _=>rfl|with_reducible exact trivial|exact rfl|(intro _;exact rfl)|(intro _ _;exact rfl)|exact AdL _|exact ZM _|exact trivial|(intro _ h_;exact absurd h_ (nT _)))⟩,fun g hg=>?_⟩;rw[Aea g];refine⟨fun hc=>?_,fun hc=>?_⟩
 ·have hc:(g:Int)<(s.n:Int):=of_decide_eq_true hc;have hk:g<s.n:=by omega
  have c0:0<=(g:Int)/\(g:Int)<(s.n:Int):=⟨Aec _,hc⟩;have k2:Ad .i64 ((g:Int)+1):=jK;have kk:g+1<=s.n:=hk;have mm:s.n-(g+1)<s.n-g:=by omega
  have cn:(g:Int)+1=((g+1:Nat):Int):=by omega
  repeat' with_reducible apply And.intro
  all_goals first|exact c0.1|exact c0.2|exact⟨(w,(s.g g).grain,Ak w (s.g g).grain),(by(try dsimp only);(repeat' with_reducible apply And.intro)<;>first|with_reducible rfl|with_reducible exact fun _=>rfl|with_reducible exact fun _ _=>rfl|with_reducible exact trivial|(intro u _;exact(by(try dsimp only);(repeat' with_reducible apply And.intro)<;>first|with_reducible rfl|with_reducible assumption|with_reducible exact c0.1|with_reducible exact c0.2|with_reducible exact fun _=>rfl|with_reducible exact fun _ _=>rfl|with_reducible exact trivial|(intro e;exact by subst e;exact⟨ZL _,ZL _,fun _ h=>(by cases h),⟨rfl,fun _ _=>rfl⟩,rfl⟩)|exact⟨g+1,(by(try dsimp only);(repeat' with_reducible apply And.intro)<;>first|with_reducible rfl|with_reducible assumption|with_reducible exact Ii 0 g|with_reducible exact Ii 1 g|with_reducible exact Ii 2 g|with_reducible exact Ii 3 g|with_reducible exact fun _=>rfl|with_reducible exact fun _ _=>rfl|with_reducible exact trivial|exact rfl|(intro _;exact rfl)|(intro _ _;exact rfl)|exact cn|exact kk|exact mm|exact Ii 0 g|exact Ii 1 g|exact Ii 2 g|exact Ii 3 g|exact trivial|(intro _ h_;exact absurd h_ (nT _)))⟩|exact rfl|(intro _;exact rfl)|(intro _ _;exact rfl)|exact c0.1|exact c0.2|exact hk|exact k2|exact trivial|(intro _ h_;exact absurd h_ (nT _))))|exact rfl|(intro _;exact rfl)|(intro _ _;exact rfl)|exact trivial|(intro _ h_;exact absurd h_ (nT _)))⟩
 ·have hc:¬ (g:Int)<(s.n:Int):=of_decide_eq_false hc;obtain rfl:g=s.n:=by omega
  have z0:(0:Int)<=0:=Ael _;have og:H4 s.n 0 (fun _=>0):=fun k _=>⟨Ael _,(by show(0:Int)<2 ^ 0;decide)⟩;have at0:∀i,i<w.n -> [SV.int .i64 0]= [SV.int .i64 (BJ [] (fun _=>0) i)]:=fun i _=>by
   unfold BJ;rfl
  have s1:(0:Int)<=((0:Nat):Int)*16777216:=by decide
  repeat' with_reducible apply And.intro
  all_goals first|exact b1|exact b2|exact b3|exact b4|exact z0|exact Ael _|exact⟨(w,s,0,[],fun _=>0,0,fun _=>0,JV),(by(try dsimp only);(repeat' with_reducible apply And.intro)<;>first|with_reducible rfl|with_reducible assumption|with_reducible exact AdL _|with_reducible exact fun _=>rfl|with_reducible exact fun _ _=>rfl|with_reducible exact trivial|(intro u _;exact⟨(0:Nat),(by(try dsimp only);(repeat' with_reducible apply And.intro)<;>first|with_reducible rfl|with_reducible exact fun _=>rfl|with_reducible exact fun _ _=>rfl|with_reducible exact trivial|exact rfl|(intro _;exact rfl)|(intro _ _;exact rfl)|exact trivial|(intro _ h_;exact absurd h_ (nT _)))⟩)|exact rfl|(intro _;exact rfl)|(intro _ _;exact rfl)|exact hok|exact hs4|exact hsv|exact AdL _|exact og|exact z0|exact s1|exact at0|exact trivial|(intro _ h_;exact absurd h_ (nT _)))⟩)
theorem ZN:As Tryz.prog 49:=fun args w=>by kernel_rfl
theorem ZO:De Tryz.prog 49 IR:=FB (n:=2) Tryz.func49 (c:=Ai Tryz.f49) (by kernel_rfl) mixed ⟨fun t=>rfl,fun t=>rfl,fun t u=>rfl,fun t u=>rfl,fun t u=>rfl,fun t u=>⟨rfl,rfl⟩,by kernel_rfl,by kernel_rfl⟩ (fun⟨w,s⟩ hp=>⟨_,Abg w s hp,⟨show Aa Tryz.prog _ from Aa.nil,rfl,⟨show Af Tryz.prog _ from Af.nil,⟨AA.no1 (fun _=>rfl),⟨show Bj Tryz.prog _ from(Bj.cons MU MT (Bj.cons Abf ZK Bj.nil)),FamsOk.none (fun _=>rfl)⟩⟩⟩⟩⟩)
end
end Go.Proofs.YtijidjjfkahojaaGreat
