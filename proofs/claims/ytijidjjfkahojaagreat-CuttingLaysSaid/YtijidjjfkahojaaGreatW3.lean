/- A symbolic walk over the model, and what it shows of functions of the program: parts of the proof that the text of the row joins. -/
import Derived.Test.YtijidjjfkahojaaGreatW2
import Derived.Test.YtijidjjfkahojaaGreatE5
import Derived.KernelRfl
open List renaming getD_eq_getElem?_getD->AS,getElem?_eq_getElem->oE,mem_filter->Afh,mem_map->Afi,all_eq_true->Afj,mem_cons->Afk,mem_range->Afl,range->Afm,mem_singleton->Afr,getElem?_append_left->Af2,getElem_mem->Af3,getElem_of_mem->Af9,length_append->AfK,mem_flatMap->AfO,append_assoc->AfS,append_nil->Aga,pairwise_iff_getElem->Agt,length_filter_le->Agv,length_range->Agw,filter_append->Agx,flatMap_append->Ag2,any_eq_true->Ag5,range_succ->Ag8,take_add_one->AgN,take_length->AgX
open Nat renaming not_lt_zero->Rc,zero_le->Afg,le_refl->Afo,lt_succ_iff_lt_or_eq->Aft,le_trans->AfI
open Bool renaming and_eq_true->nT,not_eq_true'->AfA,or_eq_true->AfE
open Int renaming eq_ofNat_of_zero_le->Afw,toNat_natCast->Afy,toNat->Af1,le_refl->Af4,natCast_nonneg->Af7,toNat_of_nonneg->Ags
namespace Go.Proofs.YtijidjjfkahojaaGreat
open Go.SE Go.RowKit
set_option maxRecDepth 100000
set_option maxHeartbeats 4000000
set_option linter.unusedVariables false
attribute [local irreducible] vc
def Zk (l:List (Int×Int)):L.Sq L.Pt:=⟨l.length,fun i=>⟨(l.getD i (0,0)).1,(l.getD i (0,0)).2⟩⟩
def CA:Ab:=⟨1,1,0,Zk [(0,0),(8,0),(8,4),(4,3),(0,4)]⟩
def Dk:Ab:=⟨2,1,0,Zk [(0,0),(6,0),(6,2),(0,2)]⟩
def DL (a:Nat) (b:Int):Bool:=decide (b<(a:Int))
def Kr (a:Nat) (b:Int):Bool:=decide ((a:Int)<=b)
def Ks (a b:Nat):Bool:=bif bif bif bif DL a 4 then Kr a 7 else false then true else DL a 20 then true else bif DL b 4 then Kr b 7 else false then true else DL b 20
def Gf (w:L.Sq Ab) (s:L.Sq Aj):Bool:=bif Ks w.n s.n then false else CD w.n fun i=>!DL (w.g i).ol.n 60
def Zl :Prop:=True
def Zm :SV:=(.agg [.int .i64 CA.id,.int .i64 CA.colour,.int .i64 CA.grain,.sl 2 CA.ol.n (fun i=>[.int .i64 ((CA.ol.g i).x),.int .i64 ((CA.ol.g i).y)])])
def Zn:List EV->Option (Prop×SV)
 |[]=>some (Zl , Zm )
 |_=>none
abbrev Zo:SE.Spec:=(AK Zn)
def AaA:Ak:={ cC with muts:=[0] }
theorem AaB  (hp:Zl):vc Tryz.prog (AaA) (Ah Tryz.f30) (Ap Tryz.f30 []) (AJ Tryz.prog Tryz.f30 (Zm )):=
 @Eq.mpr _ (let I:=SV.int .i64;let A1:=(0:Int);(1:Int)=CA.id/\(1:Int)=CA.colour/\A1=CA.grain/\nat_lit 5=nat_lit 5/\∀(i:Nat),i<nat_lit 5->BX [I A1,I A1,I (8:Int),I A1,I (8:Int),I (4:Int),I (4:Int),I (3:Int),I A1,I (4:Int)] (nat_lit 2) i = [I (CA.ol.g i).x,I (CA.ol.g i).y]) (by kernel_rfl) (by
 conv=>zeta
 refine⟨rfl,rfl,rfl,rfl,fun i hi=>?_⟩
 match i,hi with
 |0,_=>rfl
 |1,_=>rfl
 |2,_=>rfl
 |3,_=>rfl
 |4,_=>rfl)
theorem AaC:Av Tryz.prog 30 Zo:=AM Tryz.func30 (c:=Ah Tryz.f30) (by kernel_rfl) mixed (fun args p r hs hp=>by
 unfold Zn at hs;split at hs
 ·cases hs;exact⟨_,_,AaB  hp,.nil,⟨show Aa Tryz.prog _ from Aa.nil,rfl,⟨show Ag Tryz.prog _ from Ag.nil,(Aw.none (fun _=>rfl))⟩⟩⟩
 ·cases hs)
theorem AaD:Ao Tryz.prog 30:=fun args w=>by kernel_rfl
def Zp :Prop:=True
def Zq :SV:=(.agg [.int .i64 Dk.id,.int .i64 Dk.colour,.int .i64 Dk.grain,.sl 2 Dk.ol.n (fun i=>[.int .i64 ((Dk.ol.g i).x),.int .i64 ((Dk.ol.g i).y)])])
def Zr:List EV->Option (Prop×SV)
 |[]=>some (Zp , Zq )
 |_=>none
abbrev Zs:SE.Spec:=(AK Zr)
def AaE:Ak:={ cC with muts:=[0] }
theorem AaF  (hp:Zp):vc Tryz.prog (AaE) (Ah Tryz.f31) (Ap Tryz.f31 []) (AJ Tryz.prog Tryz.f31 (Zq )):=
 @Eq.mpr _ (let I:=SV.int .i64;let A1:=(0:Int);(2:Int)=Dk.id/\(1:Int)=Dk.colour/\A1=Dk.grain/\nat_lit 4=nat_lit 4/\∀(i:Nat),i<nat_lit 4->BX [I A1,I A1,I (6:Int),I A1,I (6:Int),I (2:Int),I A1,I (2:Int)] (nat_lit 2) i = [I (Dk.ol.g i).x,I (Dk.ol.g i).y]) (by kernel_rfl) (by
 conv=>zeta
 refine⟨rfl,rfl,rfl,rfl,fun i hi=>?_⟩
 match i,hi with
 |0,_=>rfl
 |1,_=>rfl
 |2,_=>rfl
 |3,_=>rfl)
theorem AaG:Av Tryz.prog 31 Zs:=AM Tryz.func31 (c:=Ah Tryz.f31) (by kernel_rfl) mixed (fun args p r hs hp=>by
 unfold Zr at hs;split at hs
 ·cases hs;exact⟨_,_,AaF  hp,.nil,⟨show Aa Tryz.prog _ from Aa.nil,rfl,⟨show Ag Tryz.prog _ from Ag.nil,(Aw.none (fun _=>rfl))⟩⟩⟩
 ·cases hs)
theorem AaH:Ao Tryz.prog 31:=fun args w=>by kernel_rfl
def Zt (w:(L.Sq Ab)) (s:(L.Sq Aj)):Prop:=True
def Zu (w:(L.Sq Ab)) (s:(L.Sq Aj)):SV:=.bool (Gf w s)
def Zv:List EV->Option (Prop×SV)
 |[.p (.sl 4 w_n w_g),.p (.sl 5 s_n s_g)]=>some ((∀i,i<w_n->DD (w_g i))/\(∀i,i<s_n->s_g i = [.int .i64 ((CW (s_g i)).id),.int .i64 ((CW (s_g i)).colour),.int .i64 ((CW (s_g i)).w),.int .i64 ((CW (s_g i)).h),.int .i64 ((CW (s_g i)).grain)])/\Zt (⟨w_n,fun i=>B6 (w_g i)⟩:(L.Sq Ab)) (⟨s_n,fun i=>CW (s_g i)⟩:(L.Sq Aj)),Zu (⟨w_n,fun i=>B6 (w_g i)⟩:(L.Sq Ab)) (⟨s_n,fun i=>CW (s_g i)⟩:(L.Sq Aj)))
 |_=>none
abbrev Zw:SE.Spec:=(AK Zv)
def AaI:Ak:={ muts:=[],frz:=B2 [],specs:=AB [],loops:=fun _=>none,iters:=Bw [],rfs:=AT [],nils:=B3 [] }
theorem AaJ (w:(L.Sq Ab)) (s:(L.Sq Aj)) (hp:Zt w s):vc Tryz.prog ({ AaI with loops:=AV [(4,{ T:=Nat,keep:=[0],keepO:=[],chg:=fun i=>[(5,.p (.int .i64 (i:Int)))],own:=fun _=>[],inv:=fun i=>i<=w.n/\∀j,j<i->DL (w.g j).ol.n 60=false,mu:=fun i=>w.n-i })],rfs:=AT [] }) (Ah Tryz.f7) (Ap Tryz.f7 [.p (.sl 4 w.n (fun i=>[.int .i64 ((w.g i).id),.int .i64 ((w.g i).colour),.int .i64 ((w.g i).grain),.sl 2 (w.g i).ol.n (fun i1=>[.int .i64 (((w.g i).ol.g i1).x),.int .i64 (((w.g i).ol.g i1).y)])])),.p (.sl 5 s.n (fun i=>[.int .i64 ((s.g i).id),.int .i64 ((s.g i).colour),.int .i64 ((s.g i).w),.int .i64 ((s.g i).h),.int .i64 ((s.g i).grain)]))]) (AJ Tryz.prog Tryz.f7 (Zu w s)):=
 @Eq.mpr _ (let I:=SV.int .i64;let A7:=(↑s.n:Int);let A6:=(60:Int);let A4:=(↑w.n:Int);let A1:=(bif bif bif bif decide ((4:Int)<A4)then decide (A4<=(7:Int))else false then true else decide ((20:Int)<A4)then true else bif decide ((4:Int)<A7)then decide (A7<=(7:Int))else false then true else decide ((20:Int)<A7));(A1=true->false=Gf w s)/\(A1=false->(∃(g:Nat),(0:Int)=(↑g:Int)/\g<=w.n/\∀(j:Nat),j<g->DL (w.g j).ol.n A6=false)/\∀(g:Nat),let A3:=(↑g:Int);let A5:=(↑(w.g (Af1 A3)).ol.n:Int);(g<=w.n/\∀(j:Nat),j<g->DL (w.g j).ol.n A6=false)->(decide (A3<A4)=true->((0:Int)<=A3/\A3<A4)/\(decide (A6<A5)=true->false=Gf w s)/\(decide (A6<A5)=false->Ad .i64 (A3+(1:Int))/\∃(g':Nat),A3+(1:Int)=(↑g':Int)/\(w.n=w.n/\∀(i:Nat),let A2:=[I (w.g i).id,I (w.g i).colour,I (w.g i).grain,SV.sl (2:Nat) (w.g i).ol.n fun(i1:Nat)=>[I ((w.g i).ol.g i1).x,I ((w.g i).ol.g i1).y]];i<w.n->A2=A2)/\(g'<=w.n/\∀(j:Nat),j<g'->DL (w.g j).ol.n A6=false)/\w.n-g'<w.n-g))/\(decide (A3<A4)=false->true=Gf w s))) (by kernel_rfl) (by
 conv=>zeta
 refine⟨fun h=>?_,fun h=>?_⟩
 ·have h:Ks w.n s.n=true:=h;unfold Gf;rw[h];rfl
 have h:Ks w.n s.n=false:=h;have hn:w.n<=20:=by
  apply Decidable.byContradiction;intro hn;have e:DL w.n 20=true:=decide_eq_true (by omega);unfold Ks at h;rw[e]at h;revert h;cases(bif DL w.n 4 then Kr w.n 7 else false)<;>simp
 refine⟨⟨(0:Nat),rfl,Afg _,fun j hj=>absurd hj (Rc _)⟩,fun g hg=>⟨fun hc=>?_,fun hc=>?_⟩⟩
 ·have hc:(g:Int)<(w.n:Int):=of_decide_eq_true hc;have hlt:g<w.n:=by omega
  rw[Afy g];refine⟨⟨Af7 _,hc⟩,fun h3=>?_,fun h3=>?_⟩
  ·have h3:DL (w.g g).ol.n 60=true:=h3;unfold Gf;rw[h];exact(FF (i:=g) (f:=fun i=>!DL (w.g i).ol.n 60) hlt (by show(!_)=false;rw[h3];rfl)).symm
  ·have h3:DL (w.g g).ol.n 60=false:=h3;refine⟨jK,g+1,by omega,⟨rfl,fun _ _=>rfl⟩,⟨hlt,fun j hj=>?_⟩,by omega⟩;rcases Aft.1 hj with h'|rfl
   ·exact hg.2 j h'
   ·exact h3
 ·have hc:¬ (g:Int)<(w.n:Int):=of_decide_eq_false hc;unfold Gf;rw[h];exact(CQ.2 (fun i hi=>by show(!_)=true;rw[hg.2 i (by omega)];rfl)).symm)
theorem AaK:Av Tryz.prog 7 Zw:=AM Tryz.func7 (c:=Ah Tryz.f7) (by kernel_rfl) mixed (fun args p r hs hp=>by
 unfold Zv at hs;split at hs
 ·cases hs;exact⟨_,_,AaJ _ _ hp.2.2,(.p (EP hp.1) (.p (.sl hp.2.1) .nil)),⟨show Aa Tryz.prog _ from Aa.nil,rfl,⟨show Ag Tryz.prog _ from Ag.nil,(Aw.none (fun _=>rfl))⟩⟩⟩
 ·cases hs)
theorem AaL:Ao Tryz.prog 7:=fun args w=>by kernel_rfl
section
def CB (g:Int) (i:Nat):Bool:=decide (D6 (Fo g i) 1=1)
def BI (m:Int):List Nat:=(Afm 4).filter (CB m)
def Zx (b:Int):Nat->List Nat->Int
 |_,[]=>0
 |i,p::l=>(bif CB b i then 2 ^ p else 0)+Zx b (i+1) l
def Eo (m b:Int):Int:=Zx b 0 (BI m)
def Zy (m b:Nat):Bool:=let e:=Eo m b;decide (0<=e)&&decide (e<=15)&&(if b=0 then decide (e=0)else decide (1<=e)&&(Bs b == Bs e)&&(if Bs b=true then decide (AI e=(BI m).getD (AI b) 0)&&decide (AI b<(BI m).length)else
 decide (AD e=AD b)&&(Afm (AD b)).all fun k=>decide (Al e k=Eo m (Al b k))&&decide (AO e k=Eo m (AO b k))))
def AaM (m:Nat):Bool:=(Afm (2 ^ (BI m).length)).all (Zy m)
theorem AaN:((Afm 16).all AaM)=true:=by kernel_rfl
theorem Zz (m:Int):(BI m).length<=4:=AfI (Agv _ _) (by rw[Agw];exact Afo _)
theorem AaO {m b:Int} (h:0<=m) (h':m<=15) (hb:0<=b) (hb':b<2 ^ (BI m).length):(0<=Eo m b/\Eo m b<=15)/\(b=0->Eo m b=0)/\(1<=b->1<=Eo m b/\Bs b=Bs (Eo m b) /\
  (Bs b=true->AI (Eo m b)=(BI m).getD (AI b) 0/\AI b<(BI m).length) /\
  (Bs b=false->AD (Eo m b)=AD b/\∀k,k<AD b->Al (Eo m b) k=Eo m (Al b k)/\AO (Eo m b) k=Eo m (AO b k))):=by
 obtain⟨m,rfl⟩:=Afw h;obtain⟨b,rfl⟩:=Afw hb;have h1:=Afj.1 AaN m (Afl.2 (by omega));have h2:=Afj.1 h1 b (Afl.2 (by exact_mod_cast hb'));unfold Zy at h2;simp only[nT,decide_eq_true_eq]at h2;obtain⟨⟨h3,h4⟩,h5⟩:=h2;refine⟨⟨h3,h4⟩,fun e=>?_,fun e=>?_⟩
 ·rw[if_pos (by omega)]at h5;exact of_decide_eq_true h5
 ·rw[if_neg (by omega)]at h5;simp only[nT,decide_eq_true_eq,beq_iff_eq]at h5;obtain⟨⟨h6,h7⟩,h8⟩:=h5;refine⟨h6,h7,fun e1=>?_,fun e1=>?_⟩
  ·rw[if_pos e1]at h8;simpa using h8
  ·rw[if_neg (by rw[e1];decide)]at h8;simp only[nT,decide_eq_true_eq,Afj]at h8;exact⟨h8.1,fun k hk=>h8.2 k (Afl.2 hk)⟩
attribute [local irreducible] AW Eo Al AO AD Bs AI
theorem AaP {w w':L.Sq Ab} {gr:Int} {i j:Nat} (h:w'.g i=w.g j):GQ w' gr i=GQ w gr j:=by unfold GQ;rw[h]
theorem Z0 {T T':Int->List Ac} {g g':Int}:∀{n},(∀k,k<n->T' (Al g' k)=T (Al g k)/\T' (AO g' k)=T (AO g k))->E3 T' g' n=E3 T g n
 |0,_=>rfl
 |n+1,h=>by
   rw[E3,E3,Z0 (fun k hk=>h k (by omega)),(h n (by omega)).1,(h n (by omega)).2]
theorem Z1 {w w':L.Sq Ab} {gr m:Int} (h:0<=m) (h':m<=15) (hw:∀i,i<(BI m).length->w'.g i=w.g ((BI m).getD i 0)):∀b:Nat,(b:Int)<2 ^ (BI m).length->AW w' gr b=AW w gr (Eo m b):=fun b=>by
 induction b using Nat.strongRecOn with
 |_ b ih =>
   intro hb;have h4:=Zz m;have hp:(2:Int) ^ (BI m).length<=2 ^ 4:=by
    exact_mod_cast Nat.pow_le_pow_right (show 0<2 by decide) h4
   have hb15:(b:Int)<=15:=by omega
   obtain⟨⟨e1,e2⟩,e3,e4⟩:=AaO h h' (show 0<=(b:Int)by omega) hb
   by_cases h0:b=0
   ·subst h0;rw[e3 rfl,show((0:Nat):Int)=0 from rfl,Kn,Kn]
   ·obtain⟨f1,f2,f3,f4⟩:=e4 (by omega);cases h1:Bs b with
    |true =>
      obtain⟨g1,g2⟩:=f3 h1;rw[Ko w' gr (by omega) hb15 h1,Ko w gr f1 e2 (by rw[<- f2];exact h1),g1,AaP (hw _ g2)]
    |false =>
      obtain⟨g1,g2⟩:=f4 h1;rw[Ji w' gr (by omega) hb15 h1,Ji w gr f1 e2 (by rw[<- f2];exact h1),g1];congr 1;obtain⟨_,hpt⟩:=FK (show 1<=(b:Int)by omega) hb15 h1;refine Z0 fun k hk=>?_;obtain⟨p1,p2,p3,p4,_⟩:=hpt k hk;obtain⟨q1,q2⟩:=g2 k hk;rw[q1,q2];obtain⟨x,hx⟩:=Afw (Int.le_of_lt p1);obtain⟨y,hy⟩:=Afw (Int.le_of_lt p3);rw[hx,hy];exact⟨ih x (by omega) (by omega),ih y (by omega) (by omega)⟩
def Jn (p q:Ac->Prop) (s:Ac):Prop:=(∃x y,x+y<=s.w/\p ⟨x,s.h⟩/\q ⟨y,s.h⟩)\/(∃x y,x+y<=s.h/\p ⟨s.w,x⟩/\q ⟨s.w,y⟩)
theorem Jn.symm {p q:Ac->Prop} {s:Ac} (h:Jn p q s):Jn q p s:=by
 rcases h with ⟨x,y,h,h1,h2⟩|⟨x,y,h,h1,h2⟩
 ·exact .inl ⟨y,x,by omega,h2,h1⟩
 ·exact .inr ⟨y,x,by omega,h2,h1⟩
theorem Qv {A B:List Ac} {s:Ac}:Cu.cov (Fg A B) s↔Jn (Cu.cov A) (Cu.cov B) s:=by
 constructor
 ·rintro⟨x,hx,h1,h2⟩;unfold Fg at hx;obtain⟨a,ha,hx⟩:=AfO.1 hx;obtain⟨b,hb,hx⟩:=AfO.1 hx;unfold FJ at hx;rcases Afk.1 hx with rfl|hx
  ·simp only at h1 h2;exact .inl ⟨a.w,b.w,h1,⟨a,ha,Af4 _,by simp only;omega⟩,⟨b,hb,Af4 _,by simp only;omega⟩⟩
  ·rcases Afk.1 hx with rfl|hx
   ·simp only at h1 h2;exact .inr ⟨a.h,b.h,h2,⟨a,ha,by simp only;omega,Af4 _⟩,⟨b,hb,by simp only;omega,Af4 _⟩⟩
   ·cases hx
 ·rintro(⟨x,y,h,⟨a,ha,a1,a2⟩,⟨b,hb,b1,b2⟩⟩|⟨x,y,h,⟨a,ha,a1,a2⟩,⟨b,hb,b1,b2⟩⟩)
  ·simp only at a1 a2 b1 b2;refine⟨⟨a.w+b.w,max a.h b.h⟩,AfO.2 ⟨a,ha,AfO.2 ⟨b,hb,by simp[FJ]⟩⟩,?_,?_⟩<;>simp only<;>omega
  ·simp only at a1 a2 b1 b2;refine⟨⟨max a.w b.w,a.h+b.h⟩,AfO.2 ⟨a,ha,AfO.2 ⟨b,hb,by simp[FJ]⟩⟩,?_,?_⟩<;>simp only<;>omega
theorem Qw {T:Int->List Ac} {g:Int} {s:Ac}:∀{n},Cu.cov (E3 T g n) s↔∃k,k<n/\Jn (Cu.cov (T (Al g k))) (Cu.cov (T (AO g k))) s
 |0=>⟨fun⟨x,hx,_⟩=>(by cases hx),fun⟨k,hk,_⟩=>(by omega)⟩
 |n+1=>by
   rw[E3,Cu.cov_append,Qw,Qv];constructor
   ·rintro(⟨k,hk,h⟩|h)
    ·exact⟨k,by omega,h⟩
    ·exact⟨n,by omega,h⟩
   ·rintro⟨k,hk,h⟩
    by_cases e:k=n
    ·exact .inr (e ▸ h)
    ·exact .inl ⟨k,by omega,h⟩
def Da (w:L.Sq Ab) (gr g:Int) (s:Ac):Prop:=Cu.cov (AW w gr g) s
theorem Kt {w:L.Sq Ab} {gr g:Int} {s t:Ac} (h:Da w gr g s) (k:Cu.le s t):Da w gr g t:=by
 obtain⟨x,hx,hl⟩:=h;exact⟨x,hx,Cu.le_trans hl k⟩
theorem Z2 {w:L.Sq Ab} {gr g:Int} {s:Ac} (h:1<=g) (h15:g<=15) (h1:Bs g=true):Da w gr g s↔∃t:Int,(t=0\/t=1)/\Cz (w.g (AI g)).grain gr t=true/\Cu.le (Bv (w.g (AI g)).ol t) s:=by
 unfold Da;rw[Ko w gr h h15 h1,(Cu.stair_ok _).2 s];unfold GQ;constructor
 ·rintro⟨x,hx,hl⟩;obtain⟨t,ht,rfl⟩:=Afi.1 hx;obtain⟨h2,h3⟩:=Afh.1 ht;exact⟨t,by simpa using h2,h3,hl⟩
 ·rintro⟨t,ht,h2,h3⟩;exact⟨_,Afi.2 ⟨t,Afh.2 ⟨by simpa using ht,h2⟩,rfl⟩,h3⟩
theorem Z3 {w:L.Sq Ab} {gr g:Int} {s:Ac} (h:1<=g) (h15:g<=15) (h1:Bs g=false):Da w gr g s↔∃k,k<AD g/\Jn (Da w gr (Al g k)) (Da w gr (AO g k)) s:=by
 unfold Da;rw[Ji w gr h h15 h1,(Cu.stair_ok _).2 s,Qw]
theorem Gg {w:L.Sq Ab} {gr g:Int} {s:Ac}:Cd w gr g s=true↔Da w gr g s:=by
 unfold Cd Da Cu.cov;rw[Fc];constructor
 ·rintro⟨i,hi,h⟩;refine⟨_,Is hi,?_⟩;unfold DZ at h
  by_cases h1:((Ae w gr g).g i).w<=s.w
  ·rw[decide_eq_true h1]at h;exact⟨h1,of_decide_eq_true h⟩
  ·rw[decide_eq_false h1]at h;cases h
 ·rintro⟨x,hx,h1,h2⟩;obtain⟨i,hi,rfl⟩:=Af9 hx;refine⟨i,hi,?_⟩;have e:(Ae w gr g).g i=(AW w gr g)[i]:=by
   show(AW w gr g).getD i ⟨0,0⟩=_;rw[AS,oE hi];rfl
  unfold DZ;rw[e,decide_eq_true h1];exact decide_eq_true h2
theorem AaQ {w:L.Sq Ab} {s:L.Sq Aj} (h:Gf w s=true):Dz w/\w.n<=20/\(s.n<=4\/7<s.n)/\s.n<=20:=by
 unfold Gf at h;cases hf:Ks w.n s.n with
 |true=>rw[hf]at h;cases h
 |false =>
   rw[hf]at h;have hall:∀i,i<w.n->(w.g i).ol.n<=1000000:=fun i hi=>by
    have h1:=CQ.1 h i hi;have h2:(!DL (w.g i).ol.n 60)=true:=h1;cases e:DL (w.g i).ol.n 60 with
    |true=>rw[e]at h2;cases h2
    |false=>have:¬ (60:Int)<((w.g i).ol.n:Int):=of_decide_eq_false e;omega
   unfold Ks at hf;unfold Dz;cases e1:DL w.n 4<;>cases e2:Kr w.n 7<;>cases e3:DL w.n 20<;>cases e4:DL s.n 4<;>cases e5:Kr s.n 7<;>cases e6:DL s.n 20<;>rw[e1,e2,e3,e4,e5,e6]at hf<;>first
    |exact absurd hf (by decide)
    |(simp only[DL,Kr,decide_eq_true_eq,decide_eq_false_iff_not]at e1 e2 e3 e4 e5 e6;exact⟨⟨by omega,by omega,hall⟩,by omega,by omega,by omega⟩)
theorem AaR {s:Aj} (h:BH s=true):G1 (N8 s)=true:=CQ.2 fun i hi=>by
 have hi:i<1:=hi;obtain rfl:i=0:=by omega
 show(!CX (fun _=>BH s) (fun _=>s.id) 0)=true;unfold CX;rw[h];rfl
theorem Z4 {w:L.Sq Ab} (h:Dj w=true) {i:Nat} (hi:i<w.n):Di (w.g i)=true/\(0<i->(w.g (i-1)).id<(w.g i).id):=by
 have h1:=CQ.1 h i hi;have h2:(!CX (fun i=>Di (w.g i)) (fun i=>(w.g i).id) i)=true:=h1;unfold CX at h2;cases e:Di (w.g i)with
 |false=>simp only[e]at h2;cases h2
 |true =>
   refine⟨rfl,fun h0=>?_⟩;simp only[e,decide_eq_true (show 0<(i:Int)by omega)]at h2;have h3:(!decide ((w.g i).id<=(w.g (i-1)).id))=true:=h2;simp only[AfA,decide_eq_false_iff_not]at h3;omega
end
def BY (b:Int) (k:Nat):List Nat:=(Afm k).filter (CB b)
def D0 (w:L.Sq Ab) (l:List Nat):L.Sq Ab:=⟨l.length,fun i=>w.g (l.getD i 0)⟩
def B5 (w:L.Sq Ab) (b:Int):L.Sq Ab:=D0 w (BY b w.n)
def ES (l:L.Sq Ac) (x y:Int):Bool:=Cl l.n fun i=>DZ (l.g i) ⟨x,y⟩
def CM (l:L.Sq Ac) (s:Ac):Nat->List Ac×Bool
 |0=>([],false)
 |k+1=>let p:=CM l s k;bif Cu.leB s (l.g k)then p else bif !p.2&&decide (s.w<(l.g k).w)then(p.1 ++ [s,l.g k],true)else(p.1 ++ [l.g k],p.2)
def Ep (l:L.Sq Ac) (s:Ac) (k:Nat):L.Sq Ac:=AC (CM l s k).1
def DM (l:L.Sq Ac) (s:Ac) (k:Nat):Bool:=(CM l s k).2
def Er (l:L.Sq Ac) (s:Ac):L.Sq Ac:=bif ES l s.w s.h then l else bif DM l s l.n then Ep l s l.n else AC ((CM l s l.n).1 ++ [s])
theorem AaS (b:Int) (k:Nat):BY b (k+1)=if CB b k=true then BY b k ++ [k]else BY b k:=by
 unfold BY;rw[Ag8,Agx]
 by_cases h:CB b k=true
 ·rw[if_pos h];simp[h]
 ·rw[if_neg h];simp[h]
def Qx (x:Ab):List SV:=[.int .i64 x.id,.int .i64 x.colour,.int .i64 x.grain,.sl 2 x.ol.n (fun i=>[.int .i64 ((x.ol.g i).x),.int .i64 ((x.ol.g i).y)])]
theorem AaT (w:L.Sq Ab) (l:List Nat) (k:Nat):(D0 w l).n+1=(D0 w (l ++ [k])).n/\∀i,i<(D0 w l).n+1->AU (D0 w l).n (fun j=>Qx ((D0 w l).g j)) (fun _=>Qx (w.g k)) i=Qx ((D0 w (l ++ [k])).g i):=by
 refine⟨by simp[D0],fun i hi=>?_⟩;have hi:i<l.length+1:=hi;have e:(D0 w (l ++ [k])).g i=if i<l.length then(D0 w l).g i else w.g k:=by
  show w.g ((l ++ [k]).getD i 0)=if i<l.length then w.g (l.getD i 0)else w.g k
  by_cases h:i<l.length
  ·rw[if_pos h,AS,AS,Af2 h]
  ·rw[if_neg h];obtain rfl:i=l.length:=by omega
   simp[AS]
 rw[e];unfold AU;show(if i<l.length then _ else _)=_
 by_cases h:i<l.length
 ·rw[if_pos h,if_pos h]
 ·rw[if_neg h,if_neg h]
theorem Qy {l:L.Sq Ac} {s:Ac} {k:Nat} (h:Cu.leB s (l.g k)=true):CM l s (k+1)=CM l s k:=by rw[CM,h];rfl
theorem Qz {l:L.Sq Ac} {s:Ac} {k:Nat} (h:Cu.leB s (l.g k)=false) (h2:(!(CM l s k).2&&decide (s.w<(l.g k).w))=true):CM l s (k+1)=((CM l s k).1 ++ [s,l.g k],true):=by rw[CM,h,cond_false,h2];rfl
theorem NA {l:L.Sq Ac} {s:Ac} {k:Nat} (h:Cu.leB s (l.g k)=false) (h2:(!(CM l s k).2&&decide (s.w<(l.g k).w))=false):CM l s (k+1)=((CM l s k).1 ++ [l.g k],(CM l s k).2):=by rw[CM,h,cond_false,h2];rfl
theorem Q0 {l:L.Sq Ac} {s:Ac}:∀k,(CM l s k).1.length<=2*k
 |0=>Afo _
 |k+1=>by
   have:=Q0 (l:=l) (s:=s) k;cases h:Cu.leB s (l.g k)with
   |true=>rw[Qy h];omega
   |false =>
     cases h2:(!(CM l s k).2&&decide (s.w<(l.g k).w))with
     |true=>rw[Qz h h2];simp;omega
     |false=>rw[NA h h2];simp;omega
theorem GR (a b:Bool):(bif a then b else false)=(a&&b):=by cases a<;>rfl
theorem AaU {X Y:List Ac} {a b:Ac} (h:Y=X ++ [a,b]):(AC X).n+1+1=(AC Y).n/\∀i,i<(AC X).n+1+1->AU ((AC X).n+1) (AU (AC X).n (fun j=>E5 ((AC X).g j)) (fun _=>E5 a)) (fun _=>E5 b) i=E5 ((AC Y).g i):=by
 have h1:=LC (X:=X) (Y:=X ++ [a]) (Z:=[a]) rfl (r:=fun _=>E5 a) (fun i hi=>by
  have hi:i<1:=hi;obtain rfl:i=0:=by omega
  rfl)
 have h2:=LC (X:=X ++ [a]) (Y:=Y) (Z:=[b]) (by rw[h];simp) (r:=fun _=>E5 b) (fun i hi=>by
  have hi:i<1:=hi;obtain rfl:i=0:=by omega
  rfl)
 obtain⟨a1,a2⟩:=h1;obtain⟨b1,b2⟩:=h2;have a1:(AC X).n+1=(AC (X ++ [a])).n:=a1;refine⟨by rw[a1];exact b1,fun i hi=>?_⟩;rw[<- b2 i (by rw[<- a1];exact hi),<- a1];unfold AU
 by_cases h3:i<(AC X).n+1
 ·rw[if_pos h3,if_pos h3];exact a2 i h3
 ·rw[if_neg h3,if_neg h3]
theorem Z5 {X Y:List Ac} {a:Ac} (h:Y=X ++ [a]):(AC X).n+1=(AC Y).n/\∀i,i<(AC X).n+1->AU (AC X).n (fun j=>E5 ((AC X).g j)) (fun _=>E5 a) i=E5 ((AC Y).g i):=LC (X:=X) (Y:=Y) (Z:=[a]) h (r:=fun _=>E5 a) (fun i hi=>by
 have hi:i<1:=hi;obtain rfl:i=0:=by omega
 rfl)
def Z6 (w:(L.Sq Ab)) (b:Int):Prop:=w.n<=1000
def Z7 (w:(L.Sq Ab)) (b:Int):SV:=.sl 4 (B5 w b).n (fun k=>[.int .i64 (((B5 w b).g k).id),.int .i64 (((B5 w b).g k).colour),.int .i64 (((B5 w b).g k).grain),.sl 2 ((B5 w b).g k).ol.n (fun i=>[.int .i64 ((((B5 w b).g k).ol.g i).x),.int .i64 ((((B5 w b).g k).ol.g i).y)])])
def Z8:List EV->Option (Prop×SV)
 |[.p (.sl 4 w_n w_g),.p (.int .i64 b)]=>some ((∀i,i<w_n->DD (w_g i))/\Z6 (⟨w_n,fun i=>B6 (w_g i)⟩:(L.Sq Ab)) b,Z7 (⟨w_n,fun i=>B6 (w_g i)⟩:(L.Sq Ab)) b)
 |_=>none
abbrev Q1:SE.Spec:=(AK Z8)
def AaV:Ak:={ cC with nils:=B3 [(2,[(5,24,71,4)])] }
theorem AaW (w:(L.Sq Ab)) (b:Int) (hp:Z6 w b):vc Tryz.prog ({ AaV with loops:=AV [(3,{ T:=Nat,keep:=[0,1,5],keepO:=[],chg:=fun i=>[(6,.p (.int .i64 (i:Int)))],own:=fun i=>[(24,.row 71 4 (D0 w (BY b i)).n (fun k=>[.int .i64 (((D0 w (BY b i)).g k).id),.int .i64 (((D0 w (BY b i)).g k).colour),.int .i64 (((D0 w (BY b i)).g k).grain),.sl 2 ((D0 w (BY b i)).g k).ol.n (fun i1=>[.int .i64 ((((D0 w (BY b i)).g k).ol.g i1).x),.int .i64 ((((D0 w (BY b i)).g k).ol.g i1).y)])]))],inv:=fun i=>i<=w.n,mu:=fun i=>w.n-i })],rfs:=AT [] }) (Ah Tryz.f78) (Ap Tryz.f78 [.p (.sl 4 w.n (fun i=>[.int .i64 ((w.g i).id),.int .i64 ((w.g i).colour),.int .i64 ((w.g i).grain),.sl 2 (w.g i).ol.n (fun i1=>[.int .i64 (((w.g i).ol.g i1).x),.int .i64 (((w.g i).ol.g i1).y)])])),.p (.int .i64 b)]) (AJ Tryz.prog Tryz.f78 (Z7 w b)):=
  @Eq.mpr _ (let I:=SV.int .i64;let T:=Af1;let A15:=(↑w.n:Int);let A11:=(1:Int);let A10:=(2:Nat);let A2:=(w.n=w.n/\∀(i:Nat),let A3:=[I (w.g i).id,I (w.g i).colour,I (w.g i).grain,SV.sl A10 (w.g i).ol.n fun(i1:Nat)=>[I ((w.g i).ol.g i1).x,I ((w.g i).ol.g i1).y]];i<w.n->A3=A3);(∃(g:Nat),let A14:=(D0 w (BY b g));(0:Int) =
 (↑g:Int)/\(nat_lit 0=A14.n/\∀(i:Nat),let A6:=(A14.g i);i<nat_lit 0 -> []= [I A6.id,I A6.colour,I A6.grain,SV.sl A10 A6.ol.n fun(i1:Nat)=>[I (A6.ol.g i1).x,I (A6.ol.g i1).y]])/\g<=w.n)/\∀(g:Nat),let A7:=(↑g:Int);let A9:=(w.g (T A7));let A1:=(D0 w (BY b g));g<=w.n->(decide (A7<A15)=true->(0:Int)<=A7/\(decide
 (D6 (Fo b A7) A11=A11)=true->((0:Int)<=A7/\A7<A15)/\(A1.n+nat_lit 1)*nat_lit 48<=(140737488355328:Nat)/\Ad .i64 (A7+A11)/\∃(g':Nat),let A12:=(D0 w (BY b g'));A7+A11=(↑g':Int)/\A2/\b=b/\(A1.n+nat_lit 1=A12.n/\∀(i:Nat),let A4:=(A12.g i);i<A1.n+nat_lit 1->AU A1.n (fun(k:Nat)=>[I
 (A1.g k).id,I (A1.g k).colour,I (A1.g k).grain,SV.sl A10 (A1.g k).ol.n fun(i1:Nat)=>[I ((A1.g k).ol.g i1).x,I ((A1.g k).ol.g i1).y]]) (fun(x:Nat)=>[I A9.id,I A9.colour,I A9.grain,SV.sl (nat_lit 2) A9.ol.n fun(i1:Nat)=>[I (A9.ol.g i1).x,I (A9.ol.g i1).y]]) i = [I A4.id,I A4.colour,I A4.grain,SV.sl A10 A4.ol.n fun(i1:Nat)=>[I (A4.ol.g i1).x,I (A4.ol.g
 i1).y]])/\g'<=w.n/\w.n-g'<w.n-g)/\(decide (D6 (Fo b A7) A11=A11)=false->Ad .i64 (A7+A11)/\∃(g':Nat),let A13:=(D0 w (BY b g'));A7+A11=(↑g':Int)/\A2/\b=b/\(A1.n=A13.n/\∀(i:Nat),let A5:=(A13.g i);i<A1.n -> [I (A1.g i).id,I (A1.g i).colour,I (A1.g i).grain,SV.sl A10 (A1.g i).ol.n fun(i1
:Nat)=>[I ((A1.g i).ol.g i1).x,I ((A1.g i).ol.g i1).y]]= [I A5.id,I A5.colour,I A5.grain,SV.sl A10 A5.ol.n fun(i1:Nat)=>[I (A5.ol.g i1).x,I (A5.ol.g i1).y]])/\g'<=w.n/\w.n-g'<w.n-g))/\(decide (A7<A15)=false->A1.n=(B5 w b).n/\∀(i:Nat),let A8:=((B5 w b).g i);i<A1.n -> [I (A1.g i).id,I (A1.g i).colour,I (A1.g i).grain,SV.sl
 A10 (A1.g i).ol.n fun(i1:Nat)=>[I ((A1.g i).ol.g i1).x,I ((A1.g i).ol.g i1).y]]= [I A8.id,I A8.colour,I A8.grain,SV.sl A10 A8.ol.n fun(i_1:Nat)=>[I (A8.ol.g i_1).x,I (A8.ol.g i_1).y]])) (by kernel_rfl) (by
  conv=>zeta
  have hw:w.n<=1000:=hp;have ln:∀k,(D0 w (BY b k)).n<=k:=fun k=>by
   show(BY b k).length<=k;unfold BY;exact AfI (Agv _ _) (by rw[Agw];exact Afo _)
  refine⟨⟨0,rfl,⟨rfl,fun i hi=>absurd hi (Rc _)⟩,Afg _⟩,fun k hk=>⟨fun hc=>?_,fun hc=>?_⟩⟩
  ·have hc:(k:Int)<(w.n:Int):=of_decide_eq_true hc;have e0:((k:Int)).toNat=k:=Afy k;have c0:0<=(k:Int)/\(k:Int)<(w.n:Int):=⟨Af7 _,hc⟩;have k1:Ad .i64 ((k:Int)+1):=jK;have g1:k+1<=w.n:=by omega
   have g2:w.n-(k+1)<w.n-k:=by omega
   have cn:(k:Int)+1=((k+1:Nat):Int):=by omega
   rw[e0];have sc:=AaS b k;have sz:((D0 w (BY b k)).n+1)*48<=140737488355328:=by have:=ln k;omega
   refine⟨c0.1,fun h1=>⟨c0,sz,k1,k+1,?_⟩,fun h1=>⟨k1,k+1,?_⟩⟩
   ·have h1:CB b k=true:=h1;rw[if_pos h1]at sc;obtain⟨q1,q2⟩:=AaT w (BY b k) k;rw[<- sc]at q1 q2;exact(by(try dsimp only);(repeat' with_reducible apply And.intro)<;>first|with_reducible rfl|with_reducible assumption|with_reducible exact fun _=>rfl|with_reducible exact fun _ _=>rfl|with_reducible exact trivial|exact rfl|(intro _;exact rfl)|(intro _ _;exact rfl)|exact cn|exact q1|exact q2|exact g1|exact g2|exact trivial|(intro _ h_;exact absurd h_ (Rc _)))
   ·have h1:CB b k=false:=h1;rw[if_neg (by rw[h1];decide)]at sc;rw[sc];exact(by(try dsimp only);(repeat' with_reducible apply And.intro)<;>first|with_reducible rfl|with_reducible assumption|with_reducible exact fun _=>rfl|with_reducible exact fun _ _=>rfl|with_reducible exact trivial|exact rfl|(intro _;exact rfl)|(intro _ _;exact rfl)|exact cn|exact g1|exact g2|exact trivial|(intro _ h_;exact absurd h_ (Rc _)))
  ·have hc:¬ (k:Int)<(w.n:Int):=of_decide_eq_false hc;obtain rfl:k=w.n:=by omega
   exact⟨rfl,fun _ _=>rfl⟩)
theorem Z9:Av Tryz.prog 78 Q1:=AM Tryz.func78 (c:=Ah Tryz.f78) (by kernel_rfl) mixed (fun args p r hs hp=>by
 unfold Z8 at hs;split at hs
 ·cases hs;exact⟨_,_,AaW _ _ hp.2,(.p (EP hp.1) (.same _ .nil)),⟨show Aa Tryz.prog _ from Aa.nil,rfl,⟨show Ag Tryz.prog _ from Ag.nil,(Aw.none (fun _=>rfl))⟩⟩⟩
 ·cases hs)
theorem ZA:Ao Tryz.prog 78:=fun args w=>by kernel_rfl
def ZB (l:(L.Sq Ac)) (x:Int) (y:Int):Prop:=l.n<=1000000
def ZC (l:(L.Sq Ac)) (x:Int) (y:Int):SV:=.bool (ES l x y)
def ZD:List EV->Option (Prop×SV)
 |[.p (.sl 2 l_n l_g),.p (.int .i64 x),.p (.int .i64 y)]=>some ((∀i,i<l_n->l_g i = [.int .i64 ((Cc (l_g i)).w),.int .i64 ((Cc (l_g i)).h)])/\ZB (⟨l_n,fun i=>Cc (l_g i)⟩:(L.Sq Ac)) x y,ZC (⟨l_n,fun i=>Cc (l_g i)⟩:(L.Sq Ac)) x y)
 |_=>none
abbrev Q2:SE.Spec:=(AK ZD)
def AaX:Ak:={ muts:=[],frz:=B2 [],specs:=AB [],loops:=fun _=>none,iters:=Bw [],rfs:=AT [],nils:=B3 [] }
theorem AaY (l:(L.Sq Ac)) (x:Int) (y:Int) (hp:ZB l x y):vc Tryz.prog ({ AaX with loops:=AV [(2,{ T:=Nat,keep:=[0,1,2],keepO:=[],chg:=fun i=>[(7,.p (.int .i64 (i:Int)))],own:=fun _=>[],inv:=fun i=>i<=l.n/\∀j,j<i->DZ (l.g j) ⟨x,y⟩=false,mu:=fun i=>l.n-i })],rfs:=AT [] }) (Ah Tryz.f85) (Ap Tryz.f85 [.p (.sl 2 l.n (fun i=>[.int .i64 ((l.g i).w),.int .i64 ((l.g i).h)])),.p (.int .i64 x),.p (.int .i64 y)]) (AJ Tryz.prog Tryz.f85 (ZC l x y)):=
 @Eq.mpr _ (let T:=Af1;let A5:=(Ac.mk x y);let A4:=(↑l.n:Int);(∃(g:Nat),(0:Int)=(↑g:Int)/\g<=l.n/\∀(j:Nat),j<g->DZ (l.g j) A5=false)/\∀(g:Nat),let A3:=(↑g:Int);let A6:=(l.g (T A3));let A1:=(bif decide (A6.w<=x)then decide (A6.h<=y)else false);(g<=l.n/\∀(j:Nat),j<g->DZ (l.g j) A5=false)->(decide (A3<A4)=true->((0:Int)<=A3/\A3<A4)/\(decide (A6.w<=x)=true->(0:Int)<=A3/\A3<A4)/\(A1=true->true=ES l x y)/\(A1=false->Ad .i64 (A3+(1:Int))/\∃(g':Nat),A3+(1:Int)=(↑g':Int)/\(l.n=l.n/\∀(i:Nat),let A2:=[SV.int .i64 (l.g i).w,SV.int .i64 (l.g i).h];i<l.n->A2=A2)/\x=x/\y=y/\(g'<=l.n/\∀(j:Nat),j<g'->DZ (l.g j) A5=false)/\l.n-g'<l.n-g))/\(decide (A3<A4)=false->false=ES l x y)) (by kernel_rfl) (by
 conv=>zeta
 have hn:l.n<=1000000:=hp;refine⟨⟨0,rfl,Afg _,fun j hj=>absurd hj (Rc _)⟩,fun k hk=>⟨fun hc=>?_,fun hc=>?_⟩⟩
 ·have hc:(k:Int)<(l.n:Int):=of_decide_eq_true hc;have e0:((k:Int)).toNat=k:=Afy k;have c0:0<=(k:Int)/\(k:Int)<(l.n:Int):=⟨Af7 _,hc⟩;have k1:Ad .i64 ((k:Int)+1):=jK;have g1:k+1<=l.n:=by omega
  have g2:l.n-(k+1)<l.n-k:=by omega
  have cn:(k:Int)+1=((k+1:Nat):Int):=by omega
  rw[e0];refine⟨c0,fun _=>c0,fun h1=>?_,fun h1=>⟨k1,k+1,?_⟩⟩
  ·exact(Fc.2 ⟨k,g1,h1⟩).symm
  ·have nx : ∀j, j<k+1->DZ (l.g j) ⟨x, y⟩= false :=fun j hj =>by
    rcases Aft.1 hj with h|rfl
    ·exact hk.2 j h
    ·exact h1
   exact(by(try dsimp only);(repeat' with_reducible apply And.intro)<;>first|with_reducible rfl|with_reducible assumption|with_reducible exact fun _=>rfl|with_reducible exact fun _ _=>rfl|with_reducible exact trivial|exact rfl|(intro _;exact rfl)|(intro _ _;exact rfl)|exact cn|exact nx|exact g1|exact g2|exact trivial|(intro _ h_;exact absurd h_ (Rc _)))
 ·have hc:¬ (k:Int)<(l.n:Int):=of_decide_eq_false hc;cases h:ES l x y with
  |false=>rfl
  |true =>
    obtain⟨i,hi,h1⟩:=Fc.1 h;rw[hk.2 i (by omega)]at h1;cases h1)
theorem ZE:Av Tryz.prog 85 Q2:=AM Tryz.func85 (c:=Ah Tryz.f85) (by kernel_rfl) mixed (fun args p r hs hp=>by
 unfold ZD at hs;split at hs
 ·cases hs;exact⟨_,_,AaY _ _ _ hp.2,(.p (.sl hp.1) (.same _ (.same _ .nil))),⟨show Aa Tryz.prog _ from Aa.nil,rfl,⟨show Ag Tryz.prog _ from Ag.nil,(Aw.none (fun _=>rfl))⟩⟩⟩
 ·cases hs)
theorem ZF:Ao Tryz.prog 85:=fun args w=>by kernel_rfl
def ZG (l:(L.Sq Ac)) (s:Ac):Prop:=l.n<=1000000
def ZH (l:(L.Sq Ac)) (s:Ac):SV:=.sl 2 (Er l s).n (fun k=>[.int .i64 (((Er l s).g k).w),.int .i64 (((Er l s).g k).h)])
def ZI:List EV->Option (Prop×SV)
 |[.p (.sl 2 l_n l_g),.p (.agg [.int .i64 s_w,.int .i64 s_h])]=>some ((∀i,i<l_n->l_g i = [.int .i64 ((Cc (l_g i)).w),.int .i64 ((Cc (l_g i)).h)])/\ZG (⟨l_n,fun i=>Cc (l_g i)⟩:(L.Sq Ac)) (⟨s_w,s_h⟩:Ac),ZH (⟨l_n,fun i=>Cc (l_g i)⟩:(L.Sq Ac)) (⟨s_w,s_h⟩:Ac))
 |_=>none
abbrev ZJ:SE.Spec:=(AK ZI)
def AaZ:Ak:={ cC with nils:=B3 [(8,[(6,73,74,2)])] }
theorem Aba (l:(L.Sq Ac)) (s:Ac) (hp:ZG l s):vc Tryz.prog ({ AaZ with loops:=AV [(2,{ T:=Nat,keep:=[0,3],keepO:=[],chg:=fun i=>[(5,.p (.int .i64 (i:Int)))],own:=fun _=>[],inv:=fun i=>i<=l.n/\∀j,j<i->DZ (l.g j) s=false,mu:=fun i=>l.n-i }),(9,{ T:=Nat,keep:=[0,3,6],keepO:=[],chg:=fun i=>[(7,.p (.bool (DM l s i))),(8,.p (.int .i64 (i:Int)))],own:=fun i=>[(73,.row 74 2 (Ep l s i).n (fun k=>[.int .i64 (((Ep l s i).g k).w),.int .i64 (((Ep l s i).g k).h)]))],inv:=fun i=>i<=l.n,mu:=fun i=>l.n-i })],rfs:=AT [] }) (Ah Tryz.f80) (Ap Tryz.f80 [.p (.sl 2 l.n (fun i=>[.int .i64 ((l.g i).w),.int .i64 ((l.g i).h)])),.p (.agg [.int .i64 s.w,.int .i64 s.h])]) (AJ Tryz.prog Tryz.f80 (ZH l s)):=
 @Eq.mpr _ (let I:=SV.int .i64;let T:=Af1;let A16:=(1:Int);let A14:=(0:Int);let A13:=(nat_lit 0);let A12:=(140737488355328:Nat);let A10:=(Er l s);let A7:=(↑l.n:Int);let A6:=[I s.w,I s.h];let A2:=(l.n=l.n/\∀(i:Nat),let A19:=[I (l.g i).w,I (l.g i).h];i<l.n->A19=A19);(∃(g:Nat),A14=(↑g:Int)/\g<=l.n/\∀(j:Nat),j<g->DZ (l.g j) s=false)/\∀(g:Nat),let A9:=(↑g:Int);let A24:=(l.g (T A9));let A4:=(bif decide (A24.w<=s.w)then decide (A24.h<=s.h)else false);(g<=l.n/\∀(j:Nat),j<g->DZ (l.g j) s=false)->(decide (A9<A7)=true->(A14<=A9/\A9<A7)/\(decide (A24.w<=s.w)=true->A14<=A9/\A9<A7)/\(A4=true->l.n=A10.n/\∀(i:Nat),i<l.n -> [I (l.g i).w,I (l.g i).h]= [I (A10.g i).w,I (A10.g i).h])/\(A4=false->Ad .i64 (A9+A16)/\∃(g':Nat),A9+A16=(↑g':Int)/\SV.ref A6 A13=SV.ref A6 A13/\A2/\(g'<=l.n/\∀(j:Nat),j<g'->DZ (l.g j) s=false)/\l.n-g'<l.n-g))/\(decide (A9<A7)=false->(∃(g:Nat),let A23:=(Ep l s g);false=DM l s g/\A14=(↑g:Int)/\(nat_lit 0=A23.n/\∀(i:Nat),i<nat_lit 0 -> []= [I (A23.g i).w,I (A23.g i).h])/\g<=l.n)/\∀(g_1:Nat),let A18:=(!DM l s g_1);let A3:=(↑g_1:Int);let A17:=(A14<=A3/\A3<A7);let A11:=(l.g (T A3));let A8:=(bif !DM l s g_1 then decide (s.w<A11.w)else false);let A5:=(bif decide (s.w<=A11.w)then decide (s.h<=A11.h)else false);let A1:=(Ep l s g_1);let A15:=(A1.n+nat_lit 1);g_1<=l.n->(decide (A3<A7)=true->A17/\(decide (s.w<=A11.w)=true->A14<=A3/\A3<A7)/\(A5=true->Ad .i64 (A3+A16)/\∃(g':Nat),let A20:=(Ep l s g');DM l s g_1=DM l s g'/\A3+A16=(↑g':Int)/\SV.ref A6 A13=SV.ref A6 A13/\A2/\(A1.n=A20.n/\∀(i:Nat),i<A1.n -> [I (A1.g i).w,I (A1.g i).h]= [I (A20.g i).w,I (A20.g i).h])/\g'<=l.n/\l.n-g'<l.n-g_1)/\(A5=false->(A18=true->A14<=A3/\A3<A7)/\(A8=true->A15*nat_lit 16<=A12/\A17/\(A1.n+nat_lit 1+nat_lit 1)*nat_lit 16<=A12/\Ad .i64 (A3+A16)/\∃(g':Nat),let A21:=(Ep l s g');true=DM l s g'/\A3+A16=(↑g':Int)/\SV.ref A6 A13=SV.ref A6 A13/\A2/\(A1.n+nat_lit 1+nat_lit 1=A21.n/\∀(i:Nat),i<A1.n+nat_lit 1+nat_lit 1->AU A15 (AU A1.n (fun(k:Nat)=>[I (A1.g k).w,I (A1.g k).h]) fun(x:Nat)=>A6) (fun(x:Nat)=>[I A11.w,I A11.h]) i = [I (A21.g i).w,I (A21.g i).h])/\g'<=l.n/\l.n-g'<l.n-g_1)/\(A8=false->A17/\A15*nat_lit 16<=A12/\Ad .i64 (A3+A16)/\∃(g':Nat),let A22:=(Ep l s g');DM l s g_1=DM l s g'/\A3+A16=(↑g':Int)/\SV.ref A6 A13=SV.ref A6 A13/\A2/\(A1.n+nat_lit 1=A22.n/\∀(i:Nat),i<A1.n+nat_lit 1->AU A1.n (fun(k:Nat)=>[I (A1.g k).w,I (A1.g k).h]) (fun(x:Nat)=>[I A11.w,I A11.h]) i = [I (A22.g i).w,I (A22.g i).h])/\g'<=l.n/\l.n-g'<l.n-g_1)))/\(decide (A3<A7)=false->(A18=true->A15*nat_lit 16<=A12/\A1.n+nat_lit 1=A10.n/\∀(i:Nat),i<A1.n+nat_lit 1->AU A1.n (fun(k:Nat)=>[I (A1.g k).w,I (A1.g k).h]) (fun(x:Nat)=>A6) i = [I (A10.g i).w,I (A10.g i).h])/\(A18=false->A1.n=A10.n/\∀(i:Nat),i<A1.n -> [I (A1.g i).w,I (A1.g i).h]= [I (A10.g i).w,I (A10.g i).h])))) (by kernel_rfl) (by
 conv=>zeta
 have hn:l.n<=1000000:=hp;refine⟨⟨0,rfl,Afg _,fun j hj=>absurd hj (Rc _)⟩,fun k hk=>⟨fun hc=>?_,fun hc=>?_⟩⟩
 ·have hc:(k:Int)<(l.n:Int):=of_decide_eq_true hc;have e0:((k:Int)).toNat=k:=Afy k;have c0:0<=(k:Int)/\(k:Int)<(l.n:Int):=⟨Af7 _,hc⟩;have k1:Ad .i64 ((k:Int)+1):=jK;have g1:k+1<=l.n:=by omega
  have g2:l.n-(k+1)<l.n-k:=by omega
  have cn:(k:Int)+1=((k+1:Nat):Int):=by omega
  rw[e0];refine⟨c0,fun _=>c0,fun h1=>?_,fun h1=>⟨k1,k+1,?_⟩⟩
  ·have e:Er l s=l:=by unfold Er;rw[show ES l s.w s.h=true from Fc.2 ⟨k,g1,h1⟩];rfl
   rw[e];exact⟨rfl,fun _ _=>rfl⟩
  ·have nx : ∀j, j<k+1->DZ (l.g j) s = false :=fun j hj =>by
    rcases Aft.1 hj with h|rfl
    ·exact hk.2 j h
    ·exact h1
   exact(by(try dsimp only);(repeat' with_reducible apply And.intro)<;>first|with_reducible rfl|with_reducible assumption|with_reducible exact fun _=>rfl|with_reducible exact fun _ _=>rfl|with_reducible exact trivial|exact rfl|(intro _;exact rfl)|(intro _ _;exact rfl)|exact cn|exact nx|exact g1|exact g2|exact trivial|(intro _ h_;exact absurd h_ (Rc _)))
 ·have hc:¬ (k:Int)<(l.n:Int):=of_decide_eq_false hc;have hr:ES l s.w s.h=false:=by
   cases h:ES l s.w s.h with
   |false=>rfl
   |true =>
     obtain⟨i,hi,h1⟩:=Fc.1 h;rw[show DZ (l.g i) ⟨s.w,s.h⟩=false from hk.2 i (by omega)]at h1;cases h1
  clear hk hc;refine⟨⟨0,rfl,rfl,⟨rfl,fun i hi=>absurd hi (Rc _)⟩,Afg _⟩,fun k hk=>⟨fun hc=>?_,fun hc=>?_⟩⟩
  ·have hc:(k:Int)<(l.n:Int):=of_decide_eq_true hc;have e0:((k:Int)).toNat=k:=Afy k;have c0:0<=(k:Int)/\(k:Int)<(l.n:Int):=⟨Af7 _,hc⟩;have k1:Ad .i64 ((k:Int)+1):=jK;have g1:k+1<=l.n:=by omega
   have g2:l.n-(k+1)<l.n-k:=by omega
   have cn:(k:Int)+1=((k+1:Nat):Int):=by omega
   rw[e0];have fl:(Ep l s k).n<=2*k:=Q0 k;have sz:((Ep l s k).n+1)*16<=140737488355328:=by omega
   have sz2:((Ep l s k).n+1+1)*16<=140737488355328:=by omega
   rw[GR,GR];refine⟨c0,fun _=>c0,fun h1=>⟨k1,k+1,?_⟩,fun h1=>⟨fun _=>c0,fun h2=>⟨sz,c0,sz2,k1,k+1,?_⟩,fun h2=>⟨c0,sz,k1,k+1,?_⟩⟩⟩
   ·have f:=Qy (l:=l) (s:=s) (k:=k) h1;have q1:DM l s k=DM l s (k+1):=by unfold DM;rw[f]
    have q2:Ep l s (k+1)=Ep l s k:=by unfold Ep;rw[f]
    rw[q2];exact(by(try dsimp only);(repeat' with_reducible apply And.intro)<;>first|with_reducible rfl|with_reducible assumption|with_reducible exact fun _=>rfl|with_reducible exact fun _ _=>rfl|with_reducible exact trivial|exact rfl|(intro _;exact rfl)|(intro _ _;exact rfl)|exact q1|exact cn|exact g1|exact g2|exact trivial|(intro _ h_;exact absurd h_ (Rc _)))
   ·have f:=Qz (l:=l) (s:=s) (k:=k) h1 h2;have q1:true=DM l s (k+1):=by unfold DM;rw[f]
    obtain⟨q2,q3⟩:=AaU (show(CM l s (k+1)).1=(CM l s k).1 ++ [s,l.g k]by rw[f]);exact(by(try dsimp only);(repeat' with_reducible apply And.intro)<;>first|with_reducible rfl|with_reducible assumption|with_reducible exact fun _=>rfl|with_reducible exact fun _ _=>rfl|with_reducible exact trivial|exact rfl|(intro _;exact rfl)|(intro _ _;exact rfl)|exact q1|exact q2|exact q3|exact cn|exact g1|exact g2|exact trivial|(intro _ h_;exact absurd h_ (Rc _)))
   ·have f:=NA (l:=l) (s:=s) (k:=k) h1 h2;have q1:DM l s k=DM l s (k+1):=by unfold DM;rw[f]
    obtain⟨q2,q3⟩:=Z5 (show(CM l s (k+1)).1=(CM l s k).1 ++ [l.g k]by rw[f]);exact(by(try dsimp only);(repeat' with_reducible apply And.intro)<;>first|with_reducible rfl|with_reducible assumption|with_reducible exact fun _=>rfl|with_reducible exact fun _ _=>rfl|with_reducible exact trivial|exact rfl|(intro _;exact rfl)|(intro _ _;exact rfl)|exact q1|exact q2|exact q3|exact cn|exact g1|exact g2|exact trivial|(intro _ h_;exact absurd h_ (Rc _)))
  ·have hc:¬ (k:Int)<(l.n:Int):=of_decide_eq_false hc;obtain rfl:k=l.n:=by omega
   have fl:(Ep l s l.n).n<=2*l.n:=Q0 l.n;have sz:((Ep l s l.n).n+1)*16<=140737488355328:=by omega
   refine⟨fun h1=>⟨sz,?_⟩,fun h1=>?_⟩
   ·have h1:DM l s l.n=false:=Cx h1;have e:Er l s=AC ((CM l s l.n).1 ++ [s]):=by unfold Er;rw[hr,h1];rfl
    rw[e];exact Z5 rfl
   ·have h1:DM l s l.n=true:=Ca h1;have e:Er l s=Ep l s l.n:=by unfold Er;rw[hr,h1];rfl
    rw[e];exact⟨rfl,fun _ _=>rfl⟩)
theorem Abb:Av Tryz.prog 80 ZJ:=AM Tryz.func80 (c:=Ah Tryz.f80) (by kernel_rfl) mixed (fun args p r hs hp=>by
 unfold ZI at hs;split at hs
 ·cases hs;exact⟨_,_,Aba _ _ hp.2,(.p (.sl hp.1) (.same _ .nil)),⟨show Aa Tryz.prog _ from Aa.nil,rfl,⟨show Ag Tryz.prog _ from Ag.nil,(Aw.none (fun _=>rfl))⟩⟩⟩
 ·cases hs)
theorem Abc:Ao Tryz.prog 80:=fun args w=>by kernel_rfl
def NB (x:Ab) (gr:Int) (t:Nat):List Ac:=((([0,1]:List Int).take t).filter fun u=>Cz x.grain gr u).map fun u=>Bv x.ol u
def Dt (w:L.Sq Ab) (gr:Int) (b t:Nat):List Ac:=if (B5 w b).n=1 then NB ((B5 w b).g 0) gr t else []
def G2 (b p:Nat):Bool:=decide (D6 p b=p)
def Q3 (w:L.Sq Ab) (gr:Int) (b q:Nat):List Ac:=Fg (AW w gr q) (AW w gr ((b:Int)-q))
def DF (w:L.Sq Ab) (gr:Int) (b p:Nat):List Ac:=Dt w gr b 2++((Afm p).filter fun q=>decide (1<=q)&&G2 b q).flatMap (Q3 w gr b)
def F2 (w:L.Sq Ab) (gr:Int) (b p i:Nat):List Ac:=DF w gr b p++Fg ((AW w gr p).take i) (AW w gr ((b:Int)-p))
def Es (w:L.Sq Ab) (gr:Int) (b p i k:Nat):List Ac:=F2 w gr b p i++((AW w gr ((b:Int)-p)).take k).flatMap fun y=>FJ ((Ae w gr p).g i) y
def Cn (w:L.Sq Ab):Nat:=(BJ 1 w.n).toNat
def Ce (l:List Ac):L.Sq Ac:=AC (Cu.stair l)
def It (s:Ac) (x:Ac):Bool:=decide (s.w<x.w) && !Cu.leB s x
def Ku (X:List Ac) (s:Ac):List Ac:=X.filter fun x=>decide (x.w<s.w)
def Gh (X:List Ac) (s:Ac):List Ac:=X.filter (It s)
theorem LD {X:List Ac} {k:Nat} (h:k<X.length):(AC X).g k=X[k]:=by show X.getD k _=_;rw[AS,oE h];rfl
theorem ZK {X:List Ac} {s:Ac} (hX:Cu.Stair X) (hno:∀x,x∈X->¬ Cu.le x s):∀k,k<=X.length ->
  (CM (AC X) s k).2 = !(Gh (X.take k) s).isEmpty/\(CM (AC X) s k).1=(bif (CM (AC X) s k).2 then Ku (X.take k) s++s::Gh (X.take k) s else Ku (X.take k) s)
 |0,_=>⟨rfl,rfl⟩
 |k+1,hk=>by
   have hk':k<X.length:=hk;obtain⟨i1,i2⟩:=ZK hX hno k (by omega);have e:X.take (k+1)=X.take k ++ [X[k]]:=by rw[AgN,oE hk'];rfl
   have f1:Ku (X.take (k+1)) s=Ku (X.take k) s++(if X[k].w<s.w then [X[k]]else []):=by
    unfold Ku;rw[e,Agx]
    by_cases h:X[k].w<s.w<;>simp[h]
   have f2:Gh (X.take (k+1)) s=Gh (X.take k) s++(if It s X[k]=true then [X[k]]else []):=by
    unfold Gh;rw[e,Agx]
    by_cases h:It s X[k]=true<;>simp[h]
   have gk:(AC X).g k=X[k]:=LD hk';have nk:=hno _ (Af3 hk')
   -- those before are less wide
   have lt:∀y,y∈X.take k->y.w<X[k].w:=fun y hy=>by
    obtain⟨i,hi,rfl⟩:=Af9 hy;rw[List.length_take]at hi;rw[List.getElem_take];exact(Agt.1 hX i k (by omega) hk' (by omega)).1
   have ne2:(CM (AC X) s k).2=true->s.w<X[k].w:=fun h=>by
    rw[i1]at h;cases h2:Gh (X.take k) s with
    |nil=>rw[h2]at h;cases h
    |cons y l =>
      have hy:y∈Gh (X.take k) s:=by rw[h2];exact List.mem_cons_self ..
      obtain⟨m1,m2⟩:=Afh.1 hy;unfold It at m2;rw[nT,decide_eq_true_eq]at m2;have:=lt y m1;omega
   cases h:Cu.leB s ((AC X).g k)with
   |true =>
     rw[Qy h];rw[gk]at h;have hw:=(Cu.leB_iff.1 h).1;rw[f1,f2,if_neg (show ¬ X[k].w<s.w by omega),if_neg (show ¬ It s X[k]=true by unfold It;rw[h];simp),Aga,Aga];exact⟨i1,i2⟩
   |false =>
     have hle:¬ Cu.le s X[k]:=fun q=>by rw[gk,Cu.leB_iff.2 q]at h;cases h
     unfold Cu.le at hle nk;have hb:It s X[k]=decide (s.w<X[k].w):=by
      unfold It;rw[gk]at h;rw[h];simp
     rw[hb]at f2
     by_cases hw:s.w<X[k].w
     ·rw[decide_eq_true hw,if_pos rfl]at f2;rw[if_neg (by omega),Aga]at f1;cases hp:(CM (AC X) s k).2 with
      |false =>
        rw[hp]at i1 i2;have n2:Gh (X.take k) s = []:=by
         cases h2:Gh (X.take k) s with
         |nil=>rfl
         |cons y l=>rw[h2]at i1;cases i1
        rw[Qz h (by rw[hp,gk,decide_eq_true hw];rfl),f1,f2,n2,i2];refine⟨rfl,?_⟩;rw[gk];simp
      |true =>
        rw[hp]at i1 i2;rw[NA h (by rw[hp];rfl),f1,f2,i2];refine⟨?_,?_⟩
        ·rw[hp];cases Gh (X.take k) s<;>rfl
        ·rw[hp,gk];simp
     ·rw[decide_eq_false hw,if_neg (by decide),Aga]at f2;rw[if_pos (by omega)]at f1;cases hp:(CM (AC X) s k).2 with
      |true=>exact absurd (ne2 hp) hw
      |false =>
        rw[hp]at i1 i2;rw[NA h (by rw[hp,gk,decide_eq_false hw];rfl),f1,f2,i2];refine⟨by rw[hp];exact i1,?_⟩;rw[hp,gk];rfl
theorem Abd {X:List Ac} (hX:Cu.Stair X) (s:Ac):Er (AC X) s=AC (Cu.ins X s):=by
 have hroom:ES (AC X) s.w s.h=X.any fun x=>Cu.leB x s:=by
  cases h:X.any fun x=>Cu.leB x s with
  |true =>
    obtain⟨x,hx,hl⟩:=Ag5.1 h;obtain⟨i,hi,rfl⟩:=Af9 hx;refine Fc.2 ⟨i,hi,?_⟩;rw[LD hi];obtain⟨l1,l2⟩:=Cu.leB_iff.1 hl;unfold DZ;rw[decide_eq_true l1];exact decide_eq_true l2
  |false =>
    cases h2:ES (AC X) s.w s.h with
    |false=>rfl
    |true =>
      obtain⟨i,hi,hf⟩:=Fc.1 h2;have hi:i<X.length:=hi;rw[LD hi]at hf;unfold DZ at hf;rw[GR,nT,decide_eq_true_eq,decide_eq_true_eq]at hf;have:(X.any fun x=>Cu.leB x s)=true:=Ag5.2 ⟨X[i],Af3 hi,Cu.leB_iff.2 (show Cu.le X[i] s from hf)⟩;rw[h]at this;cases this
 unfold Er Cu.ins;rw[hroom];cases h:X.any fun x=>Cu.leB x s with
 |true=>rw[if_pos rfl];rfl
 |false =>
   rw[if_neg (by decide),cond_false];have hno:∀x,x∈X->¬ Cu.le x s:=fun x hx q=>by
    have:(X.any fun x=>Cu.leB x s)=true:=Ag5.2 ⟨x,hx,Cu.leB_iff.2 q⟩;rw[h]at this;cases this
   obtain⟨i1,i2⟩:=ZK hX hno X.length (Afo _);rw[AgX]at i1 i2;have e1:X.filter (fun x=>decide (x.w<s.w))=Ku X s:=rfl;have e2:X.filter (fun x=>decide (s.w<x.w) && !Cu.leB s x)=Gh X s:=rfl;rw[e1,e2];have en:(AC X).n=X.length:=rfl;unfold DM Ep;rw[en];cases hp:(CM (AC X) s X.length).2 with
   |true =>
     rw[hp]at i2;rw[cond_true,i2];rfl
   |false =>
     rw[hp]at i1 i2;have n2:Gh X s = []:=by
      cases h2:Gh X s with
      |nil=>rfl
      |cons y l=>rw[h2]at i1;cases i1
     rw[cond_false,i2,n2];rfl
theorem Abe (C:List Ac) (s:Ac):Cu.stair (C ++ [s])=Cu.ins (Cu.stair C) s:=by unfold Cu.stair;rw[List.foldl_append];rfl
theorem Q4 (C:List Ac) (s:Ac):Er (Ce C) s=Ce (C ++ [s]):=by
 unfold Ce;rw[Abd (Cu.stair_ok C).1,Abe]
theorem Abf {l:List Ac} (h:Cu.Stair l) {m:Nat}:(∀x,x∈l->0<=x.w/\x.w<=m)->l.length<=m+1:=fun hb=>by
 have key:∀i,(hi:i<l.length)->(i:Int)<=l[i].w:=fun i=>by
  induction i with
  |zero=>intro hi;exact(hb _ (Af3 hi)).1
  |succ i ih =>
    intro hi;have a:=ih (by omega);have b:=(Agt.1 h i (i+1) (by omega) hi (by omega)).1;omega
 rcases Nat.eq_zero_or_pos l.length with h0|h0
 ·omega
 ·have a:=key (l.length-1) (by omega);have b:=(hb _ (Af3 (show l.length-1<l.length by omega))).2;omega
theorem Abg (x:Ab) (gr:Int) {t:Nat} (ht:t<2):NB x gr (t+1)=NB x gr t++(if Cz x.grain gr t=true then [Bv x.ol t]else []):=Y4 ⟨1,fun _=>x⟩ gr 0 ht
theorem Abh {w:L.Sq Ab} {gr:Int} {b t:Nat} (h:(B5 w b).n=1) (ht:t<2):Dt w gr b (t+1)=Dt w gr b t++(if Cz ((B5 w b).g 0).grain gr t=true then [Bv ((B5 w b).g 0).ol t]else []):=by
 unfold Dt;rw[if_pos h,if_pos h];exact Abg _ gr ht
theorem Q5 {w:L.Sq Ab} {gr:Int} {b:Nat} (h:¬ (B5 w b).n=1) (t:Nat):Dt w gr b t = []:=by unfold Dt;rw[if_neg h]
theorem Abi (w:L.Sq Ab) (gr:Int) (b:Nat):DF w gr b 1=Dt w gr b 2:=by
 unfold DF;have:(Afm 1).filter (fun q=>decide (1<=q)&&G2 b q)= []:=rfl;rw[this,List.flatMap_nil,Aga]
theorem ZL (w:L.Sq Ab) (gr:Int) (b:Nat) {p:Nat} (hp:1<=p):DF w gr b (p+1)=DF w gr b p++(if G2 b p=true then Q3 w gr b p else []):=by
 unfold DF;rw[Ag8,Agx,Ag2,AfS];congr 2
 by_cases h:G2 b p=true
 ·rw[if_pos h];simp[h,hp]
 ·rw[if_neg h];simp[h]
theorem Abj (w:L.Sq Ab) (gr:Int) (b p:Nat):F2 w gr b p 0=DF w gr b p:=by unfold F2 Fg;simp
theorem Abk (w:L.Sq Ab) (gr:Int) {b p:Nat} (hp:1<=p) (hs:G2 b p=true):F2 w gr b p (AW w gr p).length=DF w gr b (p+1):=by
 rw[ZL w gr b hp,if_pos hs];unfold F2 Q3;rw[AgX]
theorem Abl (w:L.Sq Ab) (gr:Int) (b p i:Nat):Es w gr b p i 0=F2 w gr b p i:=by unfold Es;simp
theorem Abm (w:L.Sq Ab) (gr:Int) (b p i:Nat) {k:Nat} (hk:k<(AW w gr ((b:Int)-p)).length):Es w gr b p i (k+1)=Es w gr b p i k++FJ ((Ae w gr p).g i) ((Ae w gr ((b:Int)-p)).g k):=by
 unfold Es;rw[AgN,oE hk,Ag2,AfS];have:(Ae w gr ((b:Int)-p)).g k=(AW w gr ((b:Int)-p))[k]:=LD hk;rw[this];simp
theorem Abn (w:L.Sq Ab) (gr:Int) (b p:Nat) {i:Nat} (hi:i<(AW w gr p).length):Es w gr b p i (AW w gr ((b:Int)-p)).length=F2 w gr b p (i+1):=by
 unfold Es F2;rw[AgX,AgN,oE hi];have:(Ae w gr p).g i=(AW w gr p)[i]:=LD hi;rw[this];unfold Fg;rw[Ag2,AfS];simp
def Q6 (n b:Nat):Bool:=if Bs b=true then decide (BY b n = [AI b])&&decide (AI b<n)&&((Afm b).all fun q=>!(decide (1<=q)&&G2 b q))else !decide ((BY b n).length=1)
theorem Abo:((Afm 5).all fun n=>(Afm (2 ^ n)).all fun b=>decide (b=0)||Q6 n b)=true:=by kernel_rfl
theorem Abp {n b:Nat} (hn:n<=4) (hb:1<=b) (hb':b<2 ^ n):Q6 n b=true:=by
 have h:=Afj.1 (Afj.1 Abo n (Afl.2 (by omega))) b (Afl.2 hb');rw[AfE,decide_eq_true_eq]at h;rcases h with h|h
 ·omega
 ·exact h
def ZM (b:Nat):Bool:=((Afm b).all fun q=>!(decide (1<=q)&&G2 b q)||(Afm (AD b)).any fun k=>(decide (Al b k=q)&&decide (AO b k=(b:Int)-q))||(decide (AO b k=q)&&decide (Al b k=(b:Int)-q))) &&
 (Afm (AD b)).all fun k=>decide (1<=(Al b k).toNat)&&(decide ((Al b k).toNat<b)&&(G2 b (Al b k).toNat&&(decide ((((Al b k).toNat:Nat):Int)=Al b k)&&decide (AO b k=(b:Int)-(Al b k).toNat))))
theorem Abq:((Afm 16).all ZM)=true:=by kernel_rfl
theorem Abr {w:L.Sq Ab} {gr:Int} {b:Nat} {s:Ac} (ht:Dt w gr b 2 = []):∀p,Cu.cov (DF w gr b p) s↔∃q,q<p/\1<=q/\G2 b q=true/\Jn (Cu.cov (AW w gr q)) (Cu.cov (AW w gr ((b:Int)-q))) s:=fun p=>by
 unfold DF;rw[ht,List.nil_append];constructor
 ·rintro⟨x,hx,hle⟩;obtain⟨q,hq,hx⟩:=AfO.1 hx;obtain⟨h1,h2⟩:=Afh.1 hq;rw[nT,decide_eq_true_eq]at h2;exact⟨q,Afl.1 h1,h2.1,h2.2,Qv.1 ⟨x,hx,hle⟩⟩
 ·rintro⟨q,h1,h2,h3,h4⟩;obtain⟨x,hx,hle⟩:=Qv.2 h4;exact⟨x,AfO.2 ⟨q,Afh.2 ⟨Afl.2 h1,by rw[nT,decide_eq_true_eq];exact⟨h2,h3⟩⟩,hx⟩,hle⟩
theorem Abs {w:L.Sq Ab} {gr:Int} {b:Nat} (hn:w.n<=4) (hb:1<=b) (hb':b<2 ^ w.n) (h15:b<=15):Cu.stair (DF w gr b b)=AW w gr b:=by
 have hc:=Abp hn hb hb';unfold Q6 at hc;cases h1:Bs (b:Int)with
 |true =>
   rw[if_pos h1,nT,nT,decide_eq_true_eq,decide_eq_true_eq]at hc;obtain⟨⟨c1,c2⟩,c3⟩:=hc;have e0:B5 w b=D0 w [AI b]:=by unfold B5;rw[c1]
   have e1:(B5 w b).n=1:=by rw[e0];rfl
   have e2:(B5 w b).g 0=w.g (AI b):=by rw[e0];rfl
   have e3:DF w gr b b=Dt w gr b 2:=by
    unfold DF;have:(Afm b).filter (fun q=>decide (1<=q)&&G2 b q)= []:=List.filter_eq_nil_iff.2 fun q hq=>by
     have h3:=Afj.1 c3 q hq;rw[AfA]at h3;rw[h3];decide
    rw[this,List.flatMap_nil,Aga]
   rw[e3,Ko w gr (by omega) (by omega) h1];unfold Dt;rw[if_pos e1,e2];rfl
 |false =>
   rw[if_neg (by rw[h1];decide)]at hc;have e1:¬ (B5 w b).n=1:=by
    have:¬ (BY b w.n).length=1:=by simpa using hc
    exact this
   rw[Ji w gr (by omega) (by omega) h1];refine Cu.stair_congr fun s=>?_;rw[Abr (Q5 e1 2),Qw];have hr:=Afj.1 Abq b (Afl.2 (by omega));unfold ZM at hr;rw[nT]at hr;obtain⟨r1,r2⟩:=hr;constructor
   ·rintro⟨q,q1,q2,q3,q4⟩;have:=Afj.1 r1 q (Afl.2 q1);rw[decide_eq_true q2,q3,Bool.and_self,Bool.not_true,Bool.false_or]at this;obtain⟨k,hk,h⟩:=Ag5.1 this;rw[AfE,nT,nT,decide_eq_true_eq,decide_eq_true_eq,decide_eq_true_eq,decide_eq_true_eq]at h;rcases h with ⟨h1,h2⟩|⟨h1,h2⟩
    ·exact⟨k,Afl.1 hk,by rw[h1,h2];exact q4⟩
    ·exact⟨k,Afl.1 hk,by rw[h1,h2];exact q4.symm⟩
   ·rintro⟨k,hk,h⟩;have:=Afj.1 r2 k (Afl.2 hk);simp only[nT,decide_eq_true_eq]at this;obtain⟨a1,a2,a3,a4,a5⟩:=this;exact⟨(Al b k).toNat,a2,a1,a3,by rw[<- a5,a4];exact h⟩
def GS (C:List Ac):Prop:=∀x,x∈C->0<=x.w/\x.w<=122880
theorem Q7 {C:List Ac} (h:GS C):(Ce C).n<=1000000:=by
 have:=Abf (Cu.stair_ok C).1 (m:=122880) (fun x hx=>h x (Qi hx));show(Cu.stair C).length<=_;omega
theorem NC {A B:List Ac} (h:GS A) (k:GS B):GS (A++B):=fun x hx=>by
 rcases List.mem_append.1 hx with hx|hx
 ·exact h x hx
 ·exact k x hx
theorem ZN (w:L.Sq Ab) (gr:Int) (b t:Nat):GS (Dt w gr b t):=fun x hx=>by
 unfold Dt at hx;split at hx
 ·unfold NB at hx;obtain⟨u,_,rfl⟩:=Afi.1 hx;have:=Qk ((B5 w b).g 0).ol u;omega
 ·cases hx
theorem Iu (w:L.Sq Ab) (gr:Int) {q:Int} (h0:0<=q) (h1:q<=15):∀s,s∈AW w gr q->0<=s.w/\s.w<=61440/\0<=s.h/\s.h<=61440:=fun s hs=>by
 have:=(Jk w gr h0 h1).bd s hs;omega
theorem ZO {a b:Ac} (ha:0<=a.w/\a.w<=61440/\0<=a.h/\a.h<=61440) (hb:0<=b.w/\b.w<=61440/\0<=b.h/\b.h<=61440):GS (FJ a b):=fun x hx=>by
 unfold FJ at hx;rcases Afk.1 hx with rfl|hx
 ·show 0<=a.w+b.w/\a.w+b.w<=122880;omega
 ·rw[Afr.1 hx];show 0<=max a.w b.w/\max a.w b.w<=122880;omega
theorem ZP {A B:List Ac} (hA:∀s,s∈A->0<=s.w/\s.w<=61440/\0<=s.h/\s.h<=61440) (hB:∀s,s∈B->0<=s.w/\s.w<=61440/\0<=s.h/\s.h<=61440):GS (Fg A B):=fun x hx=>by
 unfold Fg at hx;obtain⟨a,ha,hx⟩:=AfO.1 hx;obtain⟨b,hb,hx⟩:=AfO.1 hx;exact ZO (hA a ha) (hB b hb) x hx
theorem Abt (w:L.Sq Ab) (gr:Int) {b p:Nat} (hb:b<=15) (hp:p<=b):GS (DF w gr b p):=NC (ZN w gr b 2) fun x hx=>by
 obtain⟨q,hq,hx⟩:=AfO.1 hx;have:=Afl.1 (Afh.1 hq).1;exact ZP (Iu w gr (by omega) (by omega)) (Iu w gr (by omega) (by omega)) x hx
theorem Abu (w:L.Sq Ab) (gr:Int) {b p:Nat} (hb:b<=15) (hp:p<b) (i:Nat):GS (F2 w gr b p i):=NC (Abt w gr hb (by omega)) (ZP (fun s hs=>Iu w gr (by omega) (by omega) s (List.mem_of_mem_take hs)) (Iu w gr (by omega) (by omega)))
theorem ZQ (w:L.Sq Ab) (gr:Int) {b p i:Nat} (hb:b<=15) (hp:p<b) (hi:i<(AW w gr p).length) (k:Nat):GS (Es w gr b p i k):=NC (Abu w gr hb hp i) fun x hx=>by
 obtain⟨y,hy,hx⟩:=AfO.1 hx;exact ZO (Iu w gr (by omega) (by omega) _ (Is (show i<(Ae w gr p).n from hi))) (Iu w gr (by omega) (by omega) y (List.mem_of_mem_take hy)) x hx
section
attribute [local irreducible] EQ AW
def ZR (w:(L.Sq Ab)) (gr:Int):Prop:=B7 w
def ZS (w:(L.Sq Ab)) (gr:Int):SV:=.sl 1 (Cn w) (fun k=>[.sl 2 (Ae w gr (k:Int)).n (fun i=>[.int .i64 (((Ae w gr (k:Int)).g i).w),.int .i64 (((Ae w gr (k:Int)).g i).h)])])
def ZT:List EV->Option (Prop×SV)
 |[.p (.sl 4 w_n w_g),.p (.int .i64 gr)]=>some ((∀i,i<w_n->DD (w_g i))/\ZR (⟨w_n,fun i=>B6 (w_g i)⟩:(L.Sq Ab)) gr,ZS (⟨w_n,fun i=>B6 (w_g i)⟩:(L.Sq Ab)) gr)
 |_=>none
abbrev ND:SE.Spec:=(AK ZT)
def Abv:Ak:={ cC with muts:=[13,14,17],specs:=AB [(78,Q1),(79,PX),(81,PV),(80,ZJ)] }
theorem Abw (w:(L.Sq Ab)) (gr:Int) (hp:ZR w gr):vc Tryz.prog ({ Abv with loops:=AV [(3,{ T:=Nat,keep:=[0,1,5],keepO:=[],chg:=fun b=>[(6,.p (.int .i64 (b:Int)))],own:=fun b=>[(17,.row 27 1 b (fun k=>[.sl 2 (Ae w gr (k:Int)).n (fun i=>[.int .i64 (((Ae w gr (k:Int)).g i).w),.int .i64 (((Ae w gr (k:Int)).g i).h)])]))],inv:=fun b=>1<=b/\b<=Cn w,mu:=fun b=>Cn w-b }),(8,{ T:=Nat×Nat,keep:=[0,1,5,6,8],keepO:=[17],chg:=fun t=>[(7,.p (.sl 2 (Ce (Dt w gr t.2 t.1)).n (fun i=>[.int .i64 (((Ce (Dt w gr t.2 t.1)).g i).w),.int .i64 (((Ce (Dt w gr t.2 t.1)).g i).h)]))),(9,.p (.int .i64 (t.1:Int)))],own:=fun _=>[],inv:=fun t=>t.1<=2,mu:=fun t=>2-t.1,tie:=fun t=>[(6,.int .i64 (t.2:Int))] }),(13,{ T:=Nat×Nat,keep:=[0,1,5,6],keepO:=[17],chg:=fun t=>[(7,.p (.sl 2 (Ce (DF w gr t.2 t.1)).n (fun i=>[.int .i64 (((Ce (DF w gr t.2 t.1)).g i).w),.int .i64 (((Ce (DF w gr t.2 t.1)).g i).h)]))),(10,.p (.int .i64 (t.1:Int)))],own:=fun _=>[],inv:=fun t=>1<=t.1/\t.1<=t.2,mu:=fun t=>t.2-t.1,tie:=fun t=>[(6,.int .i64 (t.2:Int))] }),(17,{ T:=Nat×Nat×Nat,keep:=[0,1,5,6,10],keepO:=[17],chg:=fun t=>[(7,.p (.sl 2 (Ce (F2 w gr t.2.1 t.2.2 t.1)).n (fun i=>[.int .i64 (((Ce (F2 w gr t.2.1 t.2.2 t.1)).g i).w),.int .i64 (((Ce (F2 w gr t.2.1 t.2.2 t.1)).g i).h)]))),(11,.p (.int .i64 (t.1:Int)))],own:=fun _=>[],inv:=fun t=>t.1<=(Ae w gr t.2.2).n,mu:=fun t=>(Ae w gr t.2.2).n-t.1,tie:=fun t=>[(6,.int .i64 (t.2.1:Int)),(10,.int .i64 (t.2.2:Int))] }),(20,{ T:=Nat×Nat×Nat×Nat,keep:=[0,1,5,6,10,11],keepO:=[17],chg:=fun t=>[(7,.p (.sl 2 (Ce (Es w gr t.2.1 t.2.2.1 t.2.2.2 t.1)).n (fun i=>[.int .i64 (((Ce (Es w gr t.2.1 t.2.2.1 t.2.2.2 t.1)).g i).w),.int .i64 (((Ce (Es w gr t.2.1 t.2.2.1 t.2.2.2 t.1)).g i).h)]))),(12,.p (.int .i64 (t.1:Int)))],own:=fun _=>[],inv:=fun t=>t.1<=(Ae w gr ((t.2.1:Int)-t.2.2.1)).n,mu:=fun t=>(Ae w gr ((t.2.1:Int)-t.2.2.1)).n-t.1,tie:=fun t=>[(6,.int .i64 (t.2.1:Int)),(10,.int .i64 (t.2.2.1:Int)),(11,.int .i64 (t.2.2.2:Int))] })],rfs:=AT [] }) (Ah Tryz.f40) (Ap Tryz.f40 [.p (.sl 4 w.n (fun i=>[.int .i64 ((w.g i).id),.int .i64 ((w.g i).colour),.int .i64 ((w.g i).grain),.sl 2 (w.g i).ol.n (fun i1=>[.int .i64 (((w.g i).ol.g i1).x),.int .i64 (((w.g i).ol.g i1).y)])])),.p (.int .i64 gr)]) (AJ Tryz.prog Tryz.f40 (ZS w gr)):=
 @Eq.mpr _ (let I:=SV.int .i64;let T:=Af1;let A52:=(↑w.n:Int);let A49:=(1000000:Nat);let A48:=(1:Nat);let A28:=(2:Nat);let A24:=(0:Int);let A22:=(1:Int);let A2:=(w.n=w.n/\∀(i:Nat),let A17:=[I (w.g i).id,I (w.g i).colour,I (w.g i).grain,SV.sl A28 (w.g i).ol.n fun(i1:Nat)=>[I ((w.g i).ol.g i1).x,I ((w.g i).ol.g i1).y]];i<w.n->A17=A17);(∃(g:Nat),A22=(↑g:Int)/\(nat_lit 1=g/\∀(i:Nat),let A42:=(Ae w gr (↑i:Int));i<nat_lit 1->BX [SV.sl (nat_lit 2) (nat_lit 1) fun(x:Nat)=>[I A24,I A24]] (nat_lit 1) i = [SV.sl A28 A42.n fun(i_1:Nat)=>[I (A42.g i_1).w,I (A42.g i_1).h]])/\A48<=g/\g<=Cn w)/\∀(g:Nat),let A9:=(↑g:Int);let A5:=(B5 w A9);let A51:=(A24<=A24/\A24<(↑A5.n:Int));let A15:=(A5.g (T A24));let A10:=(A5.n=A5.n/\∀(i:Nat),let A16:=[I (A5.g i).id,I (A5.g i).colour,I (A5.g i).grain,SV.sl A28 (A5.g i).ol.n fun(i_1:Nat)=>[I ((A5.g i).ol.g i_1).x,I ((A5.g i).ol.g i_1).y]];i<A5.n->A16=A16);let A3:=(g=g/\∀(i:Nat),let A43:=(Ae w gr (↑i:Int));let A18:=[SV.sl A28 A43.n fun(i_1:Nat)=>[I (A43.g i_1).w,I (A43.g i_1).h]];i<g->A18=A18);A48<=g/\g<=Cn w->A24<=A52/\Ad .i64 (BJ A22 A52)/\(decide (A9<BJ A22 A52)=true->((∀(i:Nat),i<w.n->∀(i_1:Nat),let A41:=((w.g i).ol.g i_1);i_1<(w.g i).ol.n -> [I A41.x,I A41.y]= [I A41.x,I A41.y])/\w.n<=(1000:Nat))/\(∃(g_1:Nat×Nat),(Ce (Dt w gr g_1.2 g_1.1)).n=(0:Nat)/\A24=(↑g_1.1:Int)/\A9=(↑g_1.2:Int)/\g_1.1<=A28)/\∀(g_1:Nat×Nat),let A20:=(↑g_1.1:Int);let A27:=(bif decide (A20<(2:Int))then decide ((↑A5.n:Int)=A22)else false);let A8:=(Ce (Dt w gr g_1.2 g_1.1));let A29:=(Er A8 (Bv A15.ol A20));A9=(↑g_1.2:Int)/\g_1.1<=A28->(A27=true->A51/\True/\(Cz A15.grain gr A20=true->A51/\((∀(i:Nat),let A50:=[I (A15.ol.g i).x,I (A15.ol.g i).y];i<A15.ol.n->A50=A50)/\A15.ol.n<=A49)/\((∀(i:Nat),let A56:=[I (A8.g i).w,I (A8.g i).h];i<A8.n->A56=A56)/\A8.n<=A49)/\Ad .i64 (A20+A22)/\∃(g':Nat×Nat),let A35:=(Ce (Dt w gr g'.2 g'.1));(A29.n=A35.n/\∀(i:Nat),i<A29.n -> [I (A29.g i).w,I (A29.g i).h]= [I (A35.g i).w,I (A35.g i).h])/\A20+A22=(↑g'.1:Int)/\A10/\A9=A9/\A2/\gr=gr/\A3/\(A9=(↑g'.2:Int)/\g'.1<=A28)/\A28-g'.1<A28-g_1.1)/\(Cz A15.grain gr A20=false->Ad .i64 (A20+A22)/\∃(g':Nat×Nat),let A36:=(Ce (Dt w gr g'.2 g'.1));(A8.n=A36.n/\∀(i:Nat),i<A8.n -> [I (A8.g i).w,I (A8.g i).h]= [I (A36.g i).w,I (A36.g i).h])/\A20+A22=(↑g'.1:Int)/\A10/\A9=A9/\A2/\gr=gr/\A3/\(A9=(↑g'.2:Int)/\g'.1<=A28)/\A28-g'.1<A28-g_1.1))/\(A27=false->(∃(g_2:Nat×Nat),let A34:=(Ce (DF w gr g_2.2 g_2.1));(A8.n=A34.n/\∀(i:Nat),i<A8.n -> [I (A8.g i).w,I (A8.g i).h]= [I (A34.g i).w,I (A34.g i).h])/\A22=(↑g_2.1:Int)/\A9=(↑g_2.2:Int)/\A48<=g_2.1/\g_2.1<=g_2.2)/\∀(g_2:Nat×Nat),let A11:=(Ce (DF w gr g_2.2 g_2.1));let A6:=(↑g_2.1:Int);let A59:=(A9-A6);let A54:=(A24<=A9-A6/\A9-A6<A9);let A44:=(!decide (D6 A6 A9=A6));let A31:=(Ae w gr (↑(T A6):Int));let A60:=(↑A31.n:Int);let A26:=(Ae w gr (↑(T A59):Int));let A61:=(↑A26.n:Int);A9=(↑g_2.2:Int)/\A48<=g_2.1/\g_2.1<=g_2.2->(decide (A6<A9)=true->(A44=true->Ad .i64 (A6+A22)/\∃(g':Nat×Nat),let A37:=(Ce (DF w gr g'.2 g'.1));(A11.n=A37.n/\∀(i:Nat),i<A11.n -> [I (A11.g i).w,I (A11.g i).h]= [I (A37.g i).w,I (A37.g i).h])/\A6+A22=(↑g'.1:Int)/\A9=A9/\A2/\gr=gr/\A3/\(A9=(↑g'.2:Int)/\A48<=g'.1/\g'.1<=g'.2)/\g'.2-g'.1<g_2.2-g_2.1)/\(A44=false->(∃(g_3:Nat×Nat×Nat),let A30:=(Ce (F2 w gr g_3.2.1 g_3.2.2 g_3.1));(A11.n=A30.n/\∀(i:Nat),i<A11.n -> [I (A11.g i).w,I (A11.g i).h]= [I (A30.g i).w,I (A30.g i).h])/\A24=(↑g_3.1:Int)/\A9=(↑g_3.2.1:Int)/\A6=(↑g_3.2.2:Int)/\g_3.1<=(Ae w gr (↑g_3.2.2:Int)).n)/\∀(g_3:Nat×Nat×Nat),let A53:=(Ae w gr (↑g_3.2.2:Int));let A21:=(↑g_3.1:Int);let A14:=(A31.g (T A21));let A13:=(Ce (F2 w gr g_3.2.1 g_3.2.2 g_3.1));A9=(↑g_3.2.1:Int)/\A6=(↑g_3.2.2:Int)/\g_3.1<=A53.n->(A24<=A6/\A6<A9)/\T A6<g/\(decide (A21<A60)=true->(∃(g_4:Nat×Nat×Nat×Nat),let A23:=(Ce (Es w gr g_4.2.1 g_4.snd.2.1 g_4.snd.2.2 g_4.1));(A13.n=A23.n/\∀(i:Nat),i<A13.n -> [I (A13.g i).w,I (A13.g i).h]= [I (A23.g i).w,I (A23.g i).h])/\A24=(↑g_4.1:Int)/\A9=(↑g_4.2.1:Int)/\A6=(↑g_4.snd.2.1:Int)/\A21=(↑g_4.snd.2.2:Int)/\g_4.1<=(Ae w gr ((↑g_4.2.1:Int)-(↑g_4.snd.2.1:Int))).n)/\∀(g_4:Nat×Nat×Nat×Nat),let A39:=(Ae w gr ((↑g_4.2.1:Int)-(↑g_4.snd.2.1:Int)));let A33:=(↑g_4.1:Int);let A12:=(A26.g (T A33));let A7:=(Ce (Es w gr g_4.2.1 g_4.snd.2.1 g_4.snd.2.2 g_4.1));let A1:=(Er A7 (Ac.mk (A14.w+A12.w) (Max.max A14.h A12.h)));let A4:=(Er A1 (Ac.mk (Max.max A14.w A12.w) (A14.h+A12.h)));A9=(↑g_4.2.1:Int)/\A6=(↑g_4.snd.2.1:Int)/\A21=(↑g_4.snd.2.2:Int)/\g_4.1<=A39.n->Ad .i64 A59/\A54/\T A59<g/\(decide (A33<A61)=true->(A24<=A6/\A6<A9)/\T A6<g/\(A24<=A21/\A21<A60)/\Ad .i64 A59/\A54/\T A59<g/\(A24<=A33/\A33<A61)/\Ad .i64 (A14.w+A12.w)/\((∀(i:Nat),let A57:=[I (A7.g i).w,I (A7.g i).h];i<A7.n->A57=A57)/\A7.n<=A49)/\Ad .i64 (A14.h+A12.h)/\((∀(i:Nat),let A58:=[I (A1.g i).w,I (A1.g i).h];i<A1.n->A58=A58)/\A1.n<=A49)/\Ad .i64 (A33+A22)/\∃(g':Nat×Nat×Nat×Nat),let A40:=(Ae w gr ((↑g'.2.1:Int)-(↑g'.snd.2.1:Int)));let A25:=(Ce (Es w gr g'.2.1 g'.snd.2.1 g'.snd.2.2 g'.1));(A4.n=A25.n/\∀(i:Nat),i<A4.n -> [I (A4.g i).w,I (A4.g i).h]= [I (A25.g i).w,I (A25.g i).h])/\A33+A22=(↑g'.1:Int)/\A21=A21/\A6=A6/\A9=A9/\A2/\gr=gr/\A3/\(A9=(↑g'.2.1:Int)/\A6=(↑g'.snd.2.1:Int)/\A21=(↑g'.snd.2.2:Int)/\g'.1<=A40.n)/\A40.n-g'.1<A39.n-g_4.1)/\(decide (A33<A61)=false->Ad .i64 (A21+A22)/\∃(g':Nat×Nat×Nat),let A55:=(Ae w gr (↑g'.2.2:Int));let A32:=(Ce (F2 w gr g'.2.1 g'.2.2 g'.1));(A7.n=A32.n/\∀(i:Nat),i<A7.n -> [I (A7.g i).w,I (A7.g i).h]= [I (A32.g i).w,I (A32.g i).h])/\A21+A22=(↑g'.1:Int)/\A6=A6/\A9=A9/\A2/\gr=gr/\A3/\(A9=(↑g'.2.1:Int)/\A6=(↑g'.2.2:Int)/\g'.1<=A55.n)/\A55.n-g'.1<A53.n-g_3.1))/\(decide (A21<A60)=false->Ad .i64 (A6+A22)/\∃(g':Nat×Nat),let A38:=(Ce (DF w gr g'.2 g'.1));(A13.n=A38.n/\∀(i:Nat),i<A13.n -> [I (A13.g i).w,I (A13.g i).h]= [I (A38.g i).w,I (A38.g i).h])/\A6+A22=(↑g'.1:Int)/\A9=A9/\A2/\gr=gr/\A3/\(A9=(↑g'.2:Int)/\A48<=g'.1/\g'.1<=g'.2)/\g'.2-g'.1<g_2.2-g_2.1)))/\(decide (A6<A9)=false->(g+nat_lit 1)*nat_lit 24<=(140737488355328:Nat)/\Ad .i64 (A9+A22)/\∃(g':Nat),A9+A22=(↑g':Int)/\A2/\gr=gr/\(g+nat_lit 1=g'/\∀(i:Nat),let A46:=(Ae w gr (↑i:Int));i<g+nat_lit 1->AU g (fun(k:Nat)=>let A45:=(Ae w gr (↑k:Int));[SV.sl A28 A45.n fun(i:Nat)=>[I (A45.g i).w,I (A45.g i).h]]) (fun(x:Nat)=>[SV.sl (nat_lit 2) A11.n fun(i:Nat)=>[I (A11.g i).w,I (A11.g i).h]]) i = [SV.sl A28 A46.n fun(i_1:Nat)=>[I (A46.g i_1).w,I (A46.g i_1).h]])/\(A48<=g'/\g'<=Cn w)/\Cn w-g'<Cn w-g)))/\(decide (A9<BJ A22 A52)=false->g=Cn w/\∀(i:Nat),let A47:=(Ae w gr (↑i:Int));let A19:=[SV.sl A28 A47.n fun(i_1:Nat)=>[I (A47.g i_1).w,I (A47.g i_1).h]];i<g->A19=A19)) (by kernel_rfl) (by
 conv=>zeta
 have hok:B7 w:=hp;obtain⟨hn4,hol⟩:=hok;obtain⟨a1,a2,a3,a4⟩:=G0 hn4;have nE:(Cn w:Int)=BJ 1 w.n:=Ags a3;have nP:Cn w=2 ^ w.n:=by
  unfold Cn;have h:∀n,n<=4->(BJ 1 (n:Nat)).toNat=2 ^ n:=fun n hn=>by
   have:n=0\/n=1\/n=2\/n=3\/n=4:=by omega
   rcases this with rfl|rfl|rfl|rfl|rfl<;>rfl
  exact h w.n hn4
 have ol:∀i,i<w.n->∀j,j<(w.g i).ol.n -> [SV.int .i64 ((w.g i).ol.g j).x,SV.int .i64 ((w.g i).ol.g j).y]= [SV.int .i64 ((w.g i).ol.g j).x,SV.int .i64 ((w.g i).ol.g j).y]:=fun _ _ _ _=>rfl;have eqS:∀(x y:L.Sq Ac),x=y->x.n=y.n/\∀i,i<x.n -> [SV.int .i64 (x.g i).w,SV.int .i64 (x.g i).h]= [SV.int .i64 (y.g i).w,SV.int .i64 (y.g i).h]:=fun x y h=>by subst h;exact⟨rfl,fun _ _=>rfl⟩
 refine⟨⟨1,rfl,⟨rfl,fun i hi=>?_⟩,Afo _,by rw[nP];exact Nat.one_le_two_pow⟩,fun b hb=>?_⟩
 ·have hi:i<1:=hi;obtain rfl:i=0:=by omega
  have e:Ae w gr ((0:Nat):Int)=AC [⟨0,0⟩]:=by unfold Ae;rw[show(((0:Nat):Int))=0 from rfl,Kn]
  rw[e];exact congrArg (fun g=>[SV.sl 2 1 g]) (funext fun i=>by
   show [SV.int .i64 0,SV.int .i64 0]= [SV.int .i64 (List.getD [(⟨0,0⟩:Ac)] i ⟨0,0⟩).w,SV.int .i64 (List.getD [(⟨0,0⟩:Ac)] i ⟨0,0⟩).h];cases i<;>rfl)
 obtain⟨hb1,hbN⟩:=hb;refine⟨by omega,jK,fun hc=>?_,fun hc=>?_⟩;rotate_left
 ·have hc:¬ (b:Int)<BJ 1 w.n:=of_decide_eq_false hc;exact⟨by omega,fun _ _=>rfl⟩
 have hc:(b:Int)<BJ 1 w.n:=of_decide_eq_true hc;have hbn:b<2 ^ w.n:=by rw[<- nP];omega
 have b15:b<=15:=by omega
 have kb:Ad .i64 ((b:Int)+1):=jK;have cb:(b:Int)+1=((b+1:Nat):Int):=by omega
 have fin:Ce (DF w gr b b)=Ae w gr b:=by unfold Ce Ae;rw[Abs hn4 hb1 hbn b15]
 have z0:Dt w gr b 0 = []:=by unfold Dt;split<;>rfl
 refine⟨⟨ol,by omega⟩,⟨(0,b),(by(try dsimp only);(repeat' with_reducible apply And.intro)<;>first|with_reducible rfl|with_reducible exact Afg _|with_reducible exact fun _=>rfl|with_reducible exact fun _ _=>rfl|with_reducible exact trivial|exact rfl|(intro _;exact rfl)|(intro _ _;exact rfl)|exact Afg _|exact(by rw[z0];rfl)|exact trivial|(intro _ h_;exact absurd h_ (Rc _)))⟩,fun t ht=>?_⟩;obtain⟨t,b2⟩:=t;obtain⟨tb1,tt⟩:=ht;have tb1:(b:Int)=(b2:Int):=tb1;obtain rfl:b=b2:=by omega
 have tt:t<=2:=tt;dsimp only;refine⟨fun hg=>?_,fun hg=>?_⟩
 ·rw[GR,nT,decide_eq_true_eq,decide_eq_true_eq]at hg;obtain⟨t2,s1⟩:=hg;have t2:t<2:=by omega
  have s1:(B5 w b).n=1:=by omega
  have i0:(0:Int)<=0/\(0:Int)<((B5 w b).n:Int):=by omega
  have hx:((B5 w b).g 0).ol.n<=1000000:=by
   have hlen:(BY b w.n).length=1:=s1;have hm:(BY b w.n).getD 0 0∈BY b w.n:=by
    rw[AS,oE (by omega)];exact Af3 _
   exact hol _ (Afl.1 (Afh.1 hm).1)
  have nx:=Abh (gr:=gr) s1 t2;have k1:Ad .i64 ((t:Int)+1):=jK;have ct:(t:Int)+1=((t+1:Nat):Int):=by omega
  have l1:t+1<=2:=t2;have l2:2-(t+1)<2-t:=by omega
  refine⟨i0,trivial,fun ha=>⟨i0,⟨fun _ _=>rfl,hx⟩,⟨fun _ _=>rfl,Q7 (ZN w gr b t)⟩,k1,(t+1,b),?_⟩,fun ha=>⟨k1,(t+1,b),?_⟩⟩
  ·have ha:Cz ((B5 w b).g 0).grain gr t=true:=ha;rw[if_pos ha]at nx;have q:=eqS _ _ (show Er (Ce (Dt w gr b t)) (Bv ((B5 w b).g (Af1 0)).ol t)=Ce (Dt w gr b (t+1))by rw[Q4,nx];rfl);exact(by(try dsimp only);(repeat' with_reducible apply And.intro)<;>first|with_reducible rfl|with_reducible assumption|with_reducible exact q.1|with_reducible exact q.2|with_reducible exact fun _=>rfl|with_reducible exact fun _ _=>rfl|with_reducible exact trivial|exact rfl|(intro _;exact rfl)|(intro _ _;exact rfl)|exact q.1|exact q.2|exact ct|exact l1|exact l2|exact trivial|(intro _ h_;exact absurd h_ (Rc _)))
  ·have ha:Cz ((B5 w b).g 0).grain gr t=false:=ha;rw[if_neg (by rw[ha];decide),Aga]at nx;rw[nx];exact(by(try dsimp only);(repeat' with_reducible apply And.intro)<;>first|with_reducible rfl|with_reducible assumption|with_reducible exact fun _=>rfl|with_reducible exact fun _ _=>rfl|with_reducible exact trivial|exact rfl|(intro _;exact rfl)|(intro _ _;exact rfl)|exact ct|exact l1|exact l2|exact trivial|(intro _ h_;exact absurd h_ (Rc _)))
 have hT:Dt w gr b t=Dt w gr b 2:=by
  by_cases s1:(B5 w b).n=1
  ·have : t = 2 :=by
    rw[GR,Bool.and_eq_false_iff,decide_eq_false_iff_not,decide_eq_false_iff_not]at hg;omega
   rw[this]
  ·rw[Q5 s1,Q5 s1]
 rw[hT,<- Abi];refine⟨⟨(1,b),(by(try dsimp only);(repeat' with_reducible apply And.intro)<;>first|with_reducible rfl|with_reducible assumption|with_reducible exact Afo _|with_reducible exact fun _=>rfl|with_reducible exact fun _ _=>rfl|with_reducible exact trivial|exact rfl|(intro _;exact rfl)|(intro _ _;exact rfl)|exact Afo _|exact hb1|exact trivial|(intro _ h_;exact absurd h_ (Rc _)))⟩,fun t ht=>?_⟩;obtain⟨p,b2⟩:=t;obtain⟨tb1,p1,pb⟩:=ht;have tb1:(b:Int)=(b2:Int):=tb1;obtain rfl:b=b2:=by omega
 have p1:1<=p:=p1;have pb:p<=b:=pb;have kp:Ad .i64 ((p:Int)+1):=jK;have cp:(p:Int)+1=((p+1:Nat):Int):=by omega
 dsimp only;refine⟨fun hc2=>?_,fun hc2=>?_⟩;rotate_left
 ·have hc2:¬ (p:Int)<(b:Int):=of_decide_eq_false hc2;obtain rfl:p=b:=by omega
  rw[fin];have g1:p+1<=Cn w:=by omega
  have g2:Cn w-(p+1)<Cn w-p:=by omega
  have g0:1<=p+1:=by omega
  have rows:∀i,i<p+1->AU p (fun(k:Nat)=>[SV.sl 2 (Ae w gr k).n fun(i:Nat)=>[SV.int .i64 ((Ae w gr k).g i).w,SV.int .i64 ((Ae w gr k).g i).h]]) (fun _=>[SV.sl 2 (Ae w gr p).n fun(i:Nat)=>[SV.int .i64 ((Ae w gr p).g i).w,SV.int .i64 ((Ae w gr p).g i).h]]) i = [SV.sl 2 (Ae w gr i).n fun(j:Nat)=>[SV.int .i64 ((Ae w gr i).g j).w,SV.int .i64 ((Ae w gr i).g j).h]]:=fun i hi=>by
   unfold AU
   by_cases h:i<p
   ·rw[if_pos h]
   ·rw[if_neg h];obtain rfl:i=p:=by omega
    rfl
  exact⟨by omega,kb,p+1,(by(try dsimp only);(repeat' with_reducible apply And.intro)<;>first|with_reducible rfl|with_reducible assumption|with_reducible exact fun _=>rfl|with_reducible exact fun _ _=>rfl|with_reducible exact trivial|exact rfl|(intro _;exact rfl)|(intro _ _;exact rfl)|exact rows|exact cb|exact g0|exact g1|exact g2|exact trivial|(intro _ h_;exact absurd h_ (Rc _)))⟩
 have hc2:(p:Int)<(b:Int):=of_decide_eq_true hc2;have plt:p<b:=by omega
 have pe:((p:Int)).toNat=p:=Afy p;have be:((((b:Int)-(p:Int)).toNat:Nat):Int)=(b:Int)-p:=by omega
 have nx:=ZL w gr b p1;have l1:p+1<=b:=plt;have l2:b-(p+1)<b-p:=by omega
 have l0:1<=p+1:=by omega
 refine⟨fun hs=>⟨kp,(p+1,b),?_⟩,fun hs=>⟨⟨(0,b,p),?_⟩,fun t ht=>?_⟩⟩
 ·have hs:G2 b p=false:=Cx hs;rw[if_neg (by rw[hs];decide),Aga]at nx;rw[nx];exact(by(try dsimp only);(repeat' with_reducible apply And.intro)<;>first|with_reducible rfl|with_reducible assumption|with_reducible exact fun _=>rfl|with_reducible exact fun _ _=>rfl|with_reducible exact trivial|exact rfl|(intro _;exact rfl)|(intro _ _;exact rfl)|exact cp|exact l0|exact l1|exact l2|exact trivial|(intro _ h_;exact absurd h_ (Rc _)))
 ·rw[Abj];exact(by(try dsimp only);(repeat' with_reducible apply And.intro)<;>first|with_reducible rfl|with_reducible exact Afg _|with_reducible exact fun _=>rfl|with_reducible exact fun _ _=>rfl|with_reducible exact trivial|exact rfl|(intro _;exact rfl)|(intro _ _;exact rfl)|exact Afg _|exact trivial|(intro _ h_;exact absurd h_ (Rc _)))
 have hs:G2 b p=true:=Ca hs;obtain⟨i,b2,p2⟩:=t;obtain⟨tb1,tp1,ti⟩:=ht;have tb1:(b:Int)=(b2:Int):=tb1;have tp1:(p:Int)=(p2:Int):=tp1;obtain rfl:b=b2:=by omega
 obtain rfl:p=p2:=by omega
 have ti:i<=(AW w gr p).length:=ti;have lA:=Hv w gr (g:=(p:Int)) (by omega) (by omega);have lB:=Hv w gr (g:=(b:Int)-p) (by omega) (by omega);have cp0:0<=(p:Int)/\(p:Int)<(b:Int):=by omega
 have ki:Ad .i64 ((i:Int)+1):=jK;have ci:(i:Int)+1=((i+1:Nat):Int):=by omega
 dsimp only;rw[pe];refine⟨cp0,plt,fun hc3=>?_,fun hc3=>⟨kp,(p+1,b),?_⟩⟩;rotate_left
 ·have hc3:¬ (i:Int)<((Ae w gr p).n:Int):=of_decide_eq_false hc3;have en:(Ae w gr p).n=(AW w gr p).length:=rfl;obtain rfl:i=(AW w gr p).length:=by omega
  rw[Abk w gr p1 hs];exact(by(try dsimp only);(repeat' with_reducible apply And.intro)<;>first|with_reducible rfl|with_reducible assumption|with_reducible exact fun _=>rfl|with_reducible exact fun _ _=>rfl|with_reducible exact trivial|exact rfl|(intro _;exact rfl)|(intro _ _;exact rfl)|exact cp|exact l0|exact l1|exact l2|exact trivial|(intro _ h_;exact absurd h_ (Rc _)))
 have hc3:(i:Int)<((Ae w gr p).n:Int):=of_decide_eq_true hc3;have enA:(Ae w gr p).n=(AW w gr p).length:=rfl;have enB:(Ae w gr ((b:Int)-p)).n=(AW w gr ((b:Int)-p)).length:=rfl;have ilt:i<(AW w gr p).length:=by omega
 refine⟨⟨(0,b,p,i),?_⟩,fun t ht=>?_⟩
 ·rw[Abl];exact(by(try dsimp only);(repeat' with_reducible apply And.intro)<;>first|with_reducible rfl|with_reducible exact Afg _|with_reducible exact fun _=>rfl|with_reducible exact fun _ _=>rfl|with_reducible exact trivial|exact rfl|(intro _;exact rfl)|(intro _ _;exact rfl)|exact Afg _|exact trivial|(intro _ h_;exact absurd h_ (Rc _)))
 obtain⟨k,b2,p2,i2⟩:=t;obtain⟨tb1,tp1,ti1,tk⟩:=ht;have tb1:(b:Int)=(b2:Int):=tb1;have tp1:(p:Int)=(p2:Int):=tp1;have ti1:(i:Int)=(i2:Int):=ti1;obtain rfl:b=b2:=by omega
 obtain rfl:p=p2:=by omega
 obtain rfl:i=i2:=by omega
 have tk:k<=(AW w gr ((b:Int)-p)).length:=tk;have kk:Ad .i64 ((k:Int)+1):=jK;have ck:(k:Int)+1=((k+1:Nat):Int):=by omega
 have ksub:Ad .i64 ((b:Int)-p):=jK;have csub:0<=(b:Int)-p/\(b:Int)-p<(b:Int):=by omega
 have nsub:((b:Int)-p).toNat<b:=by omega
 dsimp only;rw[be];refine⟨ksub,csub,nsub,fun hc4=>?_,fun hc4=>⟨ki,(i+1,b,p),?_⟩⟩;rotate_left
 ·have hc4:¬ (k:Int)<((Ae w gr ((b:Int)-p)).n:Int):=of_decide_eq_false hc4;obtain rfl:k=(AW w gr ((b:Int)-p)).length:=by omega
  rw[Abn w gr b p ilt];have m1:i+1<=(Ae w gr p).n:=by omega
  have m2:(Ae w gr p).n-(i+1)<(Ae w gr p).n-i:=by omega
  exact(by(try dsimp only);(repeat' with_reducible apply And.intro)<;>first|with_reducible rfl|with_reducible assumption|with_reducible exact fun _=>rfl|with_reducible exact fun _ _=>rfl|with_reducible exact trivial|exact rfl|(intro _;exact rfl)|(intro _ _;exact rfl)|exact ci|exact m1|exact m2|exact trivial|(intro _ h_;exact absurd h_ (Rc _)))
 have hc4:(k:Int)<((Ae w gr ((b:Int)-p)).n:Int):=of_decide_eq_true hc4;have klt:k<(AW w gr ((b:Int)-p)).length:=by omega
 have ie:((i:Int)).toNat=i:=Afy i;have ke:((k:Int)).toNat=k:=Afy k;have ci0:0<=(i:Int)/\(i:Int)<((Ae w gr p).n:Int):=by omega
 have ck0:0<=(k:Int)/\(k:Int)<((Ae w gr ((b:Int)-p)).n:Int):=by omega
 have bA:=Iu w gr (q:=(p:Int)) (by omega) (by omega) _ (Is (show i<(Ae w gr p).n from ilt));have bB:=Iu w gr (q:=(b:Int)-p) (by omega) (by omega) _ (Is (show k<(Ae w gr ((b:Int)-p)).n from klt));have nk:=Abm w gr b p i klt;have hbK:=ZQ w gr b15 plt ilt k;have hbK1:=ZQ w gr b15 plt ilt (k+1);rw[ie,ke];generalize (Ae w gr p).g i=x at *;generalize (Ae w gr ((b:Int)-p)).g k=y at *;have k1:Ad .i64 (x.w+y.w):=jK;have k2:Ad .i64 (x.h+y.h):=jK;have f1:Er (Ce (Es w gr b p i k)) ⟨x.w+y.w,max x.h y.h⟩=Ce (Es w gr b p i k ++ [⟨x.w+y.w,max x.h y.h⟩]):=Q4 _ _;have f2:Er (Ce (Es w gr b p i k ++ [⟨x.w+y.w,max x.h y.h⟩])) ⟨max x.w y.w,x.h+y.h⟩=Ce (Es w gr b p i (k+1)):=by
  rw[Q4,nk];unfold FJ;rw[AfS];rfl
 have hb1':GS (Es w gr b p i k ++ [⟨x.w+y.w,max x.h y.h⟩]):=NC hbK fun z hz=>by
  rw[Afr.1 hz];show 0<=x.w+y.w/\x.w+y.w<=122880;omega
 rw[f1,f2];have m1:k+1<=(Ae w gr ((b:Int)-p)).n:=by omega
 have m2:(Ae w gr ((b:Int)-p)).n-(k+1)<(Ae w gr ((b:Int)-p)).n-k:=by omega
 exact⟨cp0,plt,ci0,ksub,csub,nsub,ck0,k1,⟨fun _ _=>rfl,Q7 hbK⟩,k2,⟨fun _ _=>rfl,Q7 hb1'⟩,kk,(k+1,b,p,i),(by(try dsimp only);(repeat' with_reducible apply And.intro)<;>first|with_reducible rfl|with_reducible assumption|with_reducible exact fun _=>rfl|with_reducible exact fun _ _=>rfl|with_reducible exact trivial|exact rfl|(intro _;exact rfl)|(intro _ _;exact rfl)|exact ck|exact m1|exact m2|exact trivial|(intro _ h_;exact absurd h_ (Rc _)))⟩)
theorem Q8:Av Tryz.prog 40 ND:=AM Tryz.func40 (c:=Ah Tryz.f40) (by kernel_rfl) mixed (fun args p r hs hp=>by
 unfold ZT at hs;split at hs
 ·cases hs;exact⟨_,_,Abw _ _ hp.2,(.p (EP hp.1) (.same _ .nil)),⟨show Aa Tryz.prog _ from(Aa.cons Z9 ZA (Aa.cons XY XZ (Aa.cons X8 X9 (Aa.cons Abb Abc Aa.nil)))),rfl,⟨show Ag Tryz.prog _ from Ag.nil,(Aw.none (fun _=>rfl))⟩⟩⟩
 ·cases hs)
theorem Q9:Ao Tryz.prog 40:=fun args w=>by kernel_rfl
end
def GT (a b:Ac):Bool:=decide (a.w=b.w)&&decide (a.h=b.h)
def Hx (a b:L.Sq Ac):Bool:=bif !decide ((a.n:Int)=(b.n:Int))then false else CD a.n fun i=>GT (a.g i) (b.g i)
theorem Abx (a:L.Sq Ac):Hx a a=true:=by
 unfold Hx;rw[decide_eq_true rfl];exact CQ.2 fun i _=>by unfold GT;simp
section
attribute [local irreducible] EQ AW
def ZU (w:(L.Sq Ab)):Prop:=w.n<=1000000/\∀i,i<w.n->(w.g i).ol.n<=1000000
def ZV (w:(L.Sq Ab)):SV:=.bool (Dj w)
def ZW:List EV->Option (Prop×SV)
 |[.p (.sl 4 w_n w_g)]=>some ((∀i,i<w_n->DD (w_g i))/\ZU (⟨w_n,fun i=>B6 (w_g i)⟩:(L.Sq Ab)),ZV (⟨w_n,fun i=>B6 (w_g i)⟩:(L.Sq Ab)))
 |_=>none
abbrev QA:SE.Spec:=(AK ZW)
def Aby:Ak:={ cC with specs:=AB [(77,XU)] }
theorem Abz (w:(L.Sq Ab)) (hp:ZU w):vc Tryz.prog ({ Aby with loops:=AV [(2,{ T:=Nat,keep:=[0],keepO:=[],chg:=fun i=>[(3,.p (.int .i64 (i:Int)))],own:=fun _=>[],inv:=fun i=>i<=w.n/\∀j,j<i->CX (fun i=>Di (w.g i)) (fun i=>(w.g i).id) j=false,mu:=fun i=>w.n-i })],rfs:=AT [] }) (Ah Tryz.f38) (Ap Tryz.f38 [.p (.sl 4 w.n (fun i=>[.int .i64 ((w.g i).id),.int .i64 ((w.g i).colour),.int .i64 ((w.g i).grain),.sl 2 (w.g i).ol.n (fun i1=>[.int .i64 (((w.g i).ol.g i1).x),.int .i64 (((w.g i).ol.g i1).y)])]))]) (AJ Tryz.prog Tryz.f38 (ZV w)):=
 @Eq.mpr _ (let I:=SV.int .i64;let T:=Af1;let A9:=(1:Int);let A8:=(0:Int);let A6:=(↑w.n:Int);(∃(g:Nat),A8=(↑g:Int)/\g<=w.n/\∀(j:Nat),j<g->CX (fun(i:Nat)=>Di (w.g i)) (fun(i:Nat)=>(w.g i).id) j=false)/\∀(g:Nat),let A1:=(↑g:Int);let A5:=(w.g (T A1));let A4:=(!!Di A5&&decide (A8<A1));let A2:=(bif !Di A5 then true else bif decide (A8<A1)then decide (A5.id<=(w.g (T (A1-A9))).id)else false);(g<=w.n/\∀(j:Nat),j<g->CX (fun(i:Nat)=>Di (w.g i)) (fun(i:Nat)=>(w.g i).id) j=false)->(decide (A1<A6)=true->(A8<=A1/\A1<A6)/\((∀(i:Nat),let A7:=[I (A5.ol.g i).x,I (A5.ol.g i).y];i<A5.ol.n->A7=A7)/\A5.ol.n<=(1000000:Nat))/\(A4=true->A8<=A1/\A1<A6)/\(A4=true->Ad .i64 (A1-A9))/\(A4=true->A8<=A1-A9/\A1-A9<A6)/\(A2=true->false=Dj w)/\(A2=false->Ad .i64 (A1+A9)/\∃(g':Nat),A1+A9=(↑g':Int)/\(w.n=w.n/\∀(i:Nat),let A3:=[I (w.g i).id,I (w.g i).colour,I (w.g i).grain,SV.sl (2:Nat) (w.g i).ol.n fun(i1:Nat)=>[I ((w.g i).ol.g i1).x,I ((w.g i).ol.g i1).y]];i<w.n->A3=A3)/\(g'<=w.n/\∀(j:Nat),j<g'->CX (fun(i:Nat)=>Di (w.g i)) (fun(i:Nat)=>(w.g i).id) j=false)/\w.n-g'<w.n-g))/\(decide (A1<A6)=false->true=Dj w)) (by kernel_rfl) (by
 conv=>zeta
 obtain⟨hn,hol⟩:=hp;refine⟨⟨(0:Nat),rfl,Afg _,fun j hj=>absurd hj (Rc _)⟩,fun g hg=>⟨fun hlt=>?_,fun hge=>?_⟩⟩
 ·have hb:(g:Int)<(w.n:Int):=of_decide_eq_true hlt;have e0:((g:Int)).toNat=g:=Afy g;have e1:((g:Int)-1).toNat=g-1:=by omega
  rw[e0,e1];refine⟨⟨Af7 _,hb⟩,⟨fun _ _=>rfl,hol g (by omega)⟩,fun _=>⟨Af7 _,hb⟩,fun _=>jK,fun h=>?_,fun h=>?_,fun h=>?_⟩
  ·have:0<(g:Int):=of_decide_eq_true (Bool.and_eq_true_iff.1 h).2;omega
  ·exact(Qo (i:=g) (f:=fun i=>!CX (fun i=>Di (w.g i)) (fun i=>(w.g i).id) i) (by omega) (by show(!_)=false;rw[show CX (fun i=>Di (w.g i)) (fun i=>(w.g i).id) g=true from h];rfl)).symm
  ·refine⟨jK,g+1,by omega,⟨rfl,fun _ _=>rfl⟩,⟨by omega,fun j hj=>?_⟩,by omega⟩;rcases Aft.1 hj with h'|rfl
   ·exact hg.2 j h'
   ·exact h
 ·have hb:¬ (g:Int)<(w.n:Int):=of_decide_eq_false hge;exact(CQ.2 (fun i hi=>by show(!_)=true;rw[hg.2 i (by omega)];rfl)).symm)
theorem ZX:Av Tryz.prog 38 QA:=AM Tryz.func38 (c:=Ah Tryz.f38) (by kernel_rfl) mixed (fun args p r hs hp=>by
 unfold ZW at hs;split at hs
 ·cases hs;exact⟨_,_,Abz _ hp.2,(.p (EP hp.1) .nil),⟨show Aa Tryz.prog _ from(Aa.cons yI yJ Aa.nil),rfl,⟨show Ag Tryz.prog _ from Ag.nil,(Aw.none (fun _=>rfl))⟩⟩⟩
 ·cases hs)
theorem ZY:Ao Tryz.prog 38:=fun args w=>by kernel_rfl
def ZZ (w:(L.Sq Ab)) (s:Aj):Prop:=w.n<=1000000/\∀i,i<w.n->(w.g i).ol.n<=1000000
def aA (w:(L.Sq Ab)) (s:Aj):SV:=.int .i64 (BO w s)
def aB:List EV->Option (Prop×SV)
 |[.p (.sl 4 w_n w_g),.p (.agg [.int .i64 s_id,.int .i64 s_colour,.int .i64 s_w,.int .i64 s_h,.int .i64 s_grain])]=>some ((∀i,i<w_n->DD (w_g i))/\ZZ (⟨w_n,fun i=>B6 (w_g i)⟩:(L.Sq Ab)) (⟨s_id,s_colour,s_w,s_h,s_grain⟩:Aj),aA (⟨w_n,fun i=>B6 (w_g i)⟩:(L.Sq Ab)) (⟨s_id,s_colour,s_w,s_h,s_grain⟩:Aj))
 |_=>none
abbrev QB:SE.Spec:=(AK aB)
def Ab0:Ak:={ cC with specs:=AB [(38,QA),(84,XQ)] }
theorem Ab1 (w:(L.Sq Ab)) (s:Aj) (hp:ZZ w s):vc Tryz.prog (Ab0) (Ah Tryz.f42) (Ap Tryz.f42 [.p (.sl 4 w.n (fun i=>[.int .i64 ((w.g i).id),.int .i64 ((w.g i).colour),.int .i64 ((w.g i).grain),.sl 2 (w.g i).ol.n (fun i1=>[.int .i64 (((w.g i).ol.g i1).x),.int .i64 (((w.g i).ol.g i1).y)])])),.p (.agg [.int .i64 s.id,.int .i64 s.colour,.int .i64 s.w,.int .i64 s.h,.int .i64 s.grain])]) (AJ Tryz.prog Tryz.f42 (aA w s)):=
 @Eq.mpr _ (((∀(i:Nat),i<w.n->∀(i_1:Nat),let A1:=[SV.int .i64 ((w.g i).ol.g i_1).x,SV.int .i64 ((w.g i).ol.g i_1).y];i_1<(w.g i).ol.n->A1=A1)/\w.n<=(1000000:Nat)/\∀(i:Nat),i<w.n->(w.g i).ol.n<=(1000000:Nat))/\((!Dj w)=true->(50:Int)=BO w s)/\((!Dj w)=false->True/\((!BH s)=true->(1:Int)=BO w s)/\((!BH s)=false->(decide ((7:Int)<(↑w.n:Int))=true->(2:Int)=BO w s)/\(decide ((7:Int)<(↑w.n:Int))=false->(0:Int)=BO w s)))) (by kernel_rfl) (by
 conv=>zeta
 have vs:G1 (N8 s)=BH s:=by
  cases h:BH s with
  |true=>exact AaR h
  |false =>
    refine FF (i:=0) (show 0<1 by decide) ?_;show(!CX (fun _=>BH s) (fun _=>s.id) 0)=false;unfold CX;rw[h];rfl
 have e:BO w s=bif !Dj w then 50 else bif !BH s then 1 else bif decide (7<(w.n:Int))then 2 else 0:=by
  unfold BO CY;rw[vs];cases Dj w<;>cases BH s<;>cases decide (7<(w.n:Int))<;>rfl
 rw[e];refine⟨⟨fun _ _ _ _=>rfl,hp⟩,fun h=>?_,fun h=>⟨trivial,fun h2=>?_,fun h2=>⟨fun h3=>?_,fun h3=>?_⟩⟩⟩
 ·rw[h];rfl
 ·rw[h,h2];rfl
 ·rw[h,h2,h3];rfl
 ·rw[h,h2,h3];rfl)
theorem aC:Av Tryz.prog 42 QB:=AM Tryz.func42 (c:=Ah Tryz.f42) (by kernel_rfl) mixed (fun args p r hs hp=>by
 unfold aB at hs;split at hs
 ·cases hs;exact⟨_,_,Ab1 _ _ hp.2,(.p (EP hp.1) (.same _ .nil)),⟨show Aa Tryz.prog _ from(Aa.cons ZX ZY (Aa.cons yE yF Aa.nil)),rfl,⟨show Ag Tryz.prog _ from Ag.nil,(Aw.none (fun _=>rfl))⟩⟩⟩
 ·cases hs)
theorem aD:Ao Tryz.prog 42:=fun args w=>by kernel_rfl
def aF (w:(L.Sq Ab)) (s:Aj):Prop:=B7 w
def aG (w:(L.Sq Ab)) (s:Aj):SV:=.bool (Cd w s.grain (Az w.n) ⟨s.w,s.h⟩)
def aH:List EV->Option (Prop×SV)
 |[.p (.sl 4 w_n w_g),.p (.agg [.int .i64 s_id,.int .i64 s_colour,.int .i64 s_w,.int .i64 s_h,.int .i64 s_grain])]=>some ((∀i,i<w_n->DD (w_g i))/\aF (⟨w_n,fun i=>B6 (w_g i)⟩:(L.Sq Ab)) (⟨s_id,s_colour,s_w,s_h,s_grain⟩:Aj),aG (⟨w_n,fun i=>B6 (w_g i)⟩:(L.Sq Ab)) (⟨s_id,s_colour,s_w,s_h,s_grain⟩:Aj))
 |_=>none
abbrev QC:SE.Spec:=(AK aH)
def Ab2:Ak:={ cC with specs:=AB [(40,ND),(85,Q2)] }
theorem Ab3 (w:(L.Sq Ab)) (s:Aj) (hp:aF w s):vc Tryz.prog (Ab2) (Ah Tryz.f43) (Ap Tryz.f43 [.p (.sl 4 w.n (fun i=>[.int .i64 ((w.g i).id),.int .i64 ((w.g i).colour),.int .i64 ((w.g i).grain),.sl 2 (w.g i).ol.n (fun i1=>[.int .i64 (((w.g i).ol.g i1).x),.int .i64 (((w.g i).ol.g i1).y)])])),.p (.agg [.int .i64 s.id,.int .i64 s.colour,.int .i64 s.w,.int .i64 s.h,.int .i64 s.grain])]) (AJ Tryz.prog Tryz.f43 (aG w s)):=
 @Eq.mpr _ (let I:=SV.int .i64;let T:=Af1;let A5:=(1:Int);let A2:=(↑(Cn w):Int);let A1:=(Ae w s.grain (↑(T (A2-A5)):Int));((∀(i:Nat),i<w.n->∀(i_1:Nat),let A3:=((w.g i).ol.g i_1);i_1<(w.g i).ol.n -> [I A3.x,I A3.y]= [I A3.x,I A3.y])/\B7 w)/\Ad .i64 (A2-A5)/\((0:Int)<=A2-A5/\A2-A5<A2)/\((∀(i:Nat),let A4:=[I (A1.g i).w,I (A1.g i).h];i<A1.n->A4=A4)/\A1.n<=(1000000:Nat))/\ES A1 s.w s.h=Cd w s.grain (Az w.n) (Ac.mk s.w s.h)) (by kernel_rfl) (by
 conv=>zeta
 have hok:B7 w:=hp;obtain⟨a1,a2,a3,a4⟩:=G0 hok.1;have nE:(Cn w:Int)=BJ 1 w.n:=Ags a3;have aE:Az w.n=BJ 1 w.n-1:=rfl;have ix:((((Cn w:Int)-1).toNat:Nat):Int)=Az w.n:=by omega
 have hN:1<=Cn w:=by omega
 rw[ix];have ln:(Ae w s.grain (Az w.n)).n<=1000000:=AfI (Hv w s.grain a1 a2) (by decide);exact⟨⟨fun _ _ _ _=>rfl,hok⟩,jK,by omega,⟨fun _ _=>rfl,ln⟩,rfl⟩)
theorem aI:Av Tryz.prog 43 QC:=AM Tryz.func43 (c:=Ah Tryz.f43) (by kernel_rfl) mixed (fun args p r hs hp=>by
 unfold aH at hs;split at hs
 ·cases hs;exact⟨_,_,Ab3 _ _ hp.2,(.p (EP hp.1) (.same _ .nil)),⟨show Aa Tryz.prog _ from(Aa.cons Q8 Q9 (Aa.cons ZE ZF Aa.nil)),rfl,⟨show Ag Tryz.prog _ from Ag.nil,(Aw.none (fun _=>rfl))⟩⟩⟩
 ·cases hs)
theorem aJ:Ao Tryz.prog 43:=fun args w=>by kernel_rfl
def aK (w:(L.Sq Ab)) (gr:Int):Prop:=Dz w
def aL (w:(L.Sq Ab)) (gr:Int):SV:=.tup [.sl 2 (Ea w gr) (fun k=>[.int .i64 (((Ae w gr (Az w.n)).g k).w),.int .i64 (((Ae w gr (Az w.n)).g k).h)]),.int .i64 (Ds w gr)]
def aM:List EV->Option (Prop×SV)
 |[.p (.sl 4 w_n w_g),.p (.int .i64 gr)]=>some ((∀i,i<w_n->DD (w_g i))/\aK (⟨w_n,fun i=>B6 (w_g i)⟩:(L.Sq Ab)) gr,aL (⟨w_n,fun i=>B6 (w_g i)⟩:(L.Sq Ab)) gr)
 |_=>none
abbrev aN:SE.Spec:=(AK aM)
def Ab4:Ak:={ cC with specs:=AB [(38,QA),(39,Nx),(40,ND)] }
theorem Ab5 (w:(L.Sq Ab)) (gr:Int) (hp:aK w gr):vc Tryz.prog (Ab4) (Ah Tryz.f9) (Ap Tryz.f9 [.p (.sl 4 w.n (fun i=>[.int .i64 ((w.g i).id),.int .i64 ((w.g i).colour),.int .i64 ((w.g i).grain),.sl 2 (w.g i).ol.n (fun i1=>[.int .i64 (((w.g i).ol.g i1).x),.int .i64 (((w.g i).ol.g i1).y)])])),.p (.int .i64 gr)]) (AJ Tryz.prog Tryz.f9 (aL w gr)):=
 @Eq.mpr _ (let I:=SV.int .i64;let T:=Af1;let A7:=(1:Int);let A5:=(!Ay gr (0:Int) (2:Int));let A3:=(↑(Cn w):Int);let A2:=(∀(i:Nat),i<w.n->∀(i_1:Nat),let A4:=((w.g i).ol.g i_1);i_1<(w.g i).ol.n -> [I A4.x,I A4.y]= [I A4.x,I A4.y]);let A1:=(Ae w gr (↑(T (A3-A7)):Int));(A2/\w.n<=(1000000:Nat)/\∀(i:Nat),i<w.n->(w.g i).ol.n<=(1000000:Nat))/\((!Dj w)=true->Ea w gr=(0:Nat)/\(50:Int)=Ds w gr)/\((!Dj w)=false->True/\(A5=true->Ea w gr=(0:Nat)/\A7=Ds w gr)/\(A5=false->(decide ((7:Int)<(↑w.n:Int))=true->Ea w gr=(0:Nat)/\(2:Int)=Ds w gr)/\(decide ((7:Int)<(↑w.n:Int))=false->(A2/\B7 w)/\Ad .i64 (A3-A7)/\((0:Int)<=A3-A7/\A3-A7<A3)/\(A1.n=Ea w gr/\∀(i:Nat),let A6:=((Ae w gr (Az w.n)).g i);i<A1.n -> [I (A1.g i).w,I (A1.g i).h]= [I A6.w,I A6.h])/\(0:Int)=Ds w gr)))) (by kernel_rfl) (by
 conv=>zeta
 have hp:Dz w:=hp;have e:Ds w gr=bif !Dj w then 50 else bif !Ay gr 0 2 then 1 else bif decide (7<(w.n:Int))then 2 else 0:=by
  unfold Ds CY;have:G1 Qn=true:=rfl;rw[this];cases Dj w<;>cases Ay gr 0 2<;>cases decide (7<(w.n:Int))<;>rfl
 have n0:∀k:Int,Ds w gr=k->¬ k=0->Ea w gr=0:=fun k h h2=>by unfold Ea;rw[h,decide_eq_false h2];rfl
 refine⟨⟨fun _ _ _ _=>rfl,hp.2.1,hp.2.2⟩,fun h=>?_,fun h=>⟨trivial,fun h2=>?_,fun h2=>⟨fun h3=>?_,fun h3=>?_⟩⟩⟩
 ·have:Ds w gr=50:=by rw[e,h];rfl
  exact⟨n0 _ this (by decide),this.symm⟩
 ·have:Ds w gr=1:=by rw[e,h,h2];rfl
  exact⟨n0 _ this (by decide),this.symm⟩
 ·have:Ds w gr=2:=by rw[e,h,h2,h3];rfl
  exact⟨n0 _ this (by decide),this.symm⟩
 ·have e0:Ds w gr=0:=by rw[e,h,h2,h3];rfl
  have h3:¬ (7:Int)<(w.n:Int):=of_decide_eq_false h3;have hp:=Hw hp (by omega);have hok:B7 w:=hp;obtain⟨a1,a2,a3,a4⟩:=G0 hok.1;have nE:(Cn w:Int)=BJ 1 w.n:=Ags a3;have aE:Az w.n=BJ 1 w.n-1:=rfl;have ix:((((Cn w:Int)-1).toNat:Nat):Int)=Az w.n:=by omega
  have hN:1<=Cn w:=by omega
  have sN:Ea w gr=(Ae w gr (Az w.n)).n:=by unfold Ea;rw[e0];rfl
  rw[ix,sN,e0];exact⟨⟨fun _ _ _ _=>rfl,hok⟩,jK,by omega,⟨rfl,fun _ _=>rfl⟩,rfl⟩)
theorem Ab6:Av Tryz.prog 9 aN:=AM Tryz.func9 (c:=Ah Tryz.f9) (by kernel_rfl) mixed (fun args p r hs hp=>by
 unfold aM at hs;split at hs
 ·cases hs;exact⟨_,_,Ab5 _ _ hp.2,(.p (EP hp.1) (.same _ .nil)),⟨show Aa Tryz.prog _ from(Aa.cons ZX ZY (Aa.cons PR PS (Aa.cons Q8 Q9 Aa.nil))),rfl,⟨show Ag Tryz.prog _ from Ag.nil,(Aw.none (fun _=>rfl))⟩⟩⟩
 ·cases hs)
theorem Ab7:Ao Tryz.prog 9:=fun args w=>by kernel_rfl
def aO (w:(L.Sq Ab)) (s:Aj):Prop:=Dz w
def aP (w:(L.Sq Ab)) (s:Aj):SV:=.tup [.bool (CZ w s),.int .i64 (BO w s)]
def aQ:List EV->Option (Prop×SV)
 |[.p (.sl 4 w_n w_g),.p (.agg [.int .i64 s_id,.int .i64 s_colour,.int .i64 s_w,.int .i64 s_h,.int .i64 s_grain])]=>some ((∀i,i<w_n->DD (w_g i))/\aO (⟨w_n,fun i=>B6 (w_g i)⟩:(L.Sq Ab)) (⟨s_id,s_colour,s_w,s_h,s_grain⟩:Aj),aP (⟨w_n,fun i=>B6 (w_g i)⟩:(L.Sq Ab)) (⟨s_id,s_colour,s_w,s_h,s_grain⟩:Aj))
 |_=>none
abbrev aR:SE.Spec:=(AK aQ)
def Ab8:Ak:={ cC with specs:=AB [(42,QB),(43,QC)] }
theorem Ab9 (w:(L.Sq Ab)) (s:Aj) (hp:aO w s):vc Tryz.prog (Ab8) (Ah Tryz.f11) (Ap Tryz.f11 [.p (.sl 4 w.n (fun i=>[.int .i64 ((w.g i).id),.int .i64 ((w.g i).colour),.int .i64 ((w.g i).grain),.sl 2 (w.g i).ol.n (fun i1=>[.int .i64 (((w.g i).ol.g i1).x),.int .i64 (((w.g i).ol.g i1).y)])])),.p (.agg [.int .i64 s.id,.int .i64 s.colour,.int .i64 s.w,.int .i64 s.h,.int .i64 s.grain])]) (AJ Tryz.prog Tryz.f11 (aP w s)):=
 @Eq.mpr _ (let I:=SV.int .i64;let A3:=(!decide (BO w s=(0:Int)));let A1:=(∀(i:Nat),i<w.n->∀(i_1:Nat),let A2:=((w.g i).ol.g i_1);i_1<(w.g i).ol.n -> [I A2.x,I A2.y]= [I A2.x,I A2.y]);(A1/\w.n<=(1000000:Nat)/\∀(i:Nat),i<w.n->(w.g i).ol.n<=(1000000:Nat))/\(A3=true->false=CZ w s/\BO w s=BO w s)/\(A3=false->(A1/\B7 w)/\Cd w s.grain (Az w.n) (Ac.mk s.w s.h)=CZ w s/\(0:Int)=BO w s)) (by kernel_rfl) (by
 conv=>zeta
 have hp:Dz w:=hp;refine⟨⟨fun _ _ _ _=>rfl,hp.2.1,hp.2.2⟩,fun h=>?_,fun h=>?_⟩
 ·have h:¬ BO w s=0:=of_decide_eq_false (Cx h);exact⟨by unfold CZ;rw[decide_eq_false h];rfl,rfl⟩
 ·have h:BO w s=0:=of_decide_eq_true (Ca h);obtain⟨-,-,-,h7,-⟩:=Kp h;exact⟨⟨fun _ _ _ _=>rfl,Hw hp h7⟩,by unfold CZ;rw[decide_eq_true h];rfl,h.symm⟩)
theorem AbA:Av Tryz.prog 11 aR:=AM Tryz.func11 (c:=Ah Tryz.f11) (by kernel_rfl) mixed (fun args p r hs hp=>by
 unfold aQ at hs;split at hs
 ·cases hs;exact⟨_,_,Ab9 _ _ hp.2,(.p (EP hp.1) (.same _ .nil)),⟨show Aa Tryz.prog _ from(Aa.cons aC aD (Aa.cons aI aJ Aa.nil)),rfl,⟨show Ag Tryz.prog _ from Ag.nil,(Aw.none (fun _=>rfl))⟩⟩⟩
 ·cases hs)
theorem AbB:Ao Tryz.prog 11:=fun args w=>by kernel_rfl
def aS (a:(L.Sq Ac)) (b:(L.Sq Ac)):Prop:=a.n<=1000000
def aT (a:(L.Sq Ac)) (b:(L.Sq Ac)):SV:=.bool (Hx a b)
def aU:List EV->Option (Prop×SV)
 |[.p (.sl 2 a_n a_g),.p (.sl 2 b_n b_g)]=>some ((∀i,i<a_n->a_g i = [.int .i64 ((Cc (a_g i)).w),.int .i64 ((Cc (a_g i)).h)])/\(∀i,i<b_n->b_g i = [.int .i64 ((Cc (b_g i)).w),.int .i64 ((Cc (b_g i)).h)])/\aS (⟨a_n,fun i=>Cc (a_g i)⟩:(L.Sq Ac)) (⟨b_n,fun i=>Cc (b_g i)⟩:(L.Sq Ac)),aT (⟨a_n,fun i=>Cc (a_g i)⟩:(L.Sq Ac)) (⟨b_n,fun i=>Cc (b_g i)⟩:(L.Sq Ac)))
 |_=>none
abbrev aV:SE.Spec:=(AK aU)
def AbC:Ak:={ muts:=[],frz:=B2 [],specs:=AB [],loops:=fun _=>none,iters:=Bw [],rfs:=AT [],nils:=B3 [] }
theorem AbD (a:(L.Sq Ac)) (b:(L.Sq Ac)) (hp:aS a b):vc Tryz.prog ({ AbC with loops:=AV [(4,{ T:=Nat,keep:=[0,1],keepO:=[],chg:=fun i=>[(5,.p (.int .i64 (i:Int)))],own:=fun _=>[],inv:=fun i=>i<=a.n/\∀j,j<i->GT (a.g j) (b.g j)=true,mu:=fun i=>a.n-i })],rfs:=AT [] }) (Ah Tryz.f12) (Ap Tryz.f12 [.p (.sl 2 a.n (fun i=>[.int .i64 ((a.g i).w),.int .i64 ((a.g i).h)])),.p (.sl 2 b.n (fun i=>[.int .i64 ((b.g i).w),.int .i64 ((b.g i).h)]))]) (AJ Tryz.prog Tryz.f12 (aT a b)):=
 @Eq.mpr _ (let I:=SV.int .i64;let T:=Af1;let A4:=(↑a.n:Int);let A3:=(!decide (A4=(↑b.n:Int)));(A3=true->false=Hx a b)/\(A3=false->(∃(g:Nat),(0:Int)=(↑g:Int)/\g<=a.n/\∀(j:Nat),j<g->GT (a.g j) (b.g j)=true)/\∀(g:Nat),let A2:=(↑g:Int);let A1:=(!(decide ((a.g (T A2)).w=(b.g (T A2)).w)&&decide ((a.g (T A2)).h=(b.g (T A2)).h)));(g<=a.n/\∀(j:Nat),j<g->GT (a.g j) (b.g j)=true)->(decide (A2<A4)=true->((0:Int)<=A2/\A2<A4)/\((0:Int)<=A2/\A2<(↑b.n:Int))/\(A1=true->false=Hx a b)/\(A1=false->Ad .i64 (A2+(1:Int))/\∃(g':Nat),A2+(1:Int)=(↑g':Int)/\(a.n=a.n/\∀(i:Nat),let A5:=[I (a.g i).w,I (a.g i).h];i<a.n->A5=A5)/\(b.n=b.n/\∀(i:Nat),let A6:=[I (b.g i).w,I (b.g i).h];i<b.n->A6=A6)/\(g'<=a.n/\∀(j:Nat),j<g'->GT (a.g j) (b.g j)=true)/\a.n-g'<a.n-g))/\(decide (A2<A4)=false->true=Hx a b))) (by kernel_rfl) (by
 conv=>zeta
 have hn:a.n<=1000000:=hp;refine⟨fun h=>?_,fun h=>?_⟩
 ·unfold Hx;rw[h];rfl
 have e:Hx a b=CD a.n fun i=>GT (a.g i) (b.g i):=by unfold Hx;rw[h];rfl
 have hab:(a.n:Int)=(b.n:Int):=of_decide_eq_true (Ca h);rw[e];refine⟨⟨0,rfl,Afg _,fun j hj=>absurd hj (Rc _)⟩,fun k hk=>⟨fun hc=>?_,fun hc=>?_⟩⟩
 ·have hc:(k:Int)<(a.n:Int):=of_decide_eq_true hc;have e0:((k:Int)).toNat=k:=Afy k;have k1:Ad .i64 ((k:Int)+1):=jK;have g1:k+1<=a.n:=by omega
  have g2:a.n-(k+1)<a.n-k:=by omega
  have cn:(k:Int)+1=((k+1:Nat):Int):=by omega
  rw[e0];refine⟨by omega,by omega,fun h1=>?_,fun h1=>⟨k1,k+1,?_⟩⟩
  ·have h1:GT (a.g k) (b.g k)=false:=Cx h1;exact(FF (i:=k) (f:=fun i=>GT (a.g i) (b.g i)) g1 h1).symm
  ·have h1:GT (a.g k) (b.g k)=true:=Ca h1;have nx:∀j,j<k+1->GT (a.g j) (b.g j)=true:=fun j hj=>by
    rcases Aft.1 hj with h|rfl
    ·exact hk.2 j h
    ·exact h1
   exact(by(try dsimp only);(repeat' with_reducible apply And.intro)<;>first|with_reducible rfl|with_reducible assumption|with_reducible exact fun _=>rfl|with_reducible exact fun _ _=>rfl|with_reducible exact trivial|exact rfl|(intro _;exact rfl)|(intro _ _;exact rfl)|exact cn|exact nx|exact g1|exact g2|exact trivial|(intro _ h_;exact absurd h_ (Rc _)))
 ·have hc:¬ (k:Int)<(a.n:Int):=of_decide_eq_false hc;exact(CQ.2 fun i hi=>hk.2 i (by omega)).symm)
theorem AbE:Av Tryz.prog 12 aV:=AM Tryz.func12 (c:=Ah Tryz.f12) (by kernel_rfl) mixed (fun args p r hs hp=>by
 unfold aU at hs;split at hs
 ·cases hs;exact⟨_,_,AbD _ _ hp.2.2,(.p (.sl hp.1) (.p (.sl hp.2.1) .nil)),⟨show Aa Tryz.prog _ from Aa.nil,rfl,⟨show Ag Tryz.prog _ from Ag.nil,(Aw.none (fun _=>rfl))⟩⟩⟩
 ·cases hs)
theorem AbF:Ao Tryz.prog 12:=fun args w=>by kernel_rfl
end
structure AE where
 at_:L.Pt
 size:Ac
structure AY where
 sheet:Int
 kind:Int
 want:Int
 pts:L.Sq L.Pt
structure AZ where
 want:Int
 sheet:Int
 turn:Int
 at_:L.Pt
def DN:List SV->AZ
 |[.int _ a,.int _ b,.int _ c,.int _ d,.int _ e]=>⟨a,b,c,⟨d,e⟩⟩
 |_=>⟨0,0,0,⟨0,0⟩⟩
def Bc (r:AE) (up:Bool) (by_:Int):AE:=bif up then⟨r.at_,⟨by_,r.size.h⟩⟩else⟨r.at_,⟨r.size.w,by_⟩⟩
def Bi (r:AE) (up:Bool) (by_:Int):AE:=bif up then⟨⟨r.at_.x+by_,r.at_.y⟩,⟨r.size.w-by_,r.size.h⟩⟩else⟨⟨r.at_.x,r.at_.y+by_⟩,⟨r.size.w,r.size.h-by_⟩⟩
def LF (r:AE) (up:Bool) (by_:Int):L.Pt:=bif up then⟨r.at_.x+by_,r.at_.y⟩else⟨r.at_.x,r.at_.y+by_⟩
def LG (r:AE) (up:Bool) (by_:Int):L.Pt:=bif up then⟨r.at_.x+by_,r.at_.y+r.size.h⟩else⟨r.at_.x+r.size.w,r.at_.y+by_⟩
def QD (a b:L.Pt):L.Sq L.Pt:=⟨2,fun i=>bif decide (i=0)then a else b⟩
def BC (r:AE) (id:Int) (up:Bool) (by_:Int):AY:=⟨id,1,0,QD (LF r up by_) (LG r up by_)⟩
def Db (r:AE):Prop:=0<=r.at_.x/\0<=r.at_.y/\0<=r.size.w/\0<=r.size.h/\r.at_.x+r.size.w<=4096/\r.at_.y+r.size.h<=4096
def BD (r:AE):Nat:=(r.size.w-1).toNat
def Bo (r:AE):Nat:=BD r+(r.size.h-1).toNat
def AN (r:AE) (k:Nat):Bool:=decide (k<BD r)
def AH (r:AE) (k:Nat):Int:=bif AN r k then(k:Int)+1 else((k-BD r:Nat):Int)+1
structure FL where
 pl:Nat->AZ
 sc:List AY
def AA (l:List AY):L.Sq AY:=⟨l.length,fun i=>l.getD i ⟨0,0,0,⟨0,fun _=>⟨0,0⟩⟩⟩⟩
def AL (x:AY):List SV:=[.int .i64 x.sheet,.int .i64 x.kind,.int .i64 x.want,.sl 2 x.pts.n fun i=>[.int .i64 (x.pts.g i).x,.int .i64 (x.pts.g i).y]]
def GU (w:L.Sq Ab) (gr:Int) (i:Nat) (r:AE) (t:Int):Bool:=bif (bif Cz (w.g i).grain gr t then decide ((Bv (w.g i).ol t).w<=r.size.w)else false)then decide ((Bv (w.g i).ol t).h<=r.size.h)else false
def E6 (w:L.Sq Ab) (gr:Int) (i:Nat) (r:AE):Int:=bif GU w gr i r 0 then 0 else 1
def Kv (P:Nat->AZ) (i:Nat) (x:AZ):Nat->AZ:=fun j=>if j=i then x else P j
def D9 (w:L.Sq Ab) (sh:Aj) (i:Nat) (r:AE) (P:Nat->AZ):Nat->AZ:=Kv P i ⟨(w.g i).id,sh.id,E6 w sh.grain i r,r.at_⟩
def B9 (S:List AY) (x:AY):List AY:=S ++ [x]
def BS (w:L.Sq Ab) (sh:Aj) (i:Nat) (r:AE):Ac:=Bv (w.g i).ol (E6 w sh.grain i r)
def E7 (w:L.Sq Ab) (sh:Aj) (i:Nat) (r:AE) (S:List AY):List AY:=bif decide ((BS w sh i r).w<r.size.w)then B9 S (BC r sh.id true (BS w sh i r).w)else S
def ET (w:L.Sq Ab) (sh:Aj) (i:Nat) (r:AE):AE:=bif decide ((BS w sh i r).w<r.size.w)then Bc r true (BS w sh i r).w else r
def E8 (w:L.Sq Ab) (sh:Aj) (i:Nat) (r:AE) (S:List AY):List AY:=bif decide ((BS w sh i r).h<(ET w sh i r).size.h)then B9 (E7 w sh i r S) (BC (ET w sh i r) sh.id false (BS w sh i r).h)else E7 w sh i r S
theorem AbG {X Y:List AY} (h:X=Y):(AA X).n=(AA Y).n/\∀i,i<(AA X).n->AL ((AA X).g i)=AL ((AA Y).g i):=by rw[h];exact⟨rfl,fun _ _=>rfl⟩
theorem LH (S:List AY) (x:AY):(B9 S x).length=S.length+1:=by unfold B9;simp
theorem LI {S Y:List AY} {x:AY} (h:B9 S x=Y) {r:Nat->List SV} (hr:r 0=AL x):(AA S).n+1=(AA Y).n/\∀i,i<(AA S).n+1->AU (AA S).n (fun k=>AL ((AA S).g k)) r i=AL ((AA Y).g i):=by
 subst h;refine⟨(LH S x).symm,fun i hi=>?_⟩;unfold AU;have hi:i<S.length+1:=hi
 by_cases e:i<(AA S).n
 ·rw[if_pos e];have e':i<S.length:=e;simp[AA,B9,AS,Af2 e']
 ·rw[if_neg e];have e':¬ i<S.length:=e;obtain rfl:i=S.length:=by omega
  rw[show S.length-(AA S).n=0 from Nat.sub_self _,hr];simp[AA,B9,AS]
theorem aW (w:L.Sq Ab) (sh:Aj) (i:Nat) (r:AE):0<=(BS w sh i r).w/\(BS w sh i r).w<=4096/\0<=(BS w sh i r).h/\(BS w sh i r).h<=4096:=by
 have hb:=PQ (w.g i).ol;have h3:(BL (w.g i).ol).x<=(BM (w.g i).ol).x/\(BL (w.g i).ol).y<=(BM (w.g i).ol).y:=by
  unfold BL BM;cases hv:AP (w.g i).ol with
  |false=>simp
  |true =>
    obtain⟨n3,_⟩:=Gy hv;have h1:=Kk (l:=(w.g i).ol) (w.g i).ol.n 0 (by omega);have h2:=Kl (l:=(w.g i).ol) (w.g i).ol.n 0 (by omega);simp only[cond_true];omega
 unfold BS Bv;cases decide (E6 w sh.grain i r=1)<;>simp only[cond_true,cond_false]<;>omega
theorem AbH (w:L.Sq Ab) (sh:Aj) (i:Nat) {r:AE} (hA:Db r):Db (ET w sh i r):=by
 obtain⟨b1,b2,b3,b4⟩:=aW w sh i r;obtain⟨h1,h2,h3,h4,h5,h6⟩:=hA;unfold ET
 by_cases e:(BS w sh i r).w<r.size.w
 ·rw[decide_eq_true e];refine⟨h1,h2,b1,h4,?_,h6⟩;show r.at_.x+(BS w sh i r).w<=4096;omega
 ·rw[decide_eq_false e];exact⟨h1,h2,h3,h4,h5,h6⟩
theorem AbI (w:L.Sq Ab) (sh:Aj) (i:Nat) (r:AE) (S:List AY):(E7 w sh i r S).length<=S.length+1:=by
 unfold E7;cases decide ((BS w sh i r).w<r.size.w)<;>simp[LH]
theorem E9 {n:Int} (h : -9223372036854775808<=n:=by omega) (k:n<=9223372036854775807:=by omega):Ad .i64 n:=⟨h,k⟩
def aX (r:AE) (up:Bool) (b:Int):Prop:=Db r/\0<=b/\b<=4096
def aY (r:AE) (up:Bool) (b:Int):SV:=.tup [(.agg [.int .i64 ((Bc r up b).at_.x),.int .i64 ((Bc r up b).at_.y),.int .i64 ((Bc r up b).size.w),.int .i64 ((Bc r up b).size.h)]),(.agg [.int .i64 ((Bi r up b).at_.x),.int .i64 ((Bi r up b).at_.y),.int .i64 ((Bi r up b).size.w),.int .i64 ((Bi r up b).size.h)])]
def aZ:List EV->Option (Prop×SV)
 |[.p (.agg [.int .i64 r_at__x,.int .i64 r_at__y,.int .i64 r_size_w,.int .i64 r_size_h]),.p (.bool up),.p (.int .i64 b)]=>some (aX (⟨(⟨r_at__x,r_at__y⟩:L.Pt),(⟨r_size_w,r_size_h⟩:Ac)⟩:AE) up b,aY (⟨(⟨r_at__x,r_at__y⟩:L.Pt),(⟨r_size_w,r_size_h⟩:Ac)⟩:AE) up b)
 |_=>none
abbrev QE:SE.Spec:=(AK aZ)
def AbJ:Ak:={ cC with muts:=[6,7,8,9],anys:=[1009] }
theorem AbK (r:AE) (up:Bool) (b:Int) (hp:aX r up b):vc Tryz.prog (AbJ) (Ah Tryz.f127) (Ap Tryz.f127 [.p (.agg [.int .i64 r.at_.x,.int .i64 r.at_.y,.int .i64 r.size.w,.int .i64 r.size.h]),.p (.bool up),.p (.int .i64 b)]) (AJ Tryz.prog Tryz.f127 (aY r up b)):=
 @Eq.mpr _ (let I:=SV.int .i64;let A8:=[I r.at_.x,I r.at_.y,I r.size.w,I b];let A7:=[I r.at_.x,I r.at_.y,I b,I r.size.h];let A6:=(Bc r up b);let A5:=(Bi r up b);let A4:=[I r.at_.x,I (r.at_.y+b),I r.size.w,I (r.size.h-b)];let A3:=[I (r.at_.x+b),I r.at_.y,I (r.size.w-b),I r.size.h];let A2:=[I A5.at_.x,I A5.at_.y,I A5.size.w,I A5.size.h];let A1:=[I A6.at_.x,I A6.at_.y,I A6.size.w,I A6.size.h];(up=true->Ad .i64 (r.at_.x+b)/\Ad .i64 (r.size.w-b)/\(SV.agg A7=SV.agg A1/\SV.agg A3=SV.agg A2)/\SV.agg A7=SV.agg A1/\SV.agg A3=SV.agg A2)/\(up=false->Ad .i64 (r.at_.y+b)/\Ad .i64 (r.size.h-b)/\(SV.agg A8=SV.agg A1/\SV.agg A4=SV.agg A2)/\SV.agg A8=SV.agg A1/\SV.agg A4=SV.agg A2)) (by kernel_rfl) (by
 conv=>zeta
 obtain⟨⟨h1,h2,h3,h4,h5,h6⟩,hb,hb'⟩:=(show Db r/\0<=b/\b<=4096 from hp);exact⟨fun h=>by subst h;exact⟨E9,E9,⟨rfl,rfl⟩,rfl,rfl⟩,fun h=>by subst h;exact⟨E9,E9,⟨rfl,rfl⟩,rfl,rfl⟩⟩)
theorem bC:Av Tryz.prog 127 QE:=AM Tryz.func127 (c:=Ah Tryz.f127) (by kernel_rfl) mixed (fun args p r hs hp=>by
 unfold aZ at hs;split at hs
 ·cases hs;exact⟨_,_,AbK _ _ _ hp,(.same _ (.same _ (.same _ .nil))),⟨show Aa Tryz.prog _ from Aa.nil,rfl,⟨show Ag Tryz.prog _ from Ag.nil,(Aw.none (fun _=>rfl))⟩⟩⟩
 ·cases hs)
theorem bD:Ao Tryz.prog 127:=fun args w=>by kernel_rfl
def bE (r:AE):Prop:=True
def bG (r:AE):SV:=.clo 152 [.ref [.int .i64 r.at_.x,.int .i64 r.at_.y,.int .i64 r.size.w,.int .i64 r.size.h] 0]
def bH:List EV->Option (Prop×SV)
 |[.p (.agg [.int .i64 r_at__x,.int .i64 r_at__y,.int .i64 r_size_w,.int .i64 r_size_h])]=>some (bE (⟨(⟨r_at__x,r_at__y⟩:L.Pt),(⟨r_size_w,r_size_h⟩:Ac)⟩:AE),bG (⟨(⟨r_at__x,r_at__y⟩:L.Pt),(⟨r_size_w,r_size_h⟩:Ac)⟩:AE))
 |_=>none
abbrev bI:SE.Spec:=(AK bH)
def AbL:Ak:={ muts:=[],frz:=B2 [],specs:=AB [],loops:=AV [],iters:=Bw [],rfs:=AT [],nils:=B3 [] }
theorem AbM (r:AE) (hp:bE r):vc Tryz.prog (AbL) (Ah Tryz.f126) (Ap Tryz.f126 [.p (.agg [.int .i64 r.at_.x,.int .i64 r.at_.y,.int .i64 r.size.w,.int .i64 r.size.h])]) (AJ Tryz.prog Tryz.f126 (bG r)):=
 @Eq.mpr _ (let I:=SV.int .i64;let A1:=[SV.ref [I r.at_.x,I r.at_.y,I r.size.w,I r.size.h] (nat_lit 0)];SV.clo (nat_lit 152) A1=SV.clo (nat_lit 152) A1) (by kernel_rfl) (by
 conv=>zeta
 try rfl)
theorem AbN:Av Tryz.prog 126 bI:=AM Tryz.func126 (c:=Ah Tryz.f126) (by kernel_rfl) mixed (fun args p r hs hp=>by
 unfold bH at hs;split at hs
 ·cases hs;exact⟨_,_,AbM _ hp,(.same _ .nil),⟨show Aa Tryz.prog _ from Aa.nil,rfl,⟨show Ag Tryz.prog _ from Ag.nil,(Aw.none (fun _=>rfl))⟩⟩⟩
 ·cases hs)
theorem AbO:Ao Tryz.prog 126:=fun args w=>by kernel_rfl
def bJ (r:AE):Prop:=Db r
def QF (r:AE):Nat:=Bo r
def bK (r:AE):Nat->List SV:=fun k=>[.bool (AN r k),.int .i64 (AH r k)]
def bL:List SV->Option (Prop×Nat×(Nat->List SV))
 |[.ref [.int .i64 r_at__x,.int .i64 r_at__y,.int .i64 r_size_w,.int .i64 r_size_h] 0]=>some (bJ (⟨(⟨r_at__x,r_at__y⟩:L.Pt),(⟨r_size_w,r_size_h⟩:Ac)⟩:AE),QF (⟨(⟨r_at__x,r_at__y⟩:L.Pt),(⟨r_size_w,r_size_h⟩:Ac)⟩:AE),bK (⟨(⟨r_at__x,r_at__y⟩:L.Pt),(⟨r_size_w,r_size_h⟩:Ac)⟩:AE))
 |_=>none
abbrev bM:FQ:=JY bL
def AbP:Ak:={ muts:=[],frz:=B2 [],specs:=AB [],loops:=fun _=>none,iters:=Bw [],rfs:=AT [] }
theorem AbQ (yl:Nat) (r:AE) (hp:bJ r):vc Tryz.prog { AbP with loops:=AV [(1,{ T:=Nat,keep:=[0,1],keepO:=[],chg:=fun i=>[(3,.p (.int .i64 ((i:Int)+1)))],own:=fun _=>[],inv:=fun i=>i<=BD r,mu:=fun i=>BD r-i,yk:=some (fun i=>i) }),(5,{ T:=Nat,keep:=[0,1],keepO:=[],chg:=fun i=>[(4,.p (.int .i64 ((i:Int)+1)))],own:=fun _=>[],inv:=fun i=>BD r+i<=Bo r,mu:=fun i=>Bo r-i,yk:=some (fun i=>BD r+i) })],yld:=some ⟨yl,QF r,bK r⟩ } (Ah Tryz.f152) (Ap Tryz.f152 (.yield yl::([.ref [.int .i64 r.at_.x,.int .i64 r.at_.y,.int .i64 r.size.w,.int .i64 r.size.h] 0]:List SV).map .p)) (JX Tryz.prog Tryz.f152 (QF r)):=
 @Eq.mpr _ (let I:=SV.int .i64;let A7:=(nat_lit 0);let A3:=(1:Nat);let A4:=(true=true->Bo r+A3=Bo r\/Bo r+A3=Bo r+A3);let A2:=[I r.at_.x,I r.at_.y,I r.size.w,I r.size.h];let A1:=(1:Int);(∃(g:Nat),nat_lit 0=g/\false=false/\A1=(↑g:Int)+A1/\g<=BD r)/\∀(g:Nat),let A6:=(↑g:Int);g<=BD r->(decide (A6+A1<r.size.w)=true->yl=yl/\g<Bo r /\ [SV.bool true,I (A6+A1)]= [SV.bool (AN r g),I (AH r g)]/\((false=true->g+A3=Bo r\/g+A3=Bo r+A3)/\(false=false->Ad .i64 (A6+A1+A1)/\∃(g':Nat),g+A3=g'/\false=false/\A6+A1+A1=(↑g':Int)+A1/\yl=yl/\SV.ref A2 A7=SV.ref A2 A7/\g'<=BD r/\BD r-g'<BD r-g))/\A4/\(true=false->Ad .i64 (A6+A1+A1)/\∃(g':Nat),Bo r+A3=g'/\false=false/\A6+A1+A1=(↑g':Int)+A1/\yl=yl/\False/\g'<=BD r/\BD r-g'<BD r-g))/\(decide (A6+A1<r.size.w)=false->(∃(g_1:Nat),g=BD r+g_1/\false=false/\A1=(↑g_1:Int)+A1/\BD r+g_1<=Bo r)/\∀(g_1:Nat),let A5:=(↑g_1:Int);BD r+g_1<=Bo r->(decide (A5+A1<r.size.h)=true->yl=yl/\BD r+g_1<Bo r /\ [SV.bool false,I (A5+A1)]= [SV.bool (AN r (BD r+g_1)),I (AH r (BD r+g_1))]/\((false=true->BD r+g_1+A3=Bo r\/BD r+g_1+A3=Bo r+A3)/\(false=false->Ad .i64 (A5+A1+A1)/\∃(g':Nat),BD r+g_1+A3=BD r+g'/\false=false/\A5+A1+A1=(↑g':Int)+A1/\yl=yl/\SV.ref A2 A7=SV.ref A2 A7/\BD r+g'<=Bo r/\Bo r-g'<Bo r-g_1))/\A4/\(true=false->Ad .i64 (A5+A1+A1)/\∃(g':Nat),Bo r+A3=BD r+g'/\false=false/\A5+A1+A1=(↑g':Int)+A1/\yl=yl/\False/\BD r+g'<=Bo r/\Bo r-g'<Bo r-g_1))/\(decide (A5+A1<r.size.h)=false->BD r+g_1=Bo r\/BD r+g_1=Bo r+A3))) (by kernel_rfl) (by
 conv=>zeta
 obtain⟨h1,h2,h3,h4,h5,h6⟩:=(show Db r from hp);have eW:BD r=(r.size.w-1).toNat:=rfl;have eN:Bo r=(r.size.w-1).toNat+(r.size.h-1).toNat:=rfl;refine⟨⟨0,rfl,rfl,rfl,Afg _⟩,fun k hk=>⟨fun hc=>?_,fun hc=>?_⟩⟩
 ·have hc:(k:Int)+1<r.size.w:=of_decide_eq_true hc;have hk:k<=BD r:=hk;have hlt:k<BD r:=by omega
  have eU:AN r k=true:=decide_eq_true hlt;exact⟨rfl,by omega,by unfold AH;rw[eU];rfl,⟨(fun h=>by cases h),fun _=>⟨E9,k+1,rfl,rfl,rfl,rfl,rfl,hlt,by omega⟩⟩,fun _=>.inr rfl,(fun h=>by cases h)⟩
 ·have hc:¬ (k:Int)+1<r.size.w:=of_decide_eq_false hc;have hk:k<=BD r:=hk;refine⟨⟨0,by omega,rfl,rfl,by omega⟩,fun j hj=>⟨fun hc=>?_,fun hc=>?_⟩⟩
  ·have hc:(j:Int)+1<r.size.h:=of_decide_eq_true hc;have hj:BD r+j<=Bo r:=hj;have eU:AN r (BD r+j)=false:=decide_eq_false (by omega);exact⟨rfl,by omega,by unfold AH;rw[eU,Nat.add_sub_cancel_left];rfl,⟨(fun h=>by cases h),fun _=>⟨E9,j+1,rfl,rfl,rfl,rfl,rfl,by omega,by omega⟩⟩,fun _=>.inr rfl,(fun h=>by cases h)⟩
  ·have hc:¬ (j:Int)+1<r.size.h:=of_decide_eq_false hc;have hj:BD r+j<=Bo r:=hj;exact .inl (by omega))
theorem AbR:H7 Tryz.prog 152 bM:=Na Tryz.func152 (c:=Ah Tryz.f152) (by kernel_rfl) mixed (fun caps l p n g hs hp=>by
 unfold bL at hs;split at hs
 ·cases hs;exact⟨_,_,AbQ l _ hp,(.cons (AX.refl _) .nil),rfl,show Aa Tryz.prog _ from Aa.nil,⟨show Ag Tryz.prog _ from Ag.nil,Aw.none (fun _=>rfl)⟩⟩
 ·cases hs)
theorem AbS:Ao Tryz.prog 152:=fun args w=>by kernel_rfl
def bN (r:AE) (id:Int) (up:Bool) (b:Int):Prop:=Db r/\0<=b/\b<=4096
def bO (r:AE) (id:Int) (up:Bool) (b:Int):SV:=(.agg [.int .i64 ((BC r id up b).sheet),.int .i64 ((BC r id up b).kind),.int .i64 ((BC r id up b).want),.sl 2 (BC r id up b).pts.n (fun i=>[.int .i64 (((BC r id up b).pts.g i).x),.int .i64 (((BC r id up b).pts.g i).y)])])
def bP:List EV->Option (Prop×SV)
 |[.p (.agg [.int .i64 r_at__x,.int .i64 r_at__y,.int .i64 r_size_w,.int .i64 r_size_h]),.p (.int .i64 id),.p (.bool up),.p (.int .i64 b)]=>some (bN (⟨(⟨r_at__x,r_at__y⟩:L.Pt),(⟨r_size_w,r_size_h⟩:Ac)⟩:AE) id up b,bO (⟨(⟨r_at__x,r_at__y⟩:L.Pt),(⟨r_size_w,r_size_h⟩:Ac)⟩:AE) id up b)
 |_=>none
abbrev QG:SE.Spec:=(AK bP)
def AbT:Ak:={ cC with muts:=[8,9,10] }
theorem AbU (r:AE) (id:Int) (up:Bool) (b:Int) (hp:bN r id up b):vc Tryz.prog (AbT) (Ah Tryz.f128) (Ap Tryz.f128 [.p (.agg [.int .i64 r.at_.x,.int .i64 r.at_.y,.int .i64 r.size.w,.int .i64 r.size.h]),.p (.int .i64 id),.p (.bool up),.p (.int .i64 b)]) (AJ Tryz.prog Tryz.f128 (bO r id up b)):=
 @Eq.mpr _ (let I:=SV.int .i64;let A3:=(r.at_.y+b);let A2:=(r.at_.x+b);let A1:=(BC r id up b);Ad .i64 (r.at_.x+r.size.w)/\Ad .i64 (r.at_.y+r.size.h)/\(up=true->Ad .i64 A2/\id=A1.sheet/\(1:Int)=A1.kind/\(0:Int)=A1.want/\nat_lit 2=A1.pts.n/\∀(i:Nat),i<nat_lit 2->BX [I A2,I r.at_.y,I A2,I (r.at_.y+r.size.h)] (nat_lit 2) i = [I (A1.pts.g i).x,I (A1.pts.g i).y])/\(up=false->Ad .i64 A3/\id=A1.sheet/\(1:Int)=A1.kind/\(0:Int)=A1.want/\nat_lit 2=A1.pts.n/\∀(i:Nat),i<nat_lit 2->BX [I r.at_.x,I A3,I (r.at_.x+r.size.w),I A3] (nat_lit 2) i = [I (A1.pts.g i).x,I (A1.pts.g i).y])) (by kernel_rfl) (by
 conv=>zeta
 obtain⟨⟨h1,h2,h3,h4,h5,h6⟩,hb,hb'⟩:=(show Db r/\0<=b/\b<=4096 from hp);refine⟨E9,E9,fun h=>?_,fun h=>?_⟩<;>subst h<;>exact⟨E9,rfl,rfl,rfl,rfl,fun i hi=>by match i,hi with|0,_=>rfl|1,_=>rfl⟩)
theorem bQ:Av Tryz.prog 128 QG:=AM Tryz.func128 (c:=Ah Tryz.f128) (by kernel_rfl) mixed (fun args p r hs hp=>by
 unfold bP at hs;split at hs
 ·cases hs;exact⟨_,_,AbU _ _ _ _ hp,(.same _ (.same _ (.same _ (.same _ .nil)))),⟨show Aa Tryz.prog _ from Aa.nil,rfl,⟨show Ag Tryz.prog _ from Ag.nil,(Aw.none (fun _=>rfl))⟩⟩⟩
 ·cases hs)
theorem bR:Ao Tryz.prog 128:=fun args w=>by kernel_rfl
abbrev Kw:Tr:={ T:=(L.Sq Ab)×(Aj)×(Int->Bool)×(Nat->AZ)×(List AY)×(Nat)×(AE)×(Int),U:=Nat,args:=fun t=>(fun w sh dom P S i r t=>[.p (.int .i64 t),.p (.ref [.int .i64 ((w.g i).id),.int .i64 ((w.g i).colour),.int .i64 ((w.g i).grain),.sl 2 (w.g i).ol.n (fun i1=>[.int .i64 (((w.g i).ol.g i1).x),.int .i64 (((w.g i).ol.g i1).y)])] 0),.loc 1006 0,.loc 1007 0]) t.1 t.2.1 t.2.2.1 t.2.2.2.1 t.2.2.2.2.1 t.2.2.2.2.2.1 t.2.2.2.2.2.2.1 t.2.2.2.2.2.2.2,own:=fun t=>(fun w sh dom P S i r t=>[(1000,.blk 130 [.p ((.sl 4 w.n (fun i=>[.int .i64 ((w.g i).id),.int .i64 ((w.g i).colour),.int .i64 ((w.g i).grain),.sl 2 (w.g i).ol.n (fun i1=>[.int .i64 (((w.g i).ol.g i1).x),.int .i64 (((w.g i).ol.g i1).y)])]))),.p (.int .i64 sh.grain),.mapv 1001]),(1001,.mq 3 27 dom (Ai (Ae w sh.grain))),(1002,.blk 93 [.loc 1000 0,.p (.int .i64 sh.id),.p (.int .i64 sh.colour),.p (.int .i64 sh.w),.p (.int .i64 sh.h),.p (.int .i64 sh.grain),.row 1003,.row 1004]),(1003,.row 76 5 w.n (fun k=>[.int .i64 ((P k).want),.int .i64 ((P k).sheet),.int .i64 ((P k).turn),.int .i64 ((P k).at_.x),.int .i64 ((P k).at_.y)])),(1004,.row 101 4 (AA (S)).n (fun k=>AL ((AA (S)).g k))),(1006,.blk 90 [.loc 1002 0]),(1007,.blk 146 [.p (.int .i64 r.at_.x),.p (.int .i64 r.at_.y),.p (.int .i64 r.size.w),.p (.int .i64 r.size.h)])]) t.1 t.2.1 t.2.2.1 t.2.2.2.1 t.2.2.2.2.1 t.2.2.2.2.2.1 t.2.2.2.2.2.2.1 t.2.2.2.2.2.2.2,pre:=fun t=>(fun w sh dom P S i r t=>(w.g i).ol.n<=1000000) t.1 t.2.1 t.2.2.1 t.2.2.2.1 t.2.2.2.2.1 t.2.2.2.2.2.1 t.2.2.2.2.2.2.1 t.2.2.2.2.2.2.2,post:=fun t u=>(fun w sh dom P S i r t=>fun u=>True) t.1 t.2.1 t.2.2.1 t.2.2.2.1 t.2.2.2.2.1 t.2.2.2.2.2.1 t.2.2.2.2.2.2.1 t.2.2.2.2.2.2.2 u,own':=fun t u=>(fun w sh dom P S i r t=>fun u=>[(1000,.blk 130 [.p ((.sl 4 w.n (fun i=>[.int .i64 ((w.g i).id),.int .i64 ((w.g i).colour),.int .i64 ((w.g i).grain),.sl 2 (w.g i).ol.n (fun i1=>[.int .i64 (((w.g i).ol.g i1).x),.int .i64 (((w.g i).ol.g i1).y)])]))),.p (.int .i64 sh.grain),.mapv 1001]),(1001,.mq 3 27 dom (Ai (Ae w sh.grain))),(1002,.blk 93 [.loc 1000 0,.p (.int .i64 sh.id),.p (.int .i64 sh.colour),.p (.int .i64 sh.w),.p (.int .i64 sh.h),.p (.int .i64 sh.grain),.row 1003,.row 1004]),(1003,.row 76 5 w.n (fun k=>[.int .i64 ((P k).want),.int .i64 ((P k).sheet),.int .i64 ((P k).turn),.int .i64 ((P k).at_.x),.int .i64 ((P k).at_.y)])),(1004,.row 101 4 (AA (S)).n (fun k=>AL ((AA (S)).g k))),(1006,.blk 90 [.loc 1002 0]),(1007,.blk 146 [.p (.int .i64 r.at_.x),.p (.int .i64 r.at_.y),.p (.int .i64 r.size.w),.p (.int .i64 r.size.h)])]) t.1 t.2.1 t.2.2.1 t.2.2.2.1 t.2.2.2.2.1 t.2.2.2.2.2.1 t.2.2.2.2.2.2.1 t.2.2.2.2.2.2.2 u,res:=fun t u=>(fun w sh dom P S i r t=>fun u=>.p (.bool (GU w sh.grain i r t))) t.1 t.2.1 t.2.2.1 t.2.2.2.1 t.2.2.2.2.1 t.2.2.2.2.2.1 t.2.2.2.2.2.2.1 t.2.2.2.2.2.2.2 u }
theorem AbV (w:L.Sq Ab) (sh:Aj) (dom:Int->Bool) (P:Nat->AZ) (S:List AY) (i:Nat) (r:AE) (t:Int) (hp:Kw.pre (w,sh,dom,P,S,i,r,t)):vc Tryz.prog ({ cC with specs:=AB [(74,Ny),(73,PW)] }) (Ah Tryz.f151) (D7 Tryz.f151 (Kw.args (w,sh,dom,P,S,i,r,t)) (Kw.own (w,sh,dom,P,S,i,r,t))) (Pn Tryz.prog Tryz.f151 Kw (w,sh,dom,P,S,i,r,t)):=
 @Eq.mpr _ (let I:=SV.int .i64;let A5:=(AA S);let A3:=(Bv (L.Sq.mk (w.g i).ol.n fun(i_1:Nat)=>(w.g i).ol.g i_1) t);((∀(i_1:Nat),let A4:=((w.g i).ol.g i_1);i_1<(w.g i).ol.n -> [I A4.x,I A4.y]= [I A4.x,I A4.y])/\(w.g i).ol.n<=(1000000:Nat))/\True/\∃(u:Nat),(bif bif Cz (w.g i).grain sh.grain t then decide (A3.w<=r.size.w)else false then decide (A3.h<=r.size.h)else false)=GU w sh.grain i r t/\(w.n=w.n/\∀(i:Nat),let A1:=[I (w.g i).id,I (w.g i).colour,I (w.g i).grain,SV.sl (2:Nat) (w.g i).ol.n fun(i1:Nat)=>[I ((w.g i).ol.g i1).x,I ((w.g i).ol.g i1).y]];i<w.n->A1=A1)/\sh.grain=sh.grain/\(∀(x:Int),dom x=dom x)/\(∀(x:Int),dom x=true->Ai (Ae w sh.grain) x=Ai (Ae w sh.grain) x)/\nat_lit 0=(0:Nat)/\sh.id=sh.id/\sh.colour=sh.colour/\sh.w=sh.w/\sh.h=sh.h/\sh.grain=sh.grain/\(w.n=w.n/\∀(i:Nat),let A2:=[I (P i).want,I (P i).sheet,I (P i).turn,I (P i).at_.x,I (P i).at_.y];i<w.n->A2=A2)/\(A5.n=A5.n/\∀(i:Nat),i<A5.n->AL (A5.g i)=AL (A5.g i))/\nat_lit 0=(0:Nat)/\r.at_.x=r.at_.x/\r.at_.y=r.at_.y/\r.size.w=r.size.w/\r.size.h=r.size.h/\True) (by kernel_rfl) (by
 conv=>zeta
 have ho:(w.g i).ol.n<=1000000:=hp;exact⟨⟨fun _ _=>rfl,ho⟩,trivial,(0:Nat),rfl,⟨rfl,fun _ _=>rfl⟩,rfl,fun _=>rfl,fun _ _=>rfl,rfl,rfl,rfl,rfl,rfl,rfl,⟨rfl,fun _ _=>rfl⟩,⟨rfl,fun _ _=>rfl⟩,rfl,rfl,rfl,rfl,rfl,trivial⟩)
theorem AbW:Ao Tryz.prog 151:=fun args w=>by kernel_rfl
theorem AbX:Gn Tryz.prog 151 Kw:=T0 (ks:=[1000,1001,1002,1003,1004,1006,1007]) (n:=4) Tryz.func151 (c:=Ah Tryz.f151) (by kernel_rfl) mixed ⟨fun t=>rfl,fun t=>rfl,fun t u=>rfl,fun t u=>rfl,fun t u=>rfl,by kernel_rfl⟩ (fun⟨w,sh,dom,P,S,i,r,t⟩ hp=>⟨_,AbV w sh dom P S i r t hp,⟨show Aa Tryz.prog _ from(Aa.cons PT PU (Aa.cons XL XM Aa.nil)),rfl,⟨show Ag Tryz.prog _ from Ag.nil,(Aw.none (fun _=>rfl))⟩⟩⟩)
abbrev Kx:Mk:={ T:=(L.Sq Ab)×(Aj)×(Int->Bool)×(Nat->AZ)×(List AY)×(Nat)×(AE),U:=Nat,args:=fun t=>(fun w sh dom P S i r=>[.loc 1002 0,.p (.int .i64 (i:Int)),.p ((.agg [.int .i64 r.at_.x,.int .i64 r.at_.y,.int .i64 r.size.w,.int .i64 r.size.h]))]) t.1 t.2.1 t.2.2.1 t.2.2.2.1 t.2.2.2.2.1 t.2.2.2.2.2.1 t.2.2.2.2.2.2,lkeys:=[1000,1001,1002,1003,1004],keys:=[],lent:=fun t=>(fun w sh dom P S i r=>[(1000,.blk 130 [.p ((.sl 4 w.n (fun i=>[.int .i64 ((w.g i).id),.int .i64 ((w.g i).colour),.int .i64 ((w.g i).grain),.sl 2 (w.g i).ol.n (fun i1=>[.int .i64 (((w.g i).ol.g i1).x),.int .i64 (((w.g i).ol.g i1).y)])]))),.p (.int .i64 sh.grain),.mapv 1001]),(1001,.mq 3 27 dom (Ai (Ae w sh.grain))),(1002,.blk 93 [.loc 1000 0,.p (.int .i64 sh.id),.p (.int .i64 sh.colour),.p (.int .i64 sh.w),.p (.int .i64 sh.h),.p (.int .i64 sh.grain),.row 1003,.row 1004]),(1003,.row 76 5 w.n (fun k=>[.int .i64 ((P k).want),.int .i64 ((P k).sheet),.int .i64 ((P k).turn),.int .i64 ((P k).at_.x),.int .i64 ((P k).at_.y)])),(1004,.row 101 4 (AA (S)).n (fun k=>AL ((AA (S)).g k)))]) t.1 t.2.1 t.2.2.1 t.2.2.2.1 t.2.2.2.2.1 t.2.2.2.2.2.1 t.2.2.2.2.2.2,pre:=fun t=>(fun w sh dom P S i r=>i<w.n/\w.n<=4/\(w.g i).ol.n<=1000000/\Db r/\(AA S).n<=1000) t.1 t.2.1 t.2.2.1 t.2.2.2.1 t.2.2.2.2.1 t.2.2.2.2.2.1 t.2.2.2.2.2.2,post:=fun t u=>(fun w sh dom P S i r=>fun uu=>True) t.1 t.2.1 t.2.2.1 t.2.2.2.1 t.2.2.2.2.1 t.2.2.2.2.2.1 t.2.2.2.2.2.2 u,lent':=fun t u=>(fun w sh dom P S i r=>fun uu=>[(1000,.blk 130 [.p ((.sl 4 w.n (fun i=>[.int .i64 ((w.g i).id),.int .i64 ((w.g i).colour),.int .i64 ((w.g i).grain),.sl 2 (w.g i).ol.n (fun i1=>[.int .i64 (((w.g i).ol.g i1).x),.int .i64 (((w.g i).ol.g i1).y)])]))),.p (.int .i64 sh.grain),.mapv 1001]),(1001,.mq 3 27 dom (Ai (Ae w sh.grain))),(1002,.blk 93 [.loc 1000 0,.p (.int .i64 sh.id),.p (.int .i64 sh.colour),.p (.int .i64 sh.w),.p (.int .i64 sh.h),.p (.int .i64 sh.grain),.row 1003,.row 1004]),(1003,.row 76 5 w.n (fun k=>[.int .i64 (((D9 w sh i r P) k).want),.int .i64 (((D9 w sh i r P) k).sheet),.int .i64 (((D9 w sh i r P) k).turn),.int .i64 (((D9 w sh i r P) k).at_.x),.int .i64 (((D9 w sh i r P) k).at_.y)])),(1004,.row 101 4 (AA (E8 w sh i r S)).n (fun k=>AL ((AA (E8 w sh i r S)).g k)))]) t.1 t.2.1 t.2.2.1 t.2.2.2.1 t.2.2.2.2.1 t.2.2.2.2.2.1 t.2.2.2.2.2.2 u,own:=fun t u=>(fun w sh dom P S i r=>fun uu=>[]) t.1 t.2.1 t.2.2.1 t.2.2.2.1 t.2.2.2.2.1 t.2.2.2.2.2.1 t.2.2.2.2.2.2 u,res:=fun t u=>(fun w sh dom P S i r=>fun uu=>.p (.tup [])) t.1 t.2.1 t.2.2.1 t.2.2.2.1 t.2.2.2.2.1 t.2.2.2.2.2.1 t.2.2.2.2.2.2 u,mv:=some (1004,80) }
theorem AbY (w:L.Sq Ab) (sh:Aj) (dom:Int->Bool) (P:Nat->AZ) (S:List AY) (i:Nat) (r:AE) (hp:Kx.pre (w,sh,dom,P,S,i,r)):vc Tryz.prog ({ cC with muts:=[3,5],frz:=B2 [(3,[6])],specs:=AB [(74,Ny),(128,QG),(127,QE)],trs:=HF [(151,Kw)],ren:=fun k=>if k=1006 then 3 else if k=1007 then 5 else if k=1004 then 80 else k,joins:=AV [(6,{ T:=Nat,keep:=[1,3,5,6],keepO:=[3,5,80,1000,1001,1002,1003],chg:=fun _=>[(7,.p (.int .i64 (E6 w sh.grain i r)))],own:=fun _=>[],inv:=fun _=>True,mu:=fun _=>0 }),(8,{ T:=Nat,keep:=[3,5,9],keepO:=[3,5,80,1000,1001,1002],chg:=fun _=>[],own:=fun _=>[(9,.blk 74 [.p (.int .i64 (BS w sh i r).w),.p (.int .i64 (BS w sh i r).h)]),(1003,.row 76 5 w.n (fun k=>[.int .i64 (((D9 w sh i r P) k).want),.int .i64 (((D9 w sh i r P) k).sheet),.int .i64 (((D9 w sh i r P) k).turn),.int .i64 (((D9 w sh i r P) k).at_.x),.int .i64 (((D9 w sh i r P) k).at_.y)]))],inv:=fun _=>True,mu:=fun _=>0 }),(10,{ T:=Nat,keep:=[3,5,9],keepO:=[3,5,9,1000,1001,1002,1003],chg:=fun _=>[],own:=fun _=>[(80,.row 101 4 (AA (B9 S (BC r sh.id true (BS w sh i r).w))).n (fun k=>AL ((AA (B9 S (BC r sh.id true (BS w sh i r).w))).g k)))],inv:=fun _=>True,mu:=fun _=>0 }),(11,{ T:=Nat,keep:=[3,5,9],keepO:=[3,9,1000,1001,1002,1003],chg:=fun _=>[],own:=fun _=>[(80,.row 101 4 (AA (E7 w sh i r S)).n (fun k=>AL ((AA (E7 w sh i r S)).g k))),(5,.blk 146 [.p (.int .i64 (ET w sh i r).at_.x),.p (.int .i64 (ET w sh i r).at_.y),.p (.int .i64 (ET w sh i r).size.w),.p (.int .i64 (ET w sh i r).size.h)])],inv:=fun _=>True,mu:=fun _=>0 })],anys:=[1009,1012],rek:=KJ [(1,[(1004,80)])] }) (Ah Tryz.f125) (D7 Tryz.f125 (Kx.args (w,sh,dom,P,S,i,r)) (Kx.lent (w,sh,dom,P,S,i,r))) (Fx Tryz.prog Tryz.f125 Kx (w,sh,dom,P,S,i,r)):=
 @Eq.mpr _ (let I:=SV.int .i64;let T:=Af1;let A45:=(E6 w sh.grain i r);let A44:=(0:Int);let A41:=(2:Nat);let A37:=(nat_lit 0);let A36:=(0:Nat);let A34:=(Ae w sh.grain);let A31:=(140737488355328:Nat);let A28:=(↑i:Int);let A39:=(A44<=A28/\A28<(↑w.n:Int));let A27:=(AA (E8 w sh i r S));let A19:=(AA S);let A14:=(∀(x
:Int),dom x=dom x);let A12:=(ET w sh i r);let A10:=(w.g (T A28));let A24:=(Bv (L.Sq.mk A10.ol.n fun(i_1:Nat)=>A10.ol.g i_1) A45);let A9:=(AA (E7 w sh i r S));let A6:=(∀(x:Int),dom x=true->Ai A34 x=Ai A34 x);let A4:=(BS w sh i r);let A35:=(Db r/\A44<=A4.w/\A4.w<=(4096:Int));let A29:=(Bc r true A4.w);let A16
:=(BC A12 sh.id false A4.h);let A7:=(BC r sh.id true A4.w);let A20:=(AA (B9 S A7));let A21:=(A19.n+nat_lit 1=A20.n/\∀(i_1:Nat),i_1<A19.n+nat_lit 1->AU A19.n (fun(k:Nat)=>AL (A19.g k)) (fun(x:Nat)=>[I A7.sheet,I A7.kind,I A7.want,SV.sl (nat_lit 2) A7.pts.n fun(i_2:Nat)=>[I (A7.pts.g i_2).x,I (A7.pts.g i_2).y]]) i_1
 = AL (A20.g i_1));let A3:=[I A10.id,I A10.colour,I A10.grain,SV.sl (nat_lit 2) A10.ol.n fun(i1:Nat)=>[I (A10.ol.g i1).x,I (A10.ol.g i1).y]];let A2:=(w.n=w.n/\∀(i_1:Nat),let A13:=(D9 w sh i r P i_1);let A30:=[I A13.want,I A13.sheet,I A13.turn,I A13.at_.x,I A13.at_.y];i_1<w.n->A30=A30);let A1:=(w.n=w.n/\∀(i:Nat),let A18:=[I (w.g i).id,I
 (w.g i).colour,I (w.g i).grain,SV.sl A41 (w.g i).ol.n fun(i1:Nat)=>[I ((w.g i).ol.g i1).x,I ((w.g i).ol.g i1).y]];i<w.n->A18=A18);A39/\(∃(t:L.Sq Ab×Aj×(Int->Bool)×(Nat->AZ)×List AY×Nat×AE×Int),let A46:=(Ae t.1 t.2.1.grain);let A40:=(∀(x:Int),t.snd.2.1 x=dom x);let A23:=(!GU t.1 t.2.1.grain t.snd.snd.snd.snd.2.1
 t.snd.snd.snd.snd.snd.2.1 t.snd.snd.snd.snd.snd.2.2);let A22:=(∀(x:Int),t.snd.2.1 x=true->Ai A46 x=Ai A34 x);let A17:=(AA t.snd.snd.snd.2.1);let A26:=(A17.n=A19.n/\∀(i:Nat),i<A17.n->AL (A17.g i)=AL (A19.g i));let A15:=(t.1.g t.snd.snd.snd.snd.2.1);let A11:=(t.1.n=w.n/\∀(i:Nat),let A32:=(t.snd.snd.2.1 i);i<t.1.n -> [I A32.want,I
 A32.sheet,I A32.turn,I A32.at_.x,I A32.at_.y]= [I (P i).want,I (P i).sheet,I (P i).turn,I (P i).at_.x,I (P i).at_.y]);let A8:=(t.1.n=w.n/\∀(i:Nat),let A42:=(t.1.g i);i<t.1.n -> [I A42.id,I A42.colour,I A42.grain,SV.sl A41 A42.ol.n fun(i1:Nat)=>[I (A42.ol.g i1).x,I (A42.ol.g i1).y]]= [I (w.g i).id,I (w.g i).colour,I (w.g i).grain,SV.sl A41 (w.g i).ol.n
 fun(i1:Nat)=>[I ((w.g i).ol.g i1).x,I ((w.g i).ol.g i1).y]]);A44=t.snd.snd.snd.snd.snd.2.2/\SV.ref A3 A37=SV.ref [I A15.id,I A15.colour,I A15.grain,SV.sl A41 A15.ol.n fun(i1:Nat)=>[I (A15.ol.g i1).x,I (A15.ol.g i1).y]] A36/\nat_lit 0=A36/\nat_lit 0=A36/\(w.n=t.1.n/\∀(i:Nat),let A43:=(t.1.g i);i<w.n -> [I (w.g i).id,I (w.g i).colour,I (w.g
 i).grain,SV.sl A41 (w.g i).ol.n fun(i1:Nat)=>[I ((w.g i).ol.g i1).x,I ((w.g i).ol.g i1).y]]= [I A43.id,I A43.colour,I A43.grain,SV.sl A41 A43.ol.n fun(i1:Nat)=>[I (A43.ol.g i1).x,I (A43.ol.g i1).y]])/\sh.grain=t.2.1.grain/\(∀(x:Int),dom x=t.snd.2.1 x)/\(∀(x:Int),dom x=true->Ai A34 x=Ai A46 x)/\nat_lit 0=A36/\sh.id=t.2.1.id /\
 sh.colour=t.2.1.colour/\sh.w=t.2.1.w/\sh.h=t.2.1.h/\sh.grain=t.2.1.grain/\(w.n=t.1.n/\∀(i:Nat),let A33:=(t.snd.snd.2.1 i);i<w.n -> [I (P i).want,I (P i).sheet,I (P i).turn,I (P i).at_.x,I (P i).at_.y]= [I A33.want,I A33.sheet,I A33.turn,I A33.at_.x,I A33.at_.y])/\(A19.n=A17.n/\∀(i:Nat),i<A19.n->AL (A19.g i)=AL (A17.g i))/\nat_lit 0=A36 /\
 r.at_.x=t.snd.snd.snd.snd.snd.2.1.at_.x/\r.at_.y=t.snd.snd.snd.snd.snd.2.1.at_.y/\r.size.w=t.snd.snd.snd.snd.snd.2.1.size.w/\r.size.h=t.snd.snd.snd.snd.snd.2.1.size.h/\A15.ol.n<=(1000000:Nat)/\∀(u:Nat),True->(A23=true->∃(g:Nat),(1:Int)=E6 w sh.grain i r/\SV.ref A3 A37=SV.ref A3 A37/\nat_lit 0=nat_lit 0/\nat_lit 0=nat_lit 0/\A28=A28
 /\ t.snd.snd.snd.snd.snd.2.1.at_.x=r.at_.x/\t.snd.snd.snd.snd.snd.2.1.at_.y=r.at_.y/\t.snd.snd.snd.snd.snd.2.1.size.w=r.size.w/\t.snd.snd.snd.snd.snd.2.1.size.h=r.size.h/\nat_lit 0=nat_lit 0/\A8/\t.2.1.grain=sh.grain/\A40/\A22/\nat_lit 0=nat_lit 0/\t.2.1.id=sh.id/\t.2.1.colour=sh.colour/\t.2.1.w=sh.w/\t.2.1.h=sh.h/\t.2.1.grain=sh.grain/\A11/\A26/\True) /\
 (A23=false->∃(g:Nat),A44=E6 w sh.grain i r/\SV.ref A3 A37=SV.ref A3 A37/\nat_lit 0=nat_lit 0/\nat_lit 0=nat_lit 0/\A28=A28/\t.snd.snd.snd.snd.snd.2.1.at_.x=r.at_.x/\t.snd.snd.snd.snd.snd.2.1.at_.y=r.at_.y/\t.snd.snd.snd.snd.snd.2.1.size.w=r.size.w/\t.snd.snd.snd.snd.snd.2.1.size.h=r.size.h/\nat_lit 0=nat_lit 0/\A8/\t.2.1.grain=sh.grain
 /\ A40/\A22/\nat_lit 0=nat_lit 0/\t.2.1.id=sh.id/\t.2.1.colour=sh.colour/\t.2.1.w=sh.w/\t.2.1.h=sh.h/\t.2.1.grain=sh.grain/\A11/\A26/\True))/\∀(g:Nat),True->((∀(i_1:Nat),let A38:=[I (A10.ol.g i_1).x,I (A10.ol.g i_1).y];i_1<A10.ol.n->A38=A38)/\A10.ol.n<=(1000000:Nat))/\(A39/\T A28<w.n/\∃(g:Nat),nat_lit 0=nat_lit 0/\nat_lit 0=nat_lit 0 /\
 nat_lit 0=nat_lit 0/\A24.w=A4.w/\A24.h=A4.h/\(w.n=w.n/\∀(i_1:Nat),let A25:=(D9 w sh i r P i_1);i_1<w.n->setRow (fun(k:Nat)=>[I (P k).want,I (P k).sheet,I (P k).turn,I (P k).at_.x,I (P k).at_.y]) (T A28) A37 [I A10.id,I sh.id,I A45,I r.at_.x,I r.at_.y] i_1 = [I A25.want,I A25.sheet,I A25.turn,I A25.at_.x,I A25.at_.y])/\r.at_.x=r.at_.x/\r.at_.y =
 r.at_.y/\r.size.w=r.size.w/\r.size.h=r.size.h/\nat_lit 0=nat_lit 0/\A1/\sh.grain=sh.grain/\A14/\A6/\nat_lit 0=nat_lit 0/\sh.id=sh.id/\sh.colour=sh.colour/\sh.w=sh.w/\sh.h=sh.h/\sh.grain=sh.grain/\(A19.n=A19.n/\∀(i:Nat),i<A19.n->AL (A19.g i)=AL (A19.g i))/\True)/\∀(g_1:Nat),True->((decide (A4.w<r.size.w)=true->(A35 /\
 ((A19.n+nat_lit 1)*nat_lit 48<=A31/\∃(g:Nat),nat_lit 0=nat_lit 0/\nat_lit 0=nat_lit 0/\nat_lit 0=nat_lit 0/\A21/\A4.w=A4.w/\A4.h=A4.h/\A2/\r.at_.x=r.at_.x/\r.at_.y=r.at_.y/\r.size.w=r.size.w/\r.size.h=r.size.h/\nat_lit 0=nat_lit 0/\A1/\sh.grain=sh.grain/\A14/\A6/\nat_lit 0=nat_lit 0/\sh.id=sh.id/\sh.colour=sh.colour/\sh.w=sh.w/\sh.h =
 sh.h/\sh.grain=sh.grain/\True)/\(A19.n+nat_lit 1)*nat_lit 48<=A31/\∃(g:Nat),nat_lit 0=nat_lit 0/\nat_lit 0=nat_lit 0/\nat_lit 0=nat_lit 0/\A21/\A4.w=A4.w/\A4.h=A4.h/\A2/\r.at_.x=r.at_.x/\r.at_.y=r.at_.y/\r.size.w=r.size.w/\r.size.h=r.size.h/\nat_lit 0=nat_lit 0/\A1/\sh.grain=sh.grain/\A14/\A6/\nat_lit 0=nat_lit 0/\sh.id=sh.id/\sh.colour =
 sh.colour/\sh.w=sh.w/\sh.h=sh.h/\sh.grain=sh.grain/\True)/\∀(g_2:Nat),True->A35/\∃(g:Nat),nat_lit 0=nat_lit 0/\nat_lit 0=nat_lit 0/\nat_lit 0=nat_lit 0/\(A20.n=A9.n/\∀(i_1:Nat),i_1<A20.n->AL (A20.g i_1)=AL (A9.g i_1))/\A29.at_.x=A12.at_.x/\A29.at_.y=A12.at_.y/\A29.size.w=A12.size.w/\A29.size.h=A12.size.h/\A4.w=A4.w/\A4.h=A4.h/\A2 /\
 nat_lit 0=nat_lit 0/\A1/\sh.grain=sh.grain/\A14/\A6/\nat_lit 0=nat_lit 0/\sh.id=sh.id/\sh.colour=sh.colour/\sh.w=sh.w/\sh.h=sh.h/\sh.grain=sh.grain/\True)/\(decide (A4.w<r.size.w)=false->∃(g:Nat),nat_lit 0=nat_lit 0/\nat_lit 0=nat_lit 0/\nat_lit 0=nat_lit 0/\(A19.n=A9.n/\∀(i_1:Nat),i_1<A19.n->AL (A19.g i_1)=AL (A9.g
 i_1))/\r.at_.x=A12.at_.x/\r.at_.y=A12.at_.y/\r.size.w=A12.size.w/\r.size.h=A12.size.h/\A4.w=A4.w/\A4.h=A4.h/\A2/\nat_lit 0=nat_lit 0/\A1/\sh.grain=sh.grain/\A14/\A6/\nat_lit 0=nat_lit 0/\sh.id=sh.id/\sh.colour=sh.colour/\sh.w=sh.w/\sh.h=sh.h/\sh.grain=sh.grain/\True))/\∀(g:Nat),let A5:=(A9.n+nat_lit 1=A27.n/\∀(i_1:Nat),i_1<A9.n +
 nat_lit 1->AU A9.n (fun(k:Nat)=>AL (A9.g k)) (fun(x:Nat)=>[I A16.sheet,I A16.kind,I A16.want,SV.sl (nat_lit 2) A16.pts.n fun(i_2:Nat)=>[I (A16.pts.g i_2).x,I (A16.pts.g i_2).y]]) i_1=AL (A27.g i_1));True->(decide (A4.h<A12.size.h)=true->(Db A12/\A44<=A4.h/\A4.h<=(4096:Int))/\((A9.n+nat_lit 1)*nat_lit 48<=A31/\∃(u :
 Nat),A1/\sh.grain=sh.grain/\A14/\A6/\nat_lit 0=A36/\sh.id=sh.id/\sh.colour=sh.colour/\sh.w=sh.w/\sh.h=sh.h/\sh.grain=sh.grain/\A2/\A5/\True)/\(A9.n+nat_lit 1)*nat_lit 48<=A31/\∃(u:Nat),A1/\sh.grain=sh.grain/\A14/\A6/\nat_lit 0=A36/\sh.id=sh.id/\sh.colour=sh.colour/\sh.w=sh.w/\sh.h=sh.h/\sh.grain=sh.grain/\A2/\A5/\True) /\
 (decide (A4.h<A12.size.h)=false->∃(u:Nat),A1/\sh.grain=sh.grain/\A14/\A6/\nat_lit 0=A36/\sh.id=sh.id/\sh.colour=sh.colour/\sh.w=sh.w/\sh.h=sh.h/\sh.grain=sh.grain/\A2/\(A9.n=A27.n/\∀(i_1:Nat),i_1<A9.n->AL (A9.g i_1)=AL (A27.g i_1))/\True)) (by kernel_rfl) (by
  conv=>zeta
  have hp:i<w.n/\w.n<=4/\(w.g i).ol.n<=1000000/\Db r/\S.length<=1000:=hp;obtain⟨hi,hw4,ho,hA,hS⟩:=hp;have hiw:0<=(i:Int)/\(i:Int)<(w.n:Int):=⟨Af7 _,by omega⟩;obtain⟨b1,b2,b3,b4⟩:=aW w sh i r;have hA1:=AbH w sh i hA;have sz:((AA S).n+1)*48<=140737488355328:=by show(S.length+1)*48<=_;omega
  have sz1:((AA (E7 w sh i r S)).n+1)*48<=140737488355328:=by show((E7 w sh i r S).length+1)*48<=_;have:=AbI w sh i r S;omega
  refine⟨hiw,⟨(w,sh,dom,P,S,i,r,0),rfl,rfl,rfl,rfl,⟨rfl,fun _ _=>rfl⟩,rfl,fun _=>rfl,fun _ _=>rfl,rfl,rfl,rfl,rfl,rfl,rfl,⟨rfl,fun _ _=>rfl⟩,⟨rfl,fun _ _=>rfl⟩,rfl,rfl,rfl,rfl,rfl,ho,fun u _=>⟨fun hf=>?_,fun hf=>?_⟩⟩,fun _ _=>⟨⟨fun _ _=>rfl,ho⟩,⟨hiw,hi,(0:Nat),rfl,rfl,rfl,rfl,rfl,⟨rfl,fun j hj=>?_⟩,rfl,rfl,rfl,rfl,rfl,⟨rfl,fun _ _=>rfl⟩,rfl,fun _=>rfl,fun _ _=>rfl,rfl,rfl,rfl,rfl,rfl,rfl,⟨rfl,fun _ _=>rfl⟩,trivial⟩,fun _ _=>⟨⟨fun hc=>⟨?_,fun _ _=>?_⟩,fun hc=>?_⟩,fun _ _=>⟨fun hc=>?_,fun hc=>?_⟩⟩⟩⟩
  ·have hf:GU w sh.grain i r 0=false:=Cx hf;exact⟨(0:Nat),by unfold E6;rw[hf];rfl,rfl,rfl,rfl,rfl,rfl,rfl,rfl,rfl,rfl,⟨rfl,fun _ _=>rfl⟩,rfl,fun _=>rfl,fun _ _=>rfl,rfl,rfl,rfl,rfl,rfl,rfl,⟨rfl,fun _ _=>rfl⟩,⟨rfl,fun _ _=>rfl⟩,trivial⟩
  ·have hf:GU w sh.grain i r 0=true:=Ca hf;exact⟨(0:Nat),by unfold E6;rw[hf];rfl,rfl,rfl,rfl,rfl,rfl,rfl,rfl,rfl,rfl,⟨rfl,fun _ _=>rfl⟩,rfl,fun _=>rfl,fun _ _=>rfl,rfl,rfl,rfl,rfl,rfl,rfl,⟨rfl,fun _ _=>rfl⟩,⟨rfl,fun _ _=>rfl⟩,trivial⟩
  ·unfold setRow D9 Kv
   by_cases e:j=i
   ·subst e;rw[if_pos rfl,if_pos (show j=Af1 (j:Int)from rfl)];try rfl
   ·rw[if_neg e,if_neg (show ¬ j=Af1 (i:Int)from e)]
  ·repeat' with_reducible apply And.intro
   all_goals first|exact hA|exact b1|exact b2|exact sz|exact⟨(0:Nat),rfl,rfl,rfl,LI rfl rfl,rfl,rfl,⟨rfl,fun _ _=>rfl⟩,rfl,rfl,rfl,rfl,rfl,⟨rfl,fun _ _=>rfl⟩,rfl,fun _=>rfl,fun _ _=>rfl,rfl,rfl,rfl,rfl,rfl,rfl,trivial⟩
  ·have e1:E7 w sh i r S=B9 S (BC r sh.id true (BS w sh i r).w):=by unfold E7;rw[hc];rfl
   have e2:ET w sh i r=Bc r true (BS w sh i r).w:=by unfold ET;rw[hc];rfl
   rw[e1,e2];exact⟨⟨hA,b1,b2⟩,(0:Nat),rfl,rfl,rfl,⟨rfl,fun _ _=>rfl⟩,rfl,rfl,rfl,rfl,rfl,rfl,⟨rfl,fun _ _=>rfl⟩,rfl,⟨rfl,fun _ _=>rfl⟩,rfl,fun _=>rfl,fun _ _=>rfl,rfl,rfl,rfl,rfl,rfl,rfl,trivial⟩
  ·have e1:E7 w sh i r S=S:=by unfold E7;rw[hc];rfl
   have e2:ET w sh i r=r:=by unfold ET;rw[hc];rfl
   rw[e1,e2];exact⟨(0:Nat),rfl,rfl,rfl,⟨rfl,fun _ _=>rfl⟩,rfl,rfl,rfl,rfl,rfl,rfl,⟨rfl,fun _ _=>rfl⟩,rfl,⟨rfl,fun _ _=>rfl⟩,rfl,fun _=>rfl,fun _ _=>rfl,rfl,rfl,rfl,rfl,rfl,rfl,trivial⟩
  ·have e1:B9 (E7 w sh i r S) (BC (ET w sh i r) sh.id false (BS w sh i r).h)=E8 w sh i r S:=by unfold E8;rw[hc];rfl
   repeat' with_reducible apply And.intro
   all_goals first|exact hA1|exact b3|exact b4|exact sz1|exact⟨(0:Nat),⟨rfl,fun _ _=>rfl⟩,rfl,fun _=>rfl,fun _ _=>rfl,rfl,rfl,rfl,rfl,rfl,rfl,⟨rfl,fun _ _=>rfl⟩,LI e1 rfl,trivial⟩
  ·have e1:E7 w sh i r S=E8 w sh i r S:=by unfold E8;rw[hc];rfl
   exact⟨(0:Nat),⟨rfl,fun _ _=>rfl⟩,rfl,fun _=>rfl,fun _ _=>rfl,rfl,rfl,rfl,rfl,rfl,rfl,⟨rfl,fun _ _=>rfl⟩,AbG e1,trivial⟩)
theorem AbZ:Ao Tryz.prog 125:=fun args w=>by kernel_rfl
theorem Aca:Dq Tryz.prog 125 Kx:=FE (n:=3) Tryz.func125 (c:=Ah Tryz.f125) (by kernel_rfl) mixed ⟨fun t=>rfl,fun t=>rfl,fun t u=>rfl,fun t u=>rfl,fun t u=>rfl,fun t u=>⟨rfl,rfl⟩,by kernel_rfl,by kernel_rfl⟩ (fun⟨w,sh,dom,P,S,i,r⟩ hp=>⟨_,AbY w sh dom P S i r hp,⟨show Aa Tryz.prog _ from(Aa.cons PT PU (Aa.cons bQ bR (Aa.cons bC bD Aa.nil))),rfl,⟨show Ag Tryz.prog _ from Ag.nil,⟨show DS Tryz.prog _ from(DS.cons AbX AbW DS.nil),⟨GE.no1 (fun _=>rfl),FamsOk.none (fun _=>rfl)⟩⟩⟩⟩⟩)
structure Bx where
 sheet:Int
 a:L.Pt
 b:L.Pt
 beg:Int
def Eb (r:Bx):Prop:=0<=r.a.x/\r.a.x<=r.b.x/\r.b.x<=4096/\0<=r.a.y/\r.a.y<=r.b.y/\r.b.y<=4096
def EA (id:Int) (a b:L.Pt):AY:=⟨id,1,0,QD a b⟩
def De (s:Aj):Bx:=⟨s.id,⟨0,0⟩,⟨s.w,s.h⟩,0⟩
def Du (r:Bx) (up:Bool) (p:Int):Bx:=bif up then⟨r.sheet,r.a,⟨r.a.x+p,r.b.y⟩,r.beg⟩else⟨r.sheet,r.a,⟨r.b.x,r.a.y+p⟩,r.beg⟩
def Dl (r:Bx) (up:Bool) (p:Int):Bx:=bif up then⟨r.sheet,⟨r.a.x+p,r.a.y⟩,r.b,r.beg⟩else⟨r.sheet,⟨r.a.x,r.a.y+p⟩,r.b,r.beg⟩
def DG (a:L.Sq Ac) (up:Bool) (i:Nat):Int:=bif up then(a.g i).w else(a.g i).h
def EB (a b:L.Sq Ac) (w h:Int) (up:Bool) (i:Nat):Bool:=bif up then(decide ((a.g i).h<=h)&&ES b (w-(a.g i).w) h)else(decide ((a.g i).w<=w)&&ES b w (h-(a.g i).h))
def EC (a b:L.Sq Ac) (w h:Int) (up:Bool):Nat->Int
 |0=>0
 |k+1=>bif EB a b w h up k&&(decide (EC a b w h up k=0)||decide (DG a up k<EC a b w h up k))then DG a up k else EC a b w h up k
def EU (a b:L.Sq Ac) (w h:Int) (up:Bool):Int:=EC a b w h up a.n
def D1 (a b:L.Sq Ac) (w h:Int) (up:Bool) (i:Nat):Int:=EC a b w h up i
section
attribute [local irreducible] EQ AW
def bS (id:Int) (a:L.Pt) (b:L.Pt):Prop:=True
def bT (id:Int) (a:L.Pt) (b:L.Pt):SV:=(.agg [.int .i64 ((EA id a b).sheet),.int .i64 ((EA id a b).kind),.int .i64 ((EA id a b).want),.sl 2 (EA id a b).pts.n (fun i=>[.int .i64 (((EA id a b).pts.g i).x),.int .i64 (((EA id a b).pts.g i).y)])])
def bU:List EV->Option (Prop×SV)
 |[.p (.int .i64 id),.p (.agg [.int .i64 a_x,.int .i64 a_y]),.p (.agg [.int .i64 b_x,.int .i64 b_y])]=>some (bS id (⟨a_x,a_y⟩:L.Pt) (⟨b_x,b_y⟩:L.Pt),bT id (⟨a_x,a_y⟩:L.Pt) (⟨b_x,b_y⟩:L.Pt))
 |_=>none
abbrev QH:SE.Spec:=(AK bU)
def Acb:Ak:={ cC with muts:=[6] }
theorem Acd (id:Int) (a:L.Pt) (b:L.Pt) (hp:bS id a b):vc Tryz.prog (Acb) (Ah Tryz.f90) (Ap Tryz.f90 [.p (.int .i64 id),.p (.agg [.int .i64 a.x,.int .i64 a.y]),.p (.agg [.int .i64 b.x,.int .i64 b.y])]) (AJ Tryz.prog Tryz.f90 (bT id a b)):=
 @Eq.mpr _ (let I:=SV.int .i64;let A1:=(EA id a b);id=A1.sheet/\(1:Int)=A1.kind/\(0:Int)=A1.want/\nat_lit 2=A1.pts.n/\∀(i:Nat),i<nat_lit 2->BX [I a.x,I a.y,I b.x,I b.y] (nat_lit 2) i = [I (A1.pts.g i).x,I (A1.pts.g i).y]) (by kernel_rfl) (by
 conv=>zeta
 refine⟨rfl,rfl,rfl,rfl,fun i hi=>?_⟩;have hi:i<2:=hi;have:i=0\/i=1:=by omega
 rcases this with rfl|rfl<;>rfl)
theorem bV:Av Tryz.prog 90 QH:=AM Tryz.func90 (c:=Ah Tryz.f90) (by kernel_rfl) mixed (fun args p r hs hp=>by
 unfold bU at hs;split at hs
 ·cases hs;exact⟨_,_,Acd _ _ _ hp,(.same _ (.same _ (.same _ .nil))),⟨show Aa Tryz.prog _ from Aa.nil,rfl,⟨show Ag Tryz.prog _ from Ag.nil,(Aw.none (fun _=>rfl))⟩⟩⟩
 ·cases hs)
theorem bW:Ao Tryz.prog 90:=fun args w=>by kernel_rfl
def bX (s:Aj):Prop:=True
def bY (s:Aj):SV:=(.agg [.int .i64 ((De s).sheet),.int .i64 ((De s).a.x),.int .i64 ((De s).a.y),.int .i64 ((De s).b.x),.int .i64 ((De s).b.y),.int .i64 ((De s).beg)])
def bZ:List EV->Option (Prop×SV)
 |[.p (.agg [.int .i64 s_id,.int .i64 s_colour,.int .i64 s_w,.int .i64 s_h,.int .i64 s_grain])]=>some (bX (⟨s_id,s_colour,s_w,s_h,s_grain⟩:Aj),bY (⟨s_id,s_colour,s_w,s_h,s_grain⟩:Aj))
 |_=>none
abbrev cA:SE.Spec:=(AK bZ)
def Ace:Ak:={ cC with muts:=[2] }
theorem Acf (s:Aj) (hp:bX s):vc Tryz.prog (Ace) (Ah Tryz.f46) (Ap Tryz.f46 [.p (.agg [.int .i64 s.id,.int .i64 s.colour,.int .i64 s.w,.int .i64 s.h,.int .i64 s.grain])]) (AJ Tryz.prog Tryz.f46 (bY s)):=
 @Eq.mpr _ (let I:=SV.int .i64;let A1:=(De s);SV.agg [I s.id,I (0:Int),I (0:Int),I s.w,I s.h,I (0:Int)]=SV.agg [I A1.sheet,I A1.a.x,I A1.a.y,I A1.b.x,I A1.b.y,I A1.beg]) (by kernel_rfl) (by
 conv=>zeta
 rfl)
theorem Acg:Av Tryz.prog 46 cA:=AM Tryz.func46 (c:=Ah Tryz.f46) (by kernel_rfl) mixed (fun args p r hs hp=>by
 unfold bZ at hs;split at hs
 ·cases hs;exact⟨_,_,Acf _ hp,(.same _ .nil),⟨show Aa Tryz.prog _ from Aa.nil,rfl,⟨show Ag Tryz.prog _ from Ag.nil,(Aw.none (fun _=>rfl))⟩⟩⟩
 ·cases hs)
theorem Ach:Ao Tryz.prog 46:=fun args w=>by kernel_rfl
def cB (r:Bx) (up:Bool) (p:Int):Prop:=Eb r/\0<=p/\p<=4096
def cD (r:Bx) (up:Bool) (p:Int):SV:=.tup [(.agg [.int .i64 ((Du r up p).sheet),.int .i64 ((Du r up p).a.x),.int .i64 ((Du r up p).a.y),.int .i64 ((Du r up p).b.x),.int .i64 ((Du r up p).b.y),.int .i64 ((Du r up p).beg)]),(.agg [.int .i64 ((Dl r up p).sheet),.int .i64 ((Dl r up p).a.x),.int .i64 ((Dl r up p).a.y),.int .i64 ((Dl r up p).b.x),.int .i64 ((Dl r up p).b.y),.int .i64 ((Dl r up p).beg)])]
def cE:List EV->Option (Prop×SV)
 |[.p (.agg [.int .i64 r_sheet,.int .i64 r_a_x,.int .i64 r_a_y,.int .i64 r_b_x,.int .i64 r_b_y,.int .i64 r_beg]),.p (.bool up),.p (.int .i64 p)]=>some (cB (⟨r_sheet,(⟨r_a_x,r_a_y⟩:L.Pt),(⟨r_b_x,r_b_y⟩:L.Pt),r_beg⟩:Bx) up p,cD (⟨r_sheet,(⟨r_a_x,r_a_y⟩:L.Pt),(⟨r_b_x,r_b_y⟩:L.Pt),r_beg⟩:Bx) up p)
 |_=>none
abbrev cF:SE.Spec:=(AK cE)
def Aci:Ak:={ cC with muts:=[6,7,8,9],anys:=[1008] }
theorem Acj (r:Bx) (up:Bool) (p:Int) (hp:cB r up p):vc Tryz.prog (Aci) (Ah Tryz.f89) (Ap Tryz.f89 [.p (.agg [.int .i64 r.sheet,.int .i64 r.a.x,.int .i64 r.a.y,.int .i64 r.b.x,.int .i64 r.b.y,.int .i64 r.beg]),.p (.bool up),.p (.int .i64 p)]) (AJ Tryz.prog Tryz.f89 (cD r up p)):=
 @Eq.mpr _ (let I:=SV.int .i64;let A10:=(r.a.x+p);let A9:=(r.a.y+p);let A8:=(Du r up p);let A7:=(Dl r up p);let A6:=[I r.sheet,I r.a.x,I A9,I r.b.x,I r.b.y,I r.beg];let A5:=[I r.sheet,I r.a.x,I r.a.y,I r.b.x,I A9,I r.beg];let A4:=[I r.sheet,I A10,I r.a.y,I r.b.x,I r.b.y,I r.beg];let A3:=[I r.sheet,I r.a.x,I r.a.y,I A10,I r.b.y,I r.beg];let A2:=[I A7.sheet,I A7.a.x,I A7.a.y,I A7.b.x,I A7.b.y,I A7.beg];let A1:=[I A8.sheet,I A8.a.x,I A8.a.y,I A8.b.x,I A8.b.y,I A8.beg];(up=true->Ad .i64 A10/\Ad .i64 A10/\(SV.agg A3=SV.agg A1/\SV.agg A4=SV.agg A2)/\SV.agg A3=SV.agg A1/\SV.agg A4=SV.agg A2)/\(up=false->Ad .i64 A9/\Ad .i64 A9/\(SV.agg A5=SV.agg A1/\SV.agg A6=SV.agg A2)/\SV.agg A5=SV.agg A1/\SV.agg A6=SV.agg A2)) (by kernel_rfl) (by
 conv=>zeta
 obtain⟨⟨h1,h2,h3,h4,h5,h6⟩,hb,hb'⟩:=(show Eb r/\0<=p/\p<=4096 from hp);have k1:Ad .i64 (r.a.x+p):=jK;have k2:Ad .i64 (r.a.y+p):=jK;exact⟨fun h=>by subst h;exact⟨k1,k1,⟨rfl,rfl⟩,rfl,rfl⟩,fun h=>by subst h;exact⟨k2,k2,⟨rfl,rfl⟩,rfl,rfl⟩⟩)
theorem Ack:Av Tryz.prog 89 cF:=AM Tryz.func89 (c:=Ah Tryz.f89) (by kernel_rfl) mixed (fun args p r hs hp=>by
 unfold cE at hs;split at hs
 ·cases hs;exact⟨_,_,Acj _ _ _ hp,(.same _ (.same _ (.same _ .nil))),⟨show Aa Tryz.prog _ from Aa.nil,rfl,⟨show Ag Tryz.prog _ from Ag.nil,(Aw.none (fun _=>rfl))⟩⟩⟩
 ·cases hs)
theorem Acl:Ao Tryz.prog 89:=fun args w=>by kernel_rfl
def cG (a:(L.Sq Ac)) (b:(L.Sq Ac)) (w:Int) (h:Int) (up:Bool):Prop:=a.n<=1000000/\b.n<=1000000/\0<=w/\w<=4096/\0<=h/\h<=4096/\∀i,i<a.n->0<=(a.g i).w/\(a.g i).w<=61440/\0<=(a.g i).h/\(a.g i).h<=61440
def cH (a:(L.Sq Ac)) (b:(L.Sq Ac)) (w:Int) (h:Int) (up:Bool):SV:=.int .i64 (EU a b w h up)
def cI:List EV->Option (Prop×SV)
 |[.p (.sl 2 a_n a_g),.p (.sl 2 b_n b_g),.p (.int .i64 w),.p (.int .i64 h),.p (.bool up)]=>some ((∀i,i<a_n->a_g i = [.int .i64 ((Cc (a_g i)).w),.int .i64 ((Cc (a_g i)).h)])/\(∀i,i<b_n->b_g i = [.int .i64 ((Cc (b_g i)).w),.int .i64 ((Cc (b_g i)).h)])/\cG (⟨a_n,fun i=>Cc (a_g i)⟩:(L.Sq Ac)) (⟨b_n,fun i=>Cc (b_g i)⟩:(L.Sq Ac)) w h up,cH (⟨a_n,fun i=>Cc (a_g i)⟩:(L.Sq Ac)) (⟨b_n,fun i=>Cc (b_g i)⟩:(L.Sq Ac)) w h up)
 |_=>none
abbrev cJ:SE.Spec:=(AK cI)
def Acm:Ak:={ cC with specs:=AB [(85,Q2)] }
theorem Acn (a:(L.Sq Ac)) (b:(L.Sq Ac)) (w:Int) (h:Int) (up:Bool) (hp:cG a b w h up):vc Tryz.prog ({ Acm with loops:=AV [(3,{ T:=Nat,keep:=[0,1,2,3,4],keepO:=[],chg:=fun i=>[(11,.p (.int .i64 (D1 a b w h up i))),(12,.p (.int .i64 (i:Int)))],own:=fun _=>[],inv:=fun i=>i<=a.n,mu:=fun i=>a.n-i })],rfs:=AT [] }) (Ah Tryz.f88) (Ap Tryz.f88 [.p (.sl 2 a.n (fun i=>[.int .i64 ((a.g i).w),.int .i64 ((a.g i).h)])),.p (.sl 2 b.n (fun i=>[.int .i64 ((b.g i).w),.int .i64 ((b.g i).h)])),.p (.int .i64 w),.p (.int .i64 h),.p (.bool up)]) (AJ Tryz.prog Tryz.f88 (cH a b w h up)):=
 @Eq.mpr _ (let I:=SV.int .i64;let T:=Af1;let A14:=(↑a.n:Int);let A10:=(0:Int);let A9:=(1:Int);let A8:=(∀(i:Nat),let A11:=[I (b.g i).w,I (b.g i).h];i<b.n->A11=A11);let A3:=(b.n=b.n/\∀(i:Nat),let A12:=[I (b.g i).w,I (b.g i).h];i<b.n->A12=A12);let A2:=(a.n=a.n/\∀(i:Nat),let A13:=[I (a.g i).w,I (a.g i).h];i<a.n->A13=A13);(∃(g:Nat),A10=D1 a b w h up g/\A10=(↑g:Int)/\g<=a.n)/\∀(g:Nat),let A7:=(↑g:Int);let A15:=(A7+A9);let A6:=(A10<=A7/\A7<A14);let A1:=(a.g (T A7));let A5:=(bif bif decide (A1.h<=h)then ES b (w-A1.w) h else false then bif decide (D1 a b w h up g=A10)then true else decide (A1.w<D1 a b w h up g)else false);let A4:=(bif bif decide (A1.w<=w)then ES b w (h-A1.h)else false then bif decide (D1 a b w h up g=A10)then true else decide (A1.h<D1 a b w h up g)else false);g<=a.n->(decide (A7<A14)=true->A6/\A6/\(decide (A1.h<=h)=true->Ad .i64 (w-A1.w))/\(decide (A1.h<=h)=true->A8/\b.n<=(1000000:Nat))/\((!up)=true->A6/\A6/\(decide (A1.w<=w)=true->Ad .i64 (h-A1.h))/\(decide (A1.w<=w)=true->A8/\b.n<=(1000000:Nat))/\(A4=true->Ad .i64 A15/\∃(g':Nat),A1.h=D1 a b w h up g'/\A7+A9=(↑g':Int)/\A2/\A3/\w=w/\h=h/\up=up/\g'<=a.n/\a.n-g'<a.n-g)/\(A4=false->Ad .i64 A15/\∃(g':Nat),D1 a b w h up g=D1 a b w h up g'/\A7+A9=(↑g':Int)/\A2/\A3/\w=w/\h=h/\up=up/\g'<=a.n/\a.n-g'<a.n-g))/\((!up)=false->(A5=true->Ad .i64 A15/\∃(g':Nat),A1.w=D1 a b w h up g'/\A7+A9=(↑g':Int)/\A2/\A3/\w=w/\h=h/\up=up/\g'<=a.n/\a.n-g'<a.n-g)/\(A5=false->Ad .i64 A15/\∃(g':Nat),D1 a b w h up g=D1 a b w h up g'/\A7+A9=(↑g':Int)/\A2/\A3/\w=w/\h=h/\up=up/\g'<=a.n/\a.n-g'<a.n-g)))/\(decide (A7<A14)=false->D1 a b w h up g=EU a b w h up)) (by kernel_rfl) (by
 conv=>zeta
 obtain⟨ha,hb,hw0,hw,hh0,hh,hbd⟩:=(show a.n<=1000000/\b.n<=1000000/\0<=w/\w<=4096/\0<=h/\h<=4096/\∀i,i<a.n->0<=(a.g i).w/\(a.g i).w<=61440/\0<=(a.g i).h/\(a.g i).h<=61440 from hp);have FZ:∀x y:Bool,(bif x then true else y)=(x||y):=fun x y=>by cases x<;>rfl
 refine⟨⟨0,rfl,rfl,Afg _⟩,fun k hk=>⟨fun hc=>?_,fun hc=>?_⟩⟩
 ·have hc:(k:Int)<(a.n:Int):=of_decide_eq_true hc;have e0:((k:Int)).toNat=k:=Afy k;have c0:0<=(k:Int)/\(k:Int)<(a.n:Int):=by omega
  have k1:Ad .i64 ((k:Int)+1):=jK;have g1:k+1<=a.n:=by omega
  have g2:a.n-(k+1)<a.n-k:=by omega
  have cn:(k:Int)+1=((k+1:Nat):Int):=by omega
  obtain⟨b1,b2,b3,b4⟩:=hbd k g1;have kw:Ad .i64 (w-(a.g k).w):=jK;have kh:Ad .i64 (h-(a.g k).h):=jK;have nx:D1 a b w h up (k+1)=bif EB a b w h up k&&(decide (D1 a b w h up k=0)||decide (DG a up k<D1 a b w h up k))then DG a up k else D1 a b w h up k:=by unfold D1;rw[EC]
  rw[e0];simp only[GR,FZ];refine⟨c0,c0,fun _=>kw,fun _=>⟨fun _ _=>trivial,hb⟩,fun hu=>⟨c0,c0,fun _=>kh,fun _=>⟨fun _ _=>trivial,hb⟩,fun h1=>⟨k1,k+1,?_⟩,fun h1=>⟨k1,k+1,?_⟩⟩,fun hu=>⟨fun h1=>⟨k1,k+1,?_⟩,fun h1=>⟨k1,k+1,?_⟩⟩⟩
  ·obtain rfl:up=false:=Cx hu;have q:(a.g k).h=D1 a b w h false (k+1):=by rw[nx];unfold EB DG;rw[cond_false,cond_false,h1];rfl
   exact(by(try dsimp only);(repeat' with_reducible apply And.intro)<;>first|with_reducible rfl|with_reducible assumption|with_reducible exact fun _=>rfl|with_reducible exact fun _ _=>rfl|with_reducible exact trivial|exact(fun _ _=>rfl)|exact(fun _ _=>trivial)|exact rfl|(intro _;exact rfl)|(intro _ _;exact rfl)|exact q|exact cn|exact g1|exact g2|exact trivial|(intro _ h_;exact absurd h_ (Rc _)))
  ·obtain rfl:up=false:=Cx hu;have q:D1 a b w h false k=D1 a b w h false (k+1):=by rw[nx];unfold EB DG;rw[cond_false,cond_false,h1];rfl
   exact(by(try dsimp only);(repeat' with_reducible apply And.intro)<;>first|with_reducible rfl|with_reducible assumption|with_reducible exact fun _=>rfl|with_reducible exact fun _ _=>rfl|with_reducible exact trivial|exact(fun _ _=>rfl)|exact(fun _ _=>trivial)|exact rfl|(intro _;exact rfl)|(intro _ _;exact rfl)|exact q|exact cn|exact g1|exact g2|exact trivial|(intro _ h_;exact absurd h_ (Rc _)))
  ·obtain rfl:up=true:=Ca hu;have q:(a.g k).w=D1 a b w h true (k+1):=by rw[nx];unfold EB DG;rw[cond_true,cond_true,h1];rfl
   exact(by(try dsimp only);(repeat' with_reducible apply And.intro)<;>first|with_reducible rfl|with_reducible assumption|with_reducible exact fun _=>rfl|with_reducible exact fun _ _=>rfl|with_reducible exact trivial|exact(fun _ _=>rfl)|exact(fun _ _=>trivial)|exact rfl|(intro _;exact rfl)|(intro _ _;exact rfl)|exact q|exact cn|exact g1|exact g2|exact trivial|(intro _ h_;exact absurd h_ (Rc _)))
  ·obtain rfl:up=true:=Ca hu;have q:D1 a b w h true k=D1 a b w h true (k+1):=by rw[nx];unfold EB DG;rw[cond_true,cond_true,h1];rfl
   exact(by(try dsimp only);(repeat' with_reducible apply And.intro)<;>first|with_reducible rfl|with_reducible assumption|with_reducible exact fun _=>rfl|with_reducible exact fun _ _=>rfl|with_reducible exact trivial|exact(fun _ _=>rfl)|exact(fun _ _=>trivial)|exact rfl|(intro _;exact rfl)|(intro _ _;exact rfl)|exact q|exact cn|exact g1|exact g2|exact trivial|(intro _ h_;exact absurd h_ (Rc _)))
 ·have hc:¬ (k:Int)<(a.n:Int):=of_decide_eq_false hc;obtain rfl:k=a.n:=by omega
  rfl)
theorem Aco:Av Tryz.prog 88 cJ:=AM Tryz.func88 (c:=Ah Tryz.f88) (by kernel_rfl) mixed (fun args p r hs hp=>by
 unfold cI at hs;split at hs
 ·cases hs;exact⟨_,_,Acn _ _ _ _ _ hp.2.2,(.p (.sl hp.1) (.p (.sl hp.2.1) (.same _ (.same _ (.same _ .nil))))),⟨show Aa Tryz.prog _ from(Aa.cons ZE ZF Aa.nil),rfl,⟨show Ag Tryz.prog _ from Ag.nil,(Aw.none (fun _=>rfl))⟩⟩⟩
 ·cases hs)
theorem Acp:Ao Tryz.prog 88:=fun args w=>by kernel_rfl
end
def HM (w:Ab) (gr:Int) (r:Bx):Bool:=(Cz w.grain gr 0&&decide ((Bv w.ol 0).w<=r.b.x-r.a.x))&&decide ((Bv w.ol 0).h<=r.b.y-r.a.y)
def D2 (w:Ab) (gr:Int) (r:Bx):Int:=bif HM w gr r then 0 else 1
def NE (w:Ab) (gr:Int) (r:Bx):Ac:=Bv w.ol (D2 w gr r)
def Fi (w:Ab) (gr:Int) (r:Bx):Int:=r.a.x+(NE w gr r).w
def G3 (w:Ab) (gr:Int) (r:Bx):Int:=r.a.y+(NE w gr r).h
def F3 (w:Ab) (s:Aj) (r:Bx):AZ:=⟨w.id,s.id,D2 w s.grain r,r.a⟩
def Et (w:Ab) (s:Aj) (r:Bx):List AY:=bif decide (Fi w s.grain r<r.b.x)then [EA s.id ⟨Fi w s.grain r,r.a.y⟩ ⟨Fi w s.grain r,r.b.y⟩]else []
def Ec (w:Ab) (s:Aj) (r:Bx):List AY:=bif decide (G3 w s.grain r<r.b.y)then B9 (Et w s r) (EA s.id ⟨r.a.x,G3 w s.grain r⟩ ⟨Fi w s.grain r,G3 w s.grain r⟩)else Et w s r
section
attribute [local irreducible] EQ AW
abbrev Ky:Mk:={ T:=(Ab)×(Aj)×(Bx),U:=Nat,args:=fun t=>(fun w s r=>[.p (.agg [.int .i64 w.id,.int .i64 w.colour,.int .i64 w.grain,.sl 2 w.ol.n (fun i=>[.int .i64 ((w.ol.g i).x),.int .i64 ((w.ol.g i).y)])]),.p (.agg [.int .i64 s.id,.int .i64 s.colour,.int .i64 s.w,.int .i64 s.h,.int .i64 s.grain]),.p (.agg [.int .i64 r.sheet,.int .i64 r.a.x,.int .i64 r.a.y,.int .i64 r.b.x,.int .i64 r.b.y,.int .i64 r.beg])]) t.1 t.2.1 t.2.2,lkeys:=[],keys:=[82],lent:=fun t=>(fun w s r=>[]) t.1 t.2.1 t.2.2,pre:=fun t=>(fun w s r=>w.ol.n<=1000000/\Eb r) t.1 t.2.1 t.2.2,post:=fun t u=>(fun w s r=>fun uu=>True) t.1 t.2.1 t.2.2 u,lent':=fun t u=>(fun w s r=>fun uu=>[]) t.1 t.2.1 t.2.2 u,own:=fun t u=>(fun w s r=>fun uu=>[(82,.row 101 4 (AA (Ec w s r)).n (fun k=>AL ((AA (Ec w s r)).g k)))]) t.1 t.2.1 t.2.2 u,res:=fun t u=>(fun w s r=>fun uu=>.ag true [.p (.agg [.int .i64 ((F3 w s r).want),.int .i64 ((F3 w s r).sheet),.int .i64 ((F3 w s r).turn),.int .i64 ((F3 w s r).at_.x),.int .i64 ((F3 w s r).at_.y)]),.row 82]) t.1 t.2.1 t.2.2 u }
theorem Acq (w:Ab) (s:Aj) (r:Bx) (hp:Ky.pre (w,s,r)):vc Tryz.prog ({ muts:=[6,9,10],frz:=B2 [],specs:=AB [(81,PV),(79,PX),(90,QH)],loops:=AV [(2,{ T:=Nat,keep:=[3,4,5,6],keepO:=[6],chg:=fun t=>[(8,.p (.int .i64 (t:Int)))],own:=fun _=>[],inv:=fun t=>t=0\/(t=1/\HM w s.grain r=false),mu:=fun t=>1-t })],iters:=Bw [],rfs:=AT [],nils:=B3 [(8,[(11,82,101,4)])],joins:=AV [(6,{ T:=Nat,keep:=[3,4,5,6],keepO:=[6],chg:=fun _=>[(8,.p (.int .i64 (D2 w s.grain r)))],own:=fun _=>[],inv:=fun _=>True,mu:=fun _=>0 }),(12,{ T:=Nat,keep:=[3,4,5,6,8,10,11,12,13],keepO:=[6,10],chg:=fun _=>[],own:=fun _=>[(82,.row 101 4 (AA (Et w s r)).n (fun k=>AL ((AA (Et w s r)).g k)))],inv:=fun _=>True,mu:=fun _=>0 }),(14,{ T:=Nat,keep:=[3,4,5,6,8,10,11,12,13],keepO:=[6,10],chg:=fun _=>[],own:=fun _=>[(82,.row 101 4 (AA (Ec w s r)).n (fun k=>AL ((AA (Ec w s r)).g k)))],inv:=fun _=>True,mu:=fun _=>0 })] }) (Ah Tryz.f87) (D7 Tryz.f87 (Ky.args (w,s,r)) (Ky.lent (w,s,r))) (Fx Tryz.prog Tryz.f87 Ky (w,s,r)):=
 @Eq.mpr _ (let I:=SV.int .i64;let A20:=(140737488355328:Nat);let A17:=(1:Nat);let A13:=(F3 w s r);let A12:=((∀(i:Nat),let A15:=[I (w.ol.g i).x,I (w.ol.g i).y];i<w.ol.n->A15=A15)/\w.ol.n<=(1000000:Nat));let A11:=(AA (Ec w s r));let A9:=(AA (Et w s r));let A8:=(nat_lit 0);let A5:=(0:Int);let A16:=(Bv w.ol A5);let A10:=(bif bif Cz w.grain s.grain A5 then decide (A16.w<=r.b.x-r.a.x)else false then decide (A16.h<=r.b.y-r.a.y)else false);let A4:=[I s.id,I s.colour,I s.w,I s.h,I s.grain];let A3:=[I r.sheet,I r.a.x,I r.a.y,I r.b.x,I r.b.y,I r.beg];let A2:=[I w.id,I w.colour,I w.grain,SV.sl (nat_lit 2) w.ol.n fun(i:Nat)=>[I (w.ol.g i).x,I (w.ol.g i).y]];let A1:=(Bv w.ol (D2 w s.grain r));let A18:=(r.a.y+A1.h);let A14:=(r.a.x+A1.w);let A7:=(EA s.id (L.Pt.mk A14 r.a.y) (L.Pt.mk A14 r.b.y));let A6:=(EA s.id (L.Pt.mk r.a.x A18) (L.Pt.mk A14 A18));((∃(g:Nat),A5=(↑g:Int)/\(g=(0:Nat)\/g=A17/\HM w s.grain r=false))/\∀(g:Nat),let A19:=(↑g:Int);g=(0:Nat)\/g=A17/\HM w s.grain r=false->(decide (A19=A5)=true->A12/\True/\(Cz w.grain s.grain A5=true->Ad .i64 (r.b.x-r.a.x))/\((bif Cz w.grain s.grain A5 then decide (A16.w<=r.b.x-r.a.x)else false)=true->Ad .i64 (r.b.y-r.a.y))/\(A10=true->∃(g_1:Nat),A19=D2 w s.grain r/\nat_lit 0=nat_lit 0/\SV.ref A3 A8=SV.ref A3 A8/\SV.ref A4 A8=SV.ref A4 A8/\SV.ref A2 A8=SV.ref A2 A8/\A5=A5/\A5=A5/\A5=A5/\A5=A5/\A5=A5/\True)/\(A10=false->∃(g':Nat),(1:Int)=(↑g':Int)/\nat_lit 0=nat_lit 0/\SV.ref A3 A8=SV.ref A3 A8/\SV.ref A4 A8=SV.ref A4 A8/\SV.ref A2 A8=SV.ref A2 A8/\A5=A5/\A5=A5/\A5=A5/\A5=A5/\A5=A5/\(g'=(0:Nat)\/g'=A17/\HM w s.grain r=false)/\A17-g'<A17-g))/\(decide (A19=A5)=false->∃(g_1:Nat),A19=D2 w s.grain r/\nat_lit 0=nat_lit 0/\SV.ref A3 A8=SV.ref A3 A8/\SV.ref A4 A8=SV.ref A4 A8/\SV.ref A2 A8=SV.ref A2 A8/\A5=A5/\A5=A5/\A5=A5/\A5=A5/\A5=A5/\True))/\∀(g:Nat),True->A12/\Ad .i64 A14/\Ad .i64 A18/\((decide (r.a.x+A1.w<r.b.x)=true->True/\(nat_lit 0+nat_lit 1)*nat_lit 48<=A20/\∃(g:Nat),r.a.y+A1.h=r.a.y+A1.h/\r.a.x+A1.w=r.a.x+A1.w/\nat_lit 0=nat_lit 0/\D2 w s.grain r=D2 w s.grain r/\nat_lit 0=nat_lit 0/\SV.ref A3 A8=SV.ref A3 A8/\SV.ref A4 A8=SV.ref A4 A8/\SV.ref A2 A8=SV.ref A2 A8/\(nat_lit 1=A9.n/\∀(i:Nat),i<nat_lit 1->AU A8 (fun(x:Nat)=>[]) (fun(x:Nat)=>[I A7.sheet,I A7.kind,I A7.want,SV.sl (nat_lit 2) A7.pts.n fun(i:Nat)=>[I (A7.pts.g i).x,I (A7.pts.g i).y]]) i=AL (A9.g i))/\A1.w=A1.w/\A1.h=A1.h/\A5=A5/\A5=A5/\A5=A5/\A5=A5/\A5=A5/\True)/\(decide (r.a.x+A1.w<r.b.x)=false->∃(g:Nat),r.a.y+A1.h=r.a.y+A1.h/\r.a.x+A1.w=r.a.x+A1.w/\nat_lit 0=nat_lit 0/\D2 w s.grain r=D2 w s.grain r/\nat_lit 0=nat_lit 0/\SV.ref A3 A8=SV.ref A3 A8/\SV.ref A4 A8=SV.ref A4 A8/\SV.ref A2 A8=SV.ref A2 A8/\(nat_lit 0=A9.n/\∀(i:Nat),i<nat_lit 0 -> []=AL (A9.g i))/\A1.w=A1.w/\A1.h=A1.h/\A5=A5/\A5=A5/\A5=A5/\A5=A5/\A5=A5/\True))/\∀(g_1:Nat),True->((decide (r.a.y+A1.h<r.b.y)=true->True/\(A9.n+nat_lit 1)*nat_lit 48<=A20/\∃(g:Nat),r.a.y+A1.h=r.a.y+A1.h/\r.a.x+A1.w=r.a.x+A1.w/\nat_lit 0=nat_lit 0/\D2 w s.grain r=D2 w s.grain r/\nat_lit 0=nat_lit 0/\SV.ref A3 A8=SV.ref A3 A8/\SV.ref A4 A8=SV.ref A4 A8/\SV.ref A2 A8=SV.ref A2 A8/\(A9.n+nat_lit 1=A11.n/\∀(i:Nat),i<A9.n+nat_lit 1->AU A9.n (fun(k:Nat)=>AL (A9.g k)) (fun(x:Nat)=>[I A6.sheet,I A6.kind,I A6.want,SV.sl (nat_lit 2) A6.pts.n fun(i:Nat)=>[I (A6.pts.g i).x,I (A6.pts.g i).y]]) i=AL (A11.g i))/\A1.w=A1.w/\A1.h=A1.h/\A5=A5/\A5=A5/\A5=A5/\A5=A5/\A5=A5/\True)/\(decide (r.a.y+A1.h<r.b.y)=false->∃(g:Nat),r.a.y+A1.h=r.a.y+A1.h/\r.a.x+A1.w=r.a.x+A1.w/\nat_lit 0=nat_lit 0/\D2 w s.grain r=D2 w s.grain r/\nat_lit 0=nat_lit 0/\SV.ref A3 A8=SV.ref A3 A8/\SV.ref A4 A8=SV.ref A4 A8/\SV.ref A2 A8=SV.ref A2 A8/\(A9.n=A11.n/\∀(i:Nat),i<A9.n->AL (A9.g i)=AL (A11.g i))/\A1.w=A1.w/\A1.h=A1.h/\A5=A5/\A5=A5/\A5=A5/\A5=A5/\A5=A5/\True))/\∀(g:Nat),True->∃(u:Nat),SV.agg [I w.id,I s.id,I (D2 w s.grain r),I r.a.x,I r.a.y]=SV.agg [I A13.want,I A13.sheet,I A13.turn,I A13.at_.x,I A13.at_.y]/\(A11.n=A11.n/\∀(i:Nat),i<A11.n->AL (A11.g i)=AL (A11.g i))/\True) (by kernel_rfl) (by
 conv=>zeta
 obtain⟨ho,h1,h2,h3,h4,h5,h6⟩:=(show w.ol.n<=1000000/\Eb r from hp);have pb:(∀i,i<w.ol.n -> [SV.int .i64 (w.ol.g i).x,SV.int .i64 (w.ol.g i).y]= [SV.int .i64 (w.ol.g i).x,SV.int .i64 (w.ol.g i).y])/\w.ol.n<=1000000:=⟨fun _ _=>rfl,ho⟩;have kx:Ad .i64 (r.b.x-r.a.x):=jK;have ky:Ad .i64 (r.b.y-r.a.y):=jK;have fE:(bif bif Cz w.grain s.grain 0 then decide ((Bv w.ol 0).w<=r.b.x-r.a.x)else false then decide ((Bv w.ol 0).h<=r.b.y-r.a.y)else false)=HM w s.grain r:=by rw[GR,GR];rfl
 have bB:=Qk w.ol (D2 w s.grain r);have kX:Ad .i64 (r.a.x+(Bv w.ol (D2 w s.grain r)).w):=jK;have kY:Ad .i64 (r.a.y+(Bv w.ol (D2 w s.grain r)).h):=jK;have n1:(AA (Et w s r)).n<=1:=by
  show(Et w s r).length<=1;unfold Et;cases decide (Fi w s.grain r<r.b.x)<;>simp
 have sz:((AA (Et w s r)).n+1)*48<=140737488355328:=by omega
 have sz0:(0+1)*48<=140737488355328:=by decide
 rw[fE];refine⟨⟨⟨0,rfl,.inl rfl⟩,fun t ht=>⟨fun h0=>⟨pb,trivial,fun _=>kx,fun _=>ky,fun hf=>⟨(0:Nat),?_⟩,fun hf=>⟨1,?_⟩⟩,fun h0=>⟨(0:Nat),?_⟩⟩⟩,fun _ _=>⟨pb,kX,kY,⟨fun hc=>⟨trivial,sz0,(0:Nat),?_⟩,fun hc=>⟨(0:Nat),?_⟩⟩,fun _ _=>⟨⟨fun hc=>⟨trivial,sz,(0:Nat),?_⟩,fun hc=>⟨(0:Nat),?_⟩⟩,fun _ _=>?_⟩⟩⟩
 ·have h0:(t:Int)=0:=of_decide_eq_true h0;have e:(t:Int)=D2 w s.grain r:=by unfold D2;rw[hf,h0];rfl
  exact(by(try dsimp only);(repeat' with_reducible apply And.intro)<;>first|with_reducible rfl|with_reducible assumption|with_reducible exact fun _=>rfl|with_reducible exact fun _ _=>rfl|with_reducible exact trivial|exact rfl|(intro _;exact rfl)|(intro _ _;exact rfl)|exact e|exact trivial|(intro _ h_;exact absurd h_ (Rc _)))
 ·have h0:(t:Int)=0:=of_decide_eq_true h0;have m:1-1<1-t:=by omega
  have q:(1:Nat)=0\/(1:Nat)=1/\HM w s.grain r=false:=.inr ⟨rfl,hf⟩;exact(by(try dsimp only);(repeat' with_reducible apply And.intro)<;>first|with_reducible rfl|with_reducible assumption|with_reducible exact fun _=>rfl|with_reducible exact fun _ _=>rfl|with_reducible exact trivial|exact rfl|(intro _;exact rfl)|(intro _ _;exact rfl)|exact q|exact m|exact trivial|(intro _ h_;exact absurd h_ (Rc _)))
 ·have h0:¬ (t:Int)=0:=of_decide_eq_false h0;have e:(t:Int)=D2 w s.grain r:=by
   rcases ht with rfl|⟨rfl,hf⟩
   ·exact absurd rfl h0
   ·unfold D2;rw[hf];rfl
  exact(by(try dsimp only);(repeat' with_reducible apply And.intro)<;>first|with_reducible rfl|with_reducible assumption|with_reducible exact fun _=>rfl|with_reducible exact fun _ _=>rfl|with_reducible exact trivial|exact rfl|(intro _;exact rfl)|(intro _ _;exact rfl)|exact e|exact trivial|(intro _ h_;exact absurd h_ (Rc _)))
 ·have hc:decide (Fi w s.grain r<r.b.x)=true:=hc;have e:B9 [] (EA s.id ⟨Fi w s.grain r,r.a.y⟩ ⟨Fi w s.grain r,r.b.y⟩)=Et w s r:=by unfold Et;rw[hc];rfl
  obtain⟨q1,q2⟩:=LI e (r:=fun _=>AL (EA s.id ⟨Fi w s.grain r,r.a.y⟩ ⟨Fi w s.grain r,r.b.y⟩)) rfl;have q3:1=(AA (Et w s r)).n:=q1;exact(by(try dsimp only);(repeat' with_reducible apply And.intro)<;>first|with_reducible rfl|with_reducible assumption|with_reducible exact fun _=>rfl|with_reducible exact fun _ _=>rfl|with_reducible exact trivial|exact rfl|(intro _;exact rfl)|(intro _ _;exact rfl)|exact q1|exact q2|exact trivial|(intro _ h_;exact absurd h_ (Rc _)))
 ·have hc:decide (Fi w s.grain r<r.b.x)=false:=hc;have e:Et w s r = []:=by unfold Et;rw[hc];rfl
  rw[e];exact(by(try dsimp only);(repeat' with_reducible apply And.intro)<;>first|with_reducible rfl|with_reducible exact fun _=>rfl|with_reducible exact fun _ _=>rfl|with_reducible exact trivial|exact rfl|(intro _;exact rfl)|(intro _ _;exact rfl)|exact trivial|(intro _ h_;exact absurd h_ (Rc _)))
 ·have hc:decide (G3 w s.grain r<r.b.y)=true:=hc;have e:B9 (Et w s r) (EA s.id ⟨r.a.x,G3 w s.grain r⟩ ⟨Fi w s.grain r,G3 w s.grain r⟩)=Ec w s r:=by unfold Ec;rw[hc];rfl
  obtain⟨q1,q2⟩:=LI e (r:=fun _=>AL (EA s.id ⟨r.a.x,G3 w s.grain r⟩ ⟨Fi w s.grain r,G3 w s.grain r⟩)) rfl;exact(by(try dsimp only);(repeat' with_reducible apply And.intro)<;>first|with_reducible rfl|with_reducible assumption|with_reducible exact fun _=>rfl|with_reducible exact fun _ _=>rfl|with_reducible exact trivial|exact rfl|(intro _;exact rfl)|(intro _ _;exact rfl)|exact q1|exact q2|exact trivial|(intro _ h_;exact absurd h_ (Rc _)))
 ·have hc:decide (G3 w s.grain r<r.b.y)=false:=hc;have e:Ec w s r=Et w s r:=by unfold Ec;rw[hc];rfl
  rw[e];exact(by(try dsimp only);(repeat' with_reducible apply And.intro)<;>first|with_reducible rfl|with_reducible exact fun _=>rfl|with_reducible exact fun _ _=>rfl|with_reducible exact trivial|exact rfl|(intro _;exact rfl)|(intro _ _;exact rfl)|exact trivial|(intro _ h_;exact absurd h_ (Rc _)))
 ·exact⟨(0:Nat),(by(try dsimp only);(repeat' with_reducible apply And.intro)<;>first|with_reducible rfl|with_reducible exact fun _=>rfl|with_reducible exact fun _ _=>rfl|with_reducible exact trivial|exact rfl|(intro _;exact rfl)|(intro _ _;exact rfl)|exact trivial|(intro _ h_;exact absurd h_ (Rc _)))⟩)
theorem Acr:Ao Tryz.prog 87:=fun args w=>by kernel_rfl
theorem Acs:Dq Tryz.prog 87 Ky:=FE (n:=3) Tryz.func87 (c:=Ah Tryz.f87) (by kernel_rfl) mixed ⟨fun t=>rfl,fun t=>rfl,fun t u=>rfl,fun t u=>rfl,fun t u=>rfl,fun t u=>⟨rfl,rfl⟩,by kernel_rfl,by kernel_rfl⟩ (fun⟨w,s,r⟩ hp=>⟨_,Acq w s r hp,⟨show Aa Tryz.prog _ from(Aa.cons X8 X9 (Aa.cons XY XZ (Aa.cons bV bW Aa.nil))),rfl,⟨show Ag Tryz.prog _ from Ag.nil,(Aw.none (fun _=>rfl))⟩⟩⟩)
end
def Bj (l:List AZ):L.Sq AZ:=⟨l.length,fun i=>l.getD i ⟨0,0,0,⟨0,0⟩⟩⟩
def Co (x:AZ):List SV:=[.int .i64 x.want,.int .i64 x.sheet,.int .i64 x.turn,.int .i64 x.at_.x,.int .i64 x.at_.y]
def F4 (w:L.Sq Ab) (p:L.Sq AZ) (i k:Nat):List AZ:=((Afm k).filter fun j=>decide ((p.g j).want=(w.g i).id)).map p.g
def DH (w:L.Sq Ab) (p:L.Sq AZ) (i:Nat):List AZ:=(Afm i).flatMap fun j=>F4 w p j p.n
def EW (w:L.Sq Ab) (p:L.Sq AZ) (i k:Nat):List AZ:=DH w p i++F4 w p i k
theorem Acu {X Y:List AZ} {x:AZ} (h:Y=X ++ [x]):(Bj X).n+1=(Bj Y).n/\∀i,i<(Bj X).n+1->AU (Bj X).n (fun j=>Co ((Bj X).g j)) (fun _=>Co x) i=Co ((Bj Y).g i):=by
 subst h;refine⟨by simp[Bj],fun i hi=>?_⟩;have hi:i<X.length+1:=hi;have e:(Bj (X ++ [x])).g i=if i<X.length then(Bj X).g i else x:=by
  show(X ++ [x]).getD i _=if i<X.length then X.getD i _ else x
  by_cases h:i<X.length
  ·rw[if_pos h,AS,AS,Af2 h]
  ·rw[if_neg h];obtain rfl:i=X.length:=by omega
   simp[AS]
 rw[e];unfold AU;show(if i<X.length then _ else _)=_
 by_cases h:i<X.length
 ·rw[if_pos h,if_pos h]
 ·rw[if_neg h,if_neg h]
theorem Acv (w:L.Sq Ab) (p:L.Sq AZ) (i k:Nat):F4 w p i (k+1)=if decide ((p.g k).want=(w.g i).id)=true then F4 w p i k ++ [p.g k]else F4 w p i k:=by
 unfold F4;rw[Ag8,Agx,List.map_append]
 by_cases h:decide ((p.g k).want=(w.g i).id)=true
 ·rw[if_pos h];simp[h]
 ·rw[if_neg h];simp[h]
theorem cK (w:L.Sq Ab) (p:L.Sq AZ) (i k:Nat):(F4 w p i k).length<=k:=by
 unfold F4;rw[List.length_map];exact AfI (Agv _ _) (by rw[Agw];exact Afo _)
theorem cL (w:L.Sq Ab) (p:L.Sq AZ) (i:Nat):DH w p (i+1)=DH w p i++F4 w p i p.n:=by unfold DH;rw[Ag8,Ag2];simp
theorem cM (w:L.Sq Ab) (p:L.Sq AZ):∀i,(DH w p i).length<=i*p.n
 |0=>Afg _
 |i+1=>by
   have a:=cM w p i;have b:=cK w p i p.n;rw[cL,AfK,Nat.succ_mul];omega
def GV (a b:AZ):Bool:=decide (a.want=b.want)&&(decide (a.sheet=b.sheet)&&(decide (a.turn=b.turn)&&(decide (a.at_.x=b.at_.x)&&decide (a.at_.y=b.at_.y))))
def Gi (a b:L.Sq AZ):Bool:=bif !decide ((a.n:Int)=(b.n:Int))then false else CD a.n fun i=>GV (a.g i) (b.g i)
def cN (w:(L.Sq Ab)) (p:(L.Sq AZ)):Prop:=w.n<=1000/\p.n<=1000
def cO (w:(L.Sq Ab)) (p:(L.Sq AZ)):SV:=.sl 5 (Bj (DH w p w.n)).n (fun k=>Co ((Bj (DH w p w.n)).g k))
def cP:List EV->Option (Prop×SV)
 |[.p (.sl 4 w_n w_g),.p (.sl 5 p_n p_g)]=>some ((∀i,i<w_n->DD (w_g i))/\(∀i,i<p_n->p_g i = [.int .i64 ((DN (p_g i)).want),.int .i64 ((DN (p_g i)).sheet),.int .i64 ((DN (p_g i)).turn),.int .i64 ((DN (p_g i)).at_.x),.int .i64 ((DN (p_g i)).at_.y)])/\cN (⟨w_n,fun i=>B6 (w_g i)⟩:(L.Sq Ab)) (⟨p_n,fun i=>DN (p_g i)⟩:(L.Sq AZ)),cO (⟨w_n,fun i=>B6 (w_g i)⟩:(L.Sq Ab)) (⟨p_n,fun i=>DN (p_g i)⟩:(L.Sq AZ)))
 |_=>none
abbrev cQ:SE.Spec:=(AK cP)
def Acw:Ak:={ cC with nils:=B3 [(2,[(5,37,76,5)])] }
theorem Acx (w:(L.Sq Ab)) (p:(L.Sq AZ)) (hp:cN w p):vc Tryz.prog ({ Acw with loops:=AV [(3,{ T:=Nat,keep:=[0,1,5],keepO:=[],chg:=fun i=>[(6,.p (.int .i64 (i:Int)))],own:=fun i=>[(37,.row 76 5 (Bj (DH w p i)).n (fun k=>Co ((Bj (DH w p i)).g k)))],inv:=fun i=>i<=w.n,mu:=fun i=>w.n-i }),(6,{ T:=Nat×Nat,keep:=[0,1,5,6],keepO:=[],chg:=fun t=>[(7,.p (.int .i64 (t.1:Int)))],own:=fun t=>[(37,.row 76 5 (Bj (EW w p t.2 t.1)).n (fun k=>Co ((Bj (EW w p t.2 t.1)).g k)))],inv:=fun t=>t.1<=p.n,mu:=fun t=>p.n-t.1,tie:=fun t=>[(6,.int .i64 (t.2:Int))] })],rfs:=AT [] }) (Ah Tryz.f47) (Ap Tryz.f47 [.p (.sl 4 w.n (fun i=>[.int .i64 ((w.g i).id),.int .i64 ((w.g i).colour),.int .i64 ((w.g i).grain),.sl 2 (w.g i).ol.n (fun i1=>[.int .i64 (((w.g i).ol.g i1).x),.int .i64 (((w.g i).ol.g i1).y)])])),.p (.sl 5 p.n (fun i=>[.int .i64 ((p.g i).want),.int .i64 ((p.g i).sheet),.int .i64 ((p.g i).turn),.int .i64 ((p.g i).at_.x),.int .i64 ((p.g i).at_.y)]))]) (AJ Tryz.prog Tryz.f47 (cO w p)):=
  @Eq.mpr _ (let I:=SV.int .i64;let T:=Af1;let A20:=(↑p.n:Int);let A19:=(↑w.n:Int);let A18:=(0:Int);let A15:=(Bj (DH w p w.n));let A11:=(1:Int);let A2:=(p.n=p.n/\∀(i:Nat),let A8:=[I (p.g i).want,I (p.g i).sheet,I (p.g i).turn,I (p.g i).at_.x,I (p.g i).at_.y];i<p.n->A8=A8);let A1:=(w.n=w.n/\∀(i:Nat),let A5:=[I (w.g i).id,
 I (w.g i).colour,I (w.g i).grain,SV.sl (2:Nat) (w.g i).ol.n fun(i1:Nat)=>[I ((w.g i).ol.g i1).x,I ((w.g i).ol.g i1).y]];i<w.n->A5=A5);(∃(g:Nat),let A17:=(Bj (DH w p g));A18=(↑g:Int)/\(nat_lit 0=A17.n/\∀(i:Nat),i<nat_lit 0 -> []=Co (A17.g i))/\g<=w.n)/\∀(g:Nat),let A7:=(Bj (DH w p g));let A6:=(↑g:Int);g<=w.n ->
 (decide (A6<A19)=true->(∃(g_1:Nat×Nat),let A12:=(Bj (EW w p g_1.2 g_1.1));A18=(↑g_1.1:Int)/\(A7.n=A12.n/\∀(i:Nat),i<A7.n->Co (A7.g i)=Co (A12.g i))/\A6=(↑g_1.2:Int)/\g_1.1<=p.n)/\∀(g_1:Nat×Nat),let A4:=(↑g_1.1:Int);let A10:=(A18<=A4/\A4<A20);let A9:=(p.g (T A4));let A3:=(Bj (EW w p g_1.2 g_1.1));A6 =
 (↑g_1.2:Int)/\g_1.1<=p.n->(decide (A4<A20)=true->A10/\(A18<=A6/\A6<A19)/\(decide (A9.want=(w.g (T A6)).id)=true->A10/\(A3.n+nat_lit 1)*nat_lit 40<=(140737488355328:Nat)/\Ad .i64 (A4+A11)/\∃(g':Nat×Nat),let A13:=(Bj (EW w p g'.2 g'.1));A4+A11=(↑g'.1:Int)/\A6=A6/\A1/\A2/\(A3.n+nat_lit 1 =
 A13.n/\∀(i:Nat),i<A3.n+nat_lit 1->AU A3.n (fun(k:Nat)=>Co (A3.g k)) (fun(x:Nat)=>[I A9.want,I A9.sheet,I A9.turn,I A9.at_.x,I A9.at_.y]) i=Co (A13.g i))/\(A6=(↑g'.2:Int)/\g'.1<=p.n)/\p.n-g'.1<p.n-g_1.1)/\(decide (A9.want=(w.g (T A6)).id)=false->Ad .i64 (A4+A11)/\∃(g':Nat×Nat),let A14:=(Bj
 (EW w p g'.2 g'.1));A4+A11=(↑g'.1:Int)/\A6=A6/\A1/\A2/\(A3.n=A14.n/\∀(i:Nat),i<A3.n->Co (A3.g i)=Co (A14.g i))/\(A6=(↑g'.2:Int)/\g'.1<=p.n)/\p.n-g'.1<p.n-g_1.1))/\(decide (A4<A20)=false->Ad .i64 (A6+A11)/\∃(g':Nat),let A16:=(Bj (DH w p g'));A6+A11=(↑g':Int)/\A1/\A2/\(A3.n=A16.n/\∀(i
:Nat),i<A3.n->Co (A3.g i)=Co (A16.g i))/\g'<=w.n/\w.n-g'<w.n-g))/\(decide (A6<A19)=false->A7.n=A15.n/\∀(i:Nat),i<A7.n->Co (A7.g i)=Co (A15.g i))) (by kernel_rfl) (by
 conv=>zeta
 obtain⟨hw,hpn⟩:=(show w.n<=1000/\p.n<=1000 from hp);refine⟨⟨0,rfl,⟨rfl,fun i hi=>absurd hi (Rc _)⟩,Afg _⟩,fun i hi=>⟨fun hc=>?_,fun hc=>?_⟩⟩;rotate_left
 ·have hc:¬ (i:Int)<(w.n:Int):=of_decide_eq_false hc;obtain rfl:i=w.n:=by omega
  exact⟨rfl,fun _ _=>rfl⟩
 have hc:(i:Int)<(w.n:Int):=of_decide_eq_true hc;have e0:((i:Int)).toNat=i:=Afy i;have ci:0<=(i:Int)/\(i:Int)<(w.n:Int):=by omega
 have ki:Ad .i64 ((i:Int)+1):=jK;have z:EW w p i 0=DH w p i:=by unfold EW F4;simp
 refine⟨⟨(0,i),?_⟩,fun t ht=>?_⟩
 ·dsimp only;rw[z];exact(by(try dsimp only);(repeat' with_reducible apply And.intro)<;>first|with_reducible rfl|with_reducible exact Afg _|with_reducible exact fun _=>rfl|with_reducible exact fun _ _=>rfl|with_reducible exact trivial|exact rfl|(intro _;exact rfl)|(intro _ _;exact rfl)|exact Afg _|exact trivial|(intro _ h_;exact absurd h_ (Rc _)))
 obtain⟨k,i2⟩:=t;obtain⟨ti,tk⟩:=ht;have ti:(i:Int)=(i2:Int):=ti;obtain rfl:i=i2:=by omega
 have tk:k<=p.n:=tk;dsimp only;refine⟨fun hc2=>?_,fun hc2=>?_⟩;rotate_left
 ·have hc2:¬ (k:Int)<(p.n:Int):=of_decide_eq_false hc2;obtain rfl:k=p.n:=by omega
  have e:DH w p (i+1)=EW w p i p.n:=cL w p i;have g1:i+1<=w.n:=by omega
  have g2:w.n-(i+1)<w.n-i:=by omega
  have cn:(i:Int)+1=((i+1:Nat):Int):=by omega
  refine⟨ki,i+1,?_⟩;rw[e];exact(by(try dsimp only);(repeat' with_reducible apply And.intro)<;>first|with_reducible rfl|with_reducible assumption|with_reducible exact fun _=>rfl|with_reducible exact fun _ _=>rfl|with_reducible exact trivial|exact rfl|(intro _;exact rfl)|(intro _ _;exact rfl)|exact cn|exact g1|exact g2|exact trivial|(intro _ h_;exact absurd h_ (Rc _)))
 have hc2:(k:Int)<(p.n:Int):=of_decide_eq_true hc2;have e1:((k:Int)).toNat=k:=Afy k;have ck:0<=(k:Int)/\(k:Int)<(p.n:Int):=by omega
 have kk:Ad .i64 ((k:Int)+1):=jK;have cn:(k:Int)+1=((k+1:Nat):Int):=by omega
 have g1:k+1<=p.n:=by omega
 have g2:p.n-(k+1)<p.n-k:=by omega
 have nx:=Acv w p i k;have ln:(Bj (EW w p i k)).n<=1001000:=by
  show(DH w p i++F4 w p i k).length<=_;have a:=cM w p i;have b:=cK w p i k;have c:i*p.n<=1000*1000:=Nat.mul_le_mul (by omega) hpn;rw[AfK];omega
 have sz:((Bj (EW w p i k)).n+1)*40<=140737488355328:=by omega
 rw[e0,e1];refine⟨ck,ci,fun h1=>⟨ck,sz,kk,(k+1,i),?_⟩,fun h1=>⟨kk,(k+1,i),?_⟩⟩
 ·rw[if_pos h1]at nx;obtain⟨q1,q2⟩:=Acu (show EW w p i (k+1)=EW w p i k ++ [p.g k]by unfold EW;rw[nx,AfS]);exact(by(try dsimp only);(repeat' with_reducible apply And.intro)<;>first|with_reducible rfl|with_reducible assumption|with_reducible exact fun _=>rfl|with_reducible exact fun _ _=>rfl|with_reducible exact trivial|exact rfl|(intro _;exact rfl)|(intro _ _;exact rfl)|exact q1|exact q2|exact cn|exact g1|exact g2|exact trivial|(intro _ h_;exact absurd h_ (Rc _)))
 ·rw[if_neg (by rw[h1];decide)]at nx;have e:EW w p i (k+1)=EW w p i k:=by unfold EW;rw[nx]
  dsimp only;rw[e];exact(by(try dsimp only);(repeat' with_reducible apply And.intro)<;>first|with_reducible rfl|with_reducible assumption|with_reducible exact fun _=>rfl|with_reducible exact fun _ _=>rfl|with_reducible exact trivial|exact rfl|(intro _;exact rfl)|(intro _ _;exact rfl)|exact cn|exact g1|exact g2|exact trivial|(intro _ h_;exact absurd h_ (Rc _))))
theorem Acy:Av Tryz.prog 47 cQ:=AM Tryz.func47 (c:=Ah Tryz.f47) (by kernel_rfl) mixed (fun args p r hs hp=>by
 unfold cP at hs;split at hs
 ·cases hs;exact⟨_,_,Acx _ _ hp.2.2,(.p (EP hp.1) (.p (.sl hp.2.1) .nil)),⟨show Aa Tryz.prog _ from Aa.nil,rfl,⟨show Ag Tryz.prog _ from Ag.nil,(Aw.none (fun _=>rfl))⟩⟩⟩
 ·cases hs)
theorem Acz:Ao Tryz.prog 47:=fun args w=>by kernel_rfl
def cR (a:(L.Sq AZ)) (b:(L.Sq AZ)):Prop:=a.n<=1000000
def cS (a:(L.Sq AZ)) (b:(L.Sq AZ)):SV:=.bool (Gi a b)
def cT:List EV->Option (Prop×SV)
 |[.p (.sl 5 a_n a_g),.p (.sl 5 b_n b_g)]=>some ((∀i,i<a_n->a_g i = [.int .i64 ((DN (a_g i)).want),.int .i64 ((DN (a_g i)).sheet),.int .i64 ((DN (a_g i)).turn),.int .i64 ((DN (a_g i)).at_.x),.int .i64 ((DN (a_g i)).at_.y)])/\(∀i,i<b_n->b_g i = [.int .i64 ((DN (b_g i)).want),.int .i64 ((DN (b_g i)).sheet),.int .i64 ((DN (b_g i)).turn),.int .i64 ((DN (b_g i)).at_.x),.int .i64 ((DN (b_g i)).at_.y)])/\cR (⟨a_n,fun i=>DN (a_g i)⟩:(L.Sq AZ)) (⟨b_n,fun i=>DN (b_g i)⟩:(L.Sq AZ)),cS (⟨a_n,fun i=>DN (a_g i)⟩:(L.Sq AZ)) (⟨b_n,fun i=>DN (b_g i)⟩:(L.Sq AZ)))
 |_=>none
abbrev cU:SE.Spec:=(AK cT)
def Ac0:Ak:={ muts:=[],frz:=B2 [],specs:=AB [],loops:=fun _=>none,iters:=Bw [],rfs:=AT [],nils:=B3 [] }
theorem Ac1 (a:(L.Sq AZ)) (b:(L.Sq AZ)) (hp:cR a b):vc Tryz.prog ({ Ac0 with loops:=AV [(4,{ T:=Nat,keep:=[0,1],keepO:=[],chg:=fun i=>[(5,.p (.int .i64 (i:Int)))],own:=fun _=>[],inv:=fun i=>i<=a.n/\∀j,j<i->GV (a.g j) (b.g j)=true,mu:=fun i=>a.n-i })],rfs:=AT [] }) (Ah Tryz.f15) (Ap Tryz.f15 [.p (.sl 5 a.n (fun i=>[.int .i64 ((a.g i).want),.int .i64 ((a.g i).sheet),.int .i64 ((a.g i).turn),.int .i64 ((a.g i).at_.x),.int .i64 ((a.g i).at_.y)])),.p (.sl 5 b.n (fun i=>[.int .i64 ((b.g i).want),.int .i64 ((b.g i).sheet),.int .i64 ((b.g i).turn),.int .i64 ((b.g i).at_.x),.int .i64 ((b.g i).at_.y)]))]) (AJ Tryz.prog Tryz.f15 (cS a b)):=
 @Eq.mpr _ (let I:=SV.int .i64;let T:=Af1;let A8:=(↑a.n:Int);let A5:=(!decide (A8=(↑b.n:Int)));(A5=true->false=Gi a b)/\(A5=false->(∃(g:Nat),(0:Int)=(↑g:Int)/\g<=a.n/\∀(j:Nat),j<g->GV (a.g j) (b.g j)=true)/\∀(g:Nat),let A2:=(↑g:Int);let A7:=(b.g (T A2));let A6:=(a.g (T A2));let A1:=(!(decide (A6.want=A7.want)&&(decide (A6.sheet=A7.sheet)&&(decide (A6.turn=A7.turn)&&(decide (A6.at_.x=A7.at_.x)&&decide (A6.at_.y=A7.at_.y))))));(g<=a.n/\∀(j:Nat),j<g->GV (a.g j) (b.g j)=true)->(decide (A2<A8)=true->((0:Int)<=A2/\A2<A8)/\((0:Int)<=A2/\A2<(↑b.n:Int))/\(A1=true->false=Gi a b)/\(A1=false->Ad .i64 (A2+(1:Int))/\∃(g':Nat),A2+(1:Int)=(↑g':Int)/\(a.n=a.n/\∀(i:Nat),let A3:=[I (a.g i).want,I (a.g i).sheet,I (a.g i).turn,I (a.g i).at_.x,I (a.g i).at_.y];i<a.n->A3=A3)/\(b.n=b.n/\∀(i:Nat),let A4:=[I (b.g i).want,I (b.g i).sheet,I (b.g i).turn,I (b.g i).at_.x,I (b.g i).at_.y];i<b.n->A4=A4)/\(g'<=a.n/\∀(j:Nat),j<g'->GV (a.g j) (b.g j)=true)/\a.n-g'<a.n-g))/\(decide (A2<A8)=false->true=Gi a b))) (by kernel_rfl) (by
 conv=>zeta
 have hn:a.n<=1000000:=hp;refine⟨fun h=>?_,fun h=>?_⟩
 ·unfold Gi;rw[h];rfl
 have e:Gi a b=CD a.n fun i=>GV (a.g i) (b.g i):=by unfold Gi;rw[h];rfl
 have hab:(a.n:Int)=(b.n:Int):=of_decide_eq_true (Ca h);rw[e];refine⟨⟨0,rfl,Afg _,fun j hj=>absurd hj (Rc _)⟩,fun k hk=>⟨fun hc=>?_,fun hc=>?_⟩⟩
 ·have hc:(k:Int)<(a.n:Int):=of_decide_eq_true hc;have e0:((k:Int)).toNat=k:=Afy k;have k1:Ad .i64 ((k:Int)+1):=jK;have g1:k+1<=a.n:=by omega
  have g2:a.n-(k+1)<a.n-k:=by omega
  have cn:(k:Int)+1=((k+1:Nat):Int):=by omega
  rw[e0];refine⟨by omega,by omega,fun h1=>?_,fun h1=>⟨k1,k+1,?_⟩⟩
  ·have h1:GV (a.g k) (b.g k)=false:=Cx h1;exact(FF (i:=k) (f:=fun i=>GV (a.g i) (b.g i)) g1 h1).symm
  ·have h1:GV (a.g k) (b.g k)=true:=Ca h1;have nx:∀j,j<k+1->GV (a.g j) (b.g j)=true:=fun j hj=>by
    rcases Aft.1 hj with h|rfl
    ·exact hk.2 j h
    ·exact h1
   exact(by(try dsimp only);(repeat' with_reducible apply And.intro)<;>first|with_reducible rfl|with_reducible assumption|with_reducible exact fun _=>rfl|with_reducible exact fun _ _=>rfl|with_reducible exact trivial|exact rfl|(intro _;exact rfl)|(intro _ _;exact rfl)|exact cn|exact nx|exact g1|exact g2|exact trivial|(intro _ h_;exact absurd h_ (Rc _)))
 ·have hc:¬ (k:Int)<(a.n:Int):=of_decide_eq_false hc;exact(CQ.2 fun i hi=>hk.2 i (by omega)).symm)
theorem Ac2:Av Tryz.prog 15 cU:=AM Tryz.func15 (c:=Ah Tryz.f15) (by kernel_rfl) mixed (fun args p r hs hp=>by
 unfold cT at hs;split at hs
 ·cases hs;exact⟨_,_,Ac1 _ _ hp.2.2,(.p (.sl hp.1) (.p (.sl hp.2.1) .nil)),⟨show Aa Tryz.prog _ from Aa.nil,rfl,⟨show Ag Tryz.prog _ from Ag.nil,(Aw.none (fun _=>rfl))⟩⟩⟩
 ·cases hs)
theorem Ac3:Ao Tryz.prog 15:=fun args w=>by kernel_rfl
end Go.Proofs.YtijidjjfkahojaaGreat
