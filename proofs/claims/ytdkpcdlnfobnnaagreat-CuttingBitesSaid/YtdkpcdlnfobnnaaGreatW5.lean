/- A symbolic walk over the model, and what it shows of functions of the program: parts of the proof that the text of the row joins. -/
import Derived.Test.YtdkpcdlnfobnnaaGreatW4
import Derived.Test.YtdkpcdlnfobnnaaGreatE5
import Derived.KernelRfl
import Derived.Test.YtdkpcdlnfobnnaaGreatW2
import Derived.Test.YtdkpcdlnfobnnaaGreatW3
open List renaming getD_eq_getElem?_getD->AS,getElem?_eq_getElem->rH,range->Adu,mem_range->Adz,all_eq_true->Ad0,getElem_mem->AdC
open Nat renaming not_lt_zero->oE,zero_le->Ads
open Bool renaming and_eq_true->pR,or_eq_false_iff->AdD
open Int renaming toNat_natCast->Ad3,toNat->Ad6,natCast_nonneg->AdG,le_refl->AdQ
open Option renaming none->AdB
namespace Go.Proofs.YtdkpcdlnfobnnaaGreat
open Go.SE Go.RowKit
set_option maxRecDepth 100000
set_option maxHeartbeats 4000000
set_option linter.unusedVariables false
attribute [local irreducible] vc
def Ji (l:List Int):Nat:=l.length
def Ab (a b:Nat):Bool:=decide (a<b)
def B5 (l:List Int):L.Sq Int:=⟨l.length,fun i=>l.getD i 0⟩
structure BT where
 fd:Bool
 ls:Int
 bt:List Int
def Jj (g:Int) (i:Nat):Int:=FM g (Dc 1 i)
def Hh (w:L.Sq Ah) (s:L.Sq Az) (G:Nat->Int) (i k:Nat):Bool:=bif !decide ((s.g k).colour=(w.g i).colour)then true else !D0 w (s.g k).grain (Jj (G k) i) ⟨(s.g k).w,(s.g k).h⟩
def Ds (s:L.Sq Az) (G:Nat->Int) (k:Nat):Int:=bif decide (G k=0)then(s.g k).w*(s.g k).h else 0
def E2 (G:Nat->Int) (k i:Nat):Nat->Int:=fun j=>if j=k then Jj (G k) i else G j
def Ea (l:List Int) (k:Int):List Int:=l ++ [k]
def EZ (w:L.Sq Ah) (s:L.Sq Az):Nat->Nat->List Int->Int->(Nat->Int)->BT->BT
 |0,_,_,_,_,st=>st
 |f+1,i,A,sum,G,st=>if (st.fd&&decide (st.ls<=sum))=true then st else if i=w.n then⟨true,sum,A⟩else
   (Adu s.n).foldl (fun st k=>bif Hh w s G i k then st else EZ w s f (i+1) (Ea A k) (sum+Ds s G k) (E2 G k i) st) st
def D2 (w:L.Sq Ah) (s:L.Sq Az) (i:Nat) (A:List Int) (sum:Int) (G:Nat->Int) (st:BT):BT:=EZ w s (w.n+1-i) i A sum G st
def Dt (w:L.Sq Ah) (s:L.Sq Az) (i:Nat) (A:List Int) (sum:Int) (G:Nat->Int) (st:BT) (k:Nat):BT:=(Adu k).foldl (fun st k=>bif Hh w s G i k then st else D2 w s (i+1) (Ea A k) (sum+Ds s G k) (E2 G k i) st) st
theorem eQ (w:L.Sq Ah) (s:L.Sq Az) (i:Nat) (A:List Int) (sum:Int) (G:Nat->Int) (st:BT) (k:Nat):Dt w s i A sum G st (k+1)=bif Hh w s G i k then Dt w s i A sum G st k else D2 w s (i+1) (Ea A k) (sum+Ds s G k) (E2 G k i) (Dt w s i A sum G st k):=by
 unfold Dt;rw[List.range_succ,List.foldl_append];rfl
theorem Ac2 (w:L.Sq Ah) (s:L.Sq Az) {i:Nat} (A:List Int) {sum:Int} (G:Nat->Int) {st:BT} (hi:i<=w.n) (h:(st.fd&&decide (st.ls<=sum))=true):D2 w s i A sum G st=st:=by
 unfold D2;obtain⟨f,e⟩:∃f,w.n+1-i=f+1:=⟨w.n-i,by omega⟩;rw[e,EZ,if_pos h]
theorem Ac3 (w:L.Sq Ah) (s:L.Sq Az) (A:List Int) {sum:Int} (G:Nat->Int) {st:BT} (h:(st.fd&&decide (st.ls<=sum))=false):D2 w s w.n A sum G st=⟨true,sum,A⟩:=by
 unfold D2;rw[show w.n+1-w.n=0+1 by omega,EZ,if_neg (by rw[h];decide),if_pos rfl]
theorem Ac4 (w:L.Sq Ah) (s:L.Sq Az) {i:Nat} (A:List Int) {sum:Int} (G:Nat->Int) {st:BT} (hi:i<w.n) (h:(st.fd&&decide (st.ls<=sum))=false):D2 w s i A sum G st=Dt w s i A sum G st s.n:=by
 unfold D2 Dt;rw[show w.n+1-i=(w.n-i)+1 by omega,EZ,if_neg (by rw[h];decide),if_neg (by omega)];unfold D2;rw[show w.n+1-(i+1)=w.n-i by omega]
def eV (i g:Nat):Bool:=decide (Jj g i=g+2 ^ i)&&(decide (Dj (g+2 ^ i) (Dc 1 i)=g)&&decide (0<=Dc 1 i)&&decide (Dc 1 i<=16))
theorem Ac5:((Adu 4).all fun i=>(Adu (2 ^ i)).all (eV i))=true:=by kernel_rfl
theorem QW {i:Nat} (hi:i<4) {g:Int} (h0:0<=g) (h1:g<2 ^ i):Jj g i=g+2 ^ i/\Dj (g+2 ^ i) (Dc 1 i)=g/\0<=Dc 1 i/\Dc 1 i<=16:=by
 obtain⟨n,rfl⟩:=Int.eq_ofNat_of_zero_le h0;have hn:n<2 ^ i:=by exact_mod_cast h1
 have:=Ad0.1 (Ad0.1 Ac5 i (Adz.2 hi)) n (Adz.2 hn);unfold eV at this;simp only[pR,decide_eq_true_eq]at this;exact⟨this.1,this.2.1.1,this.2.1.2,this.2.2⟩
theorem Ac6 {s:Az} (h:Cq s=true):1<=s.w/\s.w<=4096/\1<=s.h/\s.h<=4096:=by
 unfold Cq at h;cases h1:AG s.id 1 65535
 ·rw[h1]at h;cases h
 cases h2:AG s.colour 1 16
 ·rw[h1,h2]at h;cases h
 cases h3:AG s.w 1 4096
 ·rw[h1,h2,h3]at h;cases h
 cases h4:AG s.h 1 4096
 ·rw[h1,h2,h3,h4]at h;cases h
 unfold AG at h3 h4;rw[pR,decide_eq_true_eq,decide_eq_true_eq]at h3 h4;omega
def HC (n i:Nat) (G:Nat->Int):Prop:=∀k,k<n->0<=G k/\G k<2 ^ i
theorem Ac7 {n i:Nat} (hn:n<=4) (hi:i<n) {g:Int} (h0:0<=g) (h1:g<2 ^ i):0<=Jj g i/\Jj g i<=Bw n:=by
 obtain⟨e,_⟩:=QW (show i<4 by omega) h0 h1;rw[e,bK hn];have hp:(2:Int) ^ i+2 ^ i<=2 ^ n:=by
  have:(2:Int) ^ (i+1)<=2 ^ n:=by exact_mod_cast Nat.pow_le_pow_right (show 0<2 by decide) hi
  rw[Int.pow_succ]at this;omega
 have h2:(0:Int)<2 ^ i:=Int.pow_pos (by decide);omega
theorem Ky (w:L.Sq Ah) (s:L.Sq Az) (i:Nat) (A:List Int) (sum:Int) (G:Nat->Int) (st:BT):Dt w s i A sum G st 0=st:=rfl
theorem Ac8 {n i k:Nat} {G:Nat->Int} (hi:i<4) (h:HC n i G) (hk:k<n):HC n (i+1) (E2 G k i):=fun j hj=>by
 have h2:(0:Int)<2 ^ i:=Int.pow_pos (by decide);have hp:(2:Int) ^ (i+1)=2 ^ i+2 ^ i:=by rw[Int.pow_succ];omega
 unfold E2
 by_cases e:j=k
 ·rw[if_pos e,(QW hi (h k hk).1 (h k hk).2).1];have:=h k hk;omega
 ·rw[if_neg e];have:=h j hj;omega
def BO (A:List Int) (X:Nat->Int) (j:Nat):Int:=if j<A.length then A.getD j 0 else X j
section
attribute [local irreducible] Dt D2 EZ D0 An BU Bw Aq Dj FM Dc
def eX (l:(L.Sq Int)):Prop:=l.n<=1000000
def eY (l:(L.Sq Int)):Nat->Prop:=fun _=>True
def fA (l:(L.Sq Int)):Nat->Nat:=fun _=>l.n
def fB (l:(L.Sq Int)):Nat->Nat->List SV:=fun _ i=>[.int .i64 (l.g i)]
def fC:List EV->Option (Prop×(Nat->Prop)×(Nat->Nat)×(Nat->Nat->List SV))
 |[.p (.sl 1 l_n l_g)]=>some ((∀i,i<l_n->l_g i = [.int .i64 ((DG (l_g i)))])/\eX (⟨l_n,fun i=>DG (l_g i)⟩:(L.Sq Int)),eY (⟨l_n,fun i=>DG (l_g i)⟩:(L.Sq Int)),fA (⟨l_n,fun i=>DG (l_g i)⟩:(L.Sq Int)),fB (⟨l_n,fun i=>DG (l_g i)⟩:(L.Sq Int)))
 |_=>none
abbrev fD:SE.Spec:=(FC Nat 0 3 1 fC)
def Ac9:Aj:={ cC with muts:=[5] }
theorem AcA (l:(L.Sq Int)) (hp:eX l):vc Tryz.prog (Ac9) (Af Tryz.f98) (Ar Tryz.f98 [.p (.sl 1 l.n (fun i=>[.int .i64 ((l.g i))]))]) (EM Tryz.prog Tryz.f98 (Nat) (eY l) 3 1 (fA l) (fB l)):=
 @Eq.mpr _ (∀(b:Bool),(b = !false->l.n=(0:Nat))->(b=true->∃(t:Nat),l.n=(0:Nat)/\True)/\(b=false->(nat_lit 0+l.n)*nat_lit 8<=(140737488355328:Nat)/\∃(t:Nat),(nat_lit 0+l.n=l.n/\∀(i:Nat),i<nat_lit 0+l.n->Ba (nat_lit 0) (Bb [] (nat_lit 1)) (fun(i:Nat)=>[SV.int .i64 (l.g i)]) i = [SV.int .i64 (l.g i)])/\True)) (by kernel_rfl) (by
 have hn:l.n<=1000000:=hp;refine fun b hb=>⟨fun h=>⟨(0:Nat),hb h,trivial⟩,fun h=>⟨show(0+l.n)*8<=140737488355328 by omega,(0:Nat),⟨Nat.zero_add _,fun i hi=>?_⟩,trivial⟩⟩;unfold Ba;rw[if_neg (oE _)];rfl)
theorem AcB:AB Tryz.prog 98 fD:=Ge Tryz.func98 (c:=Af Tryz.f98) (by kernel_rfl) mixed (fun args p q n g hs hp=>by
 unfold fC at hs;split at hs
 ·cases hs;exact⟨_,_,AcA _ hp.2,(.p (.sl hp.1) .nil),⟨show Aa Tryz.prog _ from Aa.nil,rfl,⟨show Ae Tryz.prog _ from Ae.nil,(AC.none (fun _=>rfl))⟩⟩⟩
 ·cases hs)
theorem AcC:Ao Tryz.prog 98:=fun args w=>by kernel_rfl
abbrev fE:Fp:={ T:=L.Sq Ah×Int×Int×Ag,args:=fun t=>[.int .i64 t.2.2.1,.agg [.int .i64 t.2.2.2.w,.int .i64 t.2.2.2.h]],t:=172,kt:=3,vt:=64,head:=fun t=>(fun w gr=>[(.sl 4 w.n (fun i=>[.int .i64 ((w.g i).id),.int .i64 ((w.g i).colour),.int .i64 ((w.g i).grain),.sl 2 (w.g i).ol.n (fun i1=>[.int .i64 (((w.g i).ol.g i1).x),.int .i64 (((w.g i).ol.g i1).y)])])),.int .i64 gr]) t.1 t.2.1,val:=fun t=>Ad (An t.1 t.2.1),pre:=fun t=>Cs t.1/\0<=t.2.2.1/\t.2.2.1<=Bw t.1.n,res:=fun t=>.bool (D0 t.1 t.2.1 t.2.2.1 t.2.2.2) }
theorem AcD:IC Tryz.prog 99 fE:=mQ 1000 1001 (by decide) QO (fun t d=>(t.1,t.2.1,d,t.2.2.1,t.2.2.2)) (fun _ _ u=>u) rfl rfl rfl (fun _ _=>rfl) (fun _ _=>rfl) (fun _ _ _=>rfl) (fun _ _ h=>h) (fun _ _ _=>rfl)
theorem AcE:Ao Tryz.prog 99:=QN
abbrev Iu:Mk:={ T:=(L.Sq Ah)×(L.Sq Az)×(Nat)×(List Int)×(Nat->Int)×(Int)×(Nat->Int)×(BT),U:=Nat->Int,args:=fun t=>(fun w s i A X sum G st=>[.p (.int .i64 (i:Int)),.rpre 1012 i,.p (.int .i64 sum)] ++ [.loc 1000 0,.loc 1001 0,.p (.ref [(.sl 4 w.n (fun i=>[.int .i64 ((w.g i).id),.int .i64 ((w.g i).colour),.int .i64 ((w.g i).grain),.sl 2 (w.g i).ol.n (fun i1=>[.int .i64 (((w.g i).ol.g i1).x),.int .i64 (((w.g i).ol.g i1).y)])]))] 0),.loc 1002 0,.p (.ref [(.sl 5 s.n (fun i=>[.int .i64 ((s.g i).id),.int .i64 ((s.g i).colour),.int .i64 ((s.g i).w),.int .i64 ((s.g i).h),.int .i64 ((s.g i).grain)]))] 0),.loc 1003 0,.loc 1004 0,.loc 1005 0]) t.1 t.2.1 t.2.2.1 t.2.2.2.1 t.2.2.2.2.1 t.2.2.2.2.2.1 t.2.2.2.2.2.2.1 t.2.2.2.2.2.2.2,lkeys:=[1000,1001,1002,1003,1004,1005,1010,1020,1021,1022,1023,1024,1025,1026,1027,1011,1012],keys:=[],lent:=fun t=>(fun w s i A X sum G st=>[(1000,.blk 4 [.p (.bool (st).fd)]),(1001,.blk 3 [.p (.int .i64 (st).ls)]),(1002,.blk 69 [.p (.sl 1 (B5 (st).bt).n (fun j=>[.int .i64 ((B5 (st).bt).g j)]))]),(1003,.blk 146 [.row 1010]),(1004,.blk 69 [.row 1011]),(1005,.blk 147 [.cl 97 [.loc 1000 0,.loc 1001 0,.p (.ref [(.sl 4 w.n (fun i=>[.int .i64 ((w.g i).id),.int .i64 ((w.g i).colour),.int .i64 ((w.g i).grain),.sl 2 (w.g i).ol.n (fun i1=>[.int .i64 (((w.g i).ol.g i1).x),.int .i64 (((w.g i).ol.g i1).y)])]))] 0),.loc 1002 0,.p (.ref [(.sl 5 s.n (fun i=>[.int .i64 ((s.g i).id),.int .i64 ((s.g i).colour),.int .i64 ((s.g i).w),.int .i64 ((s.g i).h),.int .i64 ((s.g i).grain)]))] 0),.loc 1003 0,.loc 1004 0,.loc 1005 0]]),(1010,.prow 103 s.n [1020,1021,1022,1023,1024,1025,1026,1027]),(1020,.oblk (Ab 0 s.n) 172 [.p ((.sl 4 w.n (fun i=>[.int .i64 ((w.g i).id),.int .i64 ((w.g i).colour),.int .i64 ((w.g i).grain),.sl 2 (w.g i).ol.n (fun i1=>[.int .i64 (((w.g i).ol.g i1).x),.int .i64 (((w.g i).ol.g i1).y)])]))),.p (.int .i64 (s.g 0).grain),.mapv 1021]),(1021,.omq (Ab 0 s.n) 3 64 (Ad (An w (s.g 0).grain))),(1022,.oblk (Ab 1 s.n) 172 [.p ((.sl 4 w.n (fun i=>[.int .i64 ((w.g i).id),.int .i64 ((w.g i).colour),.int .i64 ((w.g i).grain),.sl 2 (w.g i).ol.n (fun i1=>[.int .i64 (((w.g i).ol.g i1).x),.int .i64 (((w.g i).ol.g i1).y)])]))),.p (.int .i64 (s.g 1).grain),.mapv 1023]),(1023,.omq (Ab 1 s.n) 3 64 (Ad (An w (s.g 1).grain))),(1024,.oblk (Ab 2 s.n) 172 [.p ((.sl 4 w.n (fun i=>[.int .i64 ((w.g i).id),.int .i64 ((w.g i).colour),.int .i64 ((w.g i).grain),.sl 2 (w.g i).ol.n (fun i1=>[.int .i64 (((w.g i).ol.g i1).x),.int .i64 (((w.g i).ol.g i1).y)])]))),.p (.int .i64 (s.g 2).grain),.mapv 1025]),(1025,.omq (Ab 2 s.n) 3 64 (Ad (An w (s.g 2).grain))),(1026,.oblk (Ab 3 s.n) 172 [.p ((.sl 4 w.n (fun i=>[.int .i64 ((w.g i).id),.int .i64 ((w.g i).colour),.int .i64 ((w.g i).grain),.sl 2 (w.g i).ol.n (fun i1=>[.int .i64 (((w.g i).ol.g i1).x),.int .i64 (((w.g i).ol.g i1).y)])]))),.p (.int .i64 (s.g 3).grain),.mapv 1027]),(1027,.omq (Ab 3 s.n) 3 64 (Ad (An w (s.g 3).grain))),(1011,.row 3 1 s.n (fun k=>[.int .i64 (G k)])),(1012,.row 3 1 w.n (fun j=>[.int .i64 (BO A X j)]))]) t.1 t.2.1 t.2.2.1 t.2.2.2.1 t.2.2.2.2.1 t.2.2.2.2.2.1 t.2.2.2.2.2.2.1 t.2.2.2.2.2.2.2,pre:=fun t=>(fun w s i A X sum G st=>Cs w/\s.n<=4/\(∀k,k<s.n->Cq (s.g k)=true)/\i<=w.n/\Ji A=i/\HC s.n i G/\0<=(sum:Int)/\(sum:Int)<=(i:Int)*16777216) t.1 t.2.1 t.2.2.1 t.2.2.2.1 t.2.2.2.2.1 t.2.2.2.2.2.1 t.2.2.2.2.2.2.1 t.2.2.2.2.2.2.2,post:=fun t u=>(fun w s i A X sum G st=>fun u=>True) t.1 t.2.1 t.2.2.1 t.2.2.2.1 t.2.2.2.2.1 t.2.2.2.2.2.1 t.2.2.2.2.2.2.1 t.2.2.2.2.2.2.2 u,lent':=fun t u=>(fun w s i A X sum G st=>fun u=>[(1000,.blk 4 [.p (.bool (D2 w s i A sum G st).fd)]),(1001,.blk 3 [.p (.int .i64 (D2 w s i A sum G st).ls)]),(1002,.blk 69 [.p (.sl 1 (B5 (D2 w s i A sum G st).bt).n (fun j=>[.int .i64 ((B5 (D2 w s i A sum G st).bt).g j)]))]),(1003,.blk 146 [.row 1010]),(1004,.blk 69 [.row 1011]),(1005,.blk 147 [.cl 97 [.loc 1000 0,.loc 1001 0,.p (.ref [(.sl 4 w.n (fun i=>[.int .i64 ((w.g i).id),.int .i64 ((w.g i).colour),.int .i64 ((w.g i).grain),.sl 2 (w.g i).ol.n (fun i1=>[.int .i64 (((w.g i).ol.g i1).x),.int .i64 (((w.g i).ol.g i1).y)])]))] 0),.loc 1002 0,.p (.ref [(.sl 5 s.n (fun i=>[.int .i64 ((s.g i).id),.int .i64 ((s.g i).colour),.int .i64 ((s.g i).w),.int .i64 ((s.g i).h),.int .i64 ((s.g i).grain)]))] 0),.loc 1003 0,.loc 1004 0,.loc 1005 0]]),(1010,.prow 103 s.n [1020,1021,1022,1023,1024,1025,1026,1027]),(1020,.oblk (Ab 0 s.n) 172 [.p ((.sl 4 w.n (fun i=>[.int .i64 ((w.g i).id),.int .i64 ((w.g i).colour),.int .i64 ((w.g i).grain),.sl 2 (w.g i).ol.n (fun i1=>[.int .i64 (((w.g i).ol.g i1).x),.int .i64 (((w.g i).ol.g i1).y)])]))),.p (.int .i64 (s.g 0).grain),.mapv 1021]),(1021,.omq (Ab 0 s.n) 3 64 (Ad (An w (s.g 0).grain))),(1022,.oblk (Ab 1 s.n) 172 [.p ((.sl 4 w.n (fun i=>[.int .i64 ((w.g i).id),.int .i64 ((w.g i).colour),.int .i64 ((w.g i).grain),.sl 2 (w.g i).ol.n (fun i1=>[.int .i64 (((w.g i).ol.g i1).x),.int .i64 (((w.g i).ol.g i1).y)])]))),.p (.int .i64 (s.g 1).grain),.mapv 1023]),(1023,.omq (Ab 1 s.n) 3 64 (Ad (An w (s.g 1).grain))),(1024,.oblk (Ab 2 s.n) 172 [.p ((.sl 4 w.n (fun i=>[.int .i64 ((w.g i).id),.int .i64 ((w.g i).colour),.int .i64 ((w.g i).grain),.sl 2 (w.g i).ol.n (fun i1=>[.int .i64 (((w.g i).ol.g i1).x),.int .i64 (((w.g i).ol.g i1).y)])]))),.p (.int .i64 (s.g 2).grain),.mapv 1025]),(1025,.omq (Ab 2 s.n) 3 64 (Ad (An w (s.g 2).grain))),(1026,.oblk (Ab 3 s.n) 172 [.p ((.sl 4 w.n (fun i=>[.int .i64 ((w.g i).id),.int .i64 ((w.g i).colour),.int .i64 ((w.g i).grain),.sl 2 (w.g i).ol.n (fun i1=>[.int .i64 (((w.g i).ol.g i1).x),.int .i64 (((w.g i).ol.g i1).y)])]))),.p (.int .i64 (s.g 3).grain),.mapv 1027]),(1027,.omq (Ab 3 s.n) 3 64 (Ad (An w (s.g 3).grain))),(1011,.row 3 1 s.n (fun k=>[.int .i64 (G k)])),(1012,.row 3 1 w.n (fun j=>[.int .i64 (BO A u j)]))]) t.1 t.2.1 t.2.2.1 t.2.2.2.1 t.2.2.2.2.1 t.2.2.2.2.2.1 t.2.2.2.2.2.2.1 t.2.2.2.2.2.2.2 u,own:=fun t u=>(fun w s i A X sum G st=>fun u=>[]) t.1 t.2.1 t.2.2.1 t.2.2.2.1 t.2.2.2.2.1 t.2.2.2.2.2.1 t.2.2.2.2.2.2.1 t.2.2.2.2.2.2.2 u,res:=fun t u=>(fun w s i A X sum G st=>fun u=>.p (.tup [])) t.1 t.2.1 t.2.2.1 t.2.2.2.1 t.2.2.2.2.1 t.2.2.2.2.2.1 t.2.2.2.2.2.2.1 t.2.2.2.2.2.2.2 u }
abbrev fF:Iu.T->Nat:=fun t=>(fun w s i A X sum G st=>w.n-i) t.1 t.2.1 t.2.2.1 t.2.2.2.1 t.2.2.2.2.1 t.2.2.2.2.2.1 t.2.2.2.2.2.2.1 t.2.2.2.2.2.2.2
theorem AcF (rn:Nat) (w:L.Sq Ah) (s:L.Sq Az) (i:Nat) (A:List Int) (X:Nat->Int) (sum:Int) (G:Nat->Int) (st:BT) (hp:Iu.pre (w,s,i,A,X,sum,G,st)) (hmu:w.n-i<rn+1):vc Tryz.prog ({ muts:=[],frz:=BH [],specs:=AF [(98,fD)],loops:=AY [(4,{ T:=Nat×(Nat->Int),keep:=[0,1,2,3,4,5,6,7,8,9,10,30],keepO:=[1003,1004,1005,1010,1020,1021,1022,1023,1024,1025,1026,1027,1011],chg:=fun t=>[(31,.p (.int .i64 (t.1:Int)))],own:=fun t=>[(1000,.blk 4 [.p (.bool ((Dt w s i A sum G st t.1)).fd)]),(1001,.blk 3 [.p (.int .i64 ((Dt w s i A sum G st t.1)).ls)]),(1002,.blk 69 [.p (.sl 1 (B5 ((Dt w s i A sum G st t.1)).bt).n (fun j=>[.int .i64 ((B5 ((Dt w s i A sum G st t.1)).bt).g j)]))]),(1012,.row 3 1 w.n (fun j=>[.int .i64 (BO A t.2 j)]))],inv:=fun t=>t.1<=s.n,mu:=fun t=>s.n-t.1 })],iters:=B6 [],rfs:=AU [],nils:=BD [],mks:=EA [(97,Mk.lt Iu fF rn)],ren:=fun k=>k,fams:=Lt [(99,fE)],joins:=AY [(10,{ T:=Nat,keep:=[0,1,2,3,4,5,6,7,8,9,10,14,30,31],keepO:=[1003,1004,1005,1010,1020,1021,1022,1023,1024,1025,1026,1027,1000,1001,1002,1011,1012],chg:=fun k=>[(15,.p (.int .i64 (Ds s G k)))],own:=fun _=>[],inv:=fun _=>True,mu:=fun _=>0,tie:=fun k=>[(14,.int .i64 (k:Int))] })],anys:=[1011] }) (Af Tryz.f97) (D3 Tryz.f97 (Iu.args (w,s,i,A,X,sum,G,st)) (Iu.lent (w,s,i,A,X,sum,G,st))) (FD Tryz.prog Tryz.f97 Iu (w,s,i,A,X,sum,G,st)):=
  @Eq.mpr _ (let I:=SV.int .i64;let T:=Ad6;let A107:=(↑w.n:Int);let A96:=(nat_lit 1005);let A95:=(nat_lit 1004);let A94:=(nat_lit 1003);let A93:=(nat_lit 1002);let A92:=(nat_lit 1001);let A91:=(nat_lit 1000);let A90:=(4:Nat);let A88:=(97:Nat);let A59:=(nat_lit 4);let A58:=(B5 st.bt);let A57:=(1:Int);let A55:=(bif st.fd then
 decide (st.ls<=sum)else false);let A40:=(nat_lit 97);let A34:=(0:Int);let A31:=(↑i:Int);let A30:=(↑s.n:Int);let A26:=(D2 w s i A sum G st);let A56:=(B5 A26.bt);let A25:=(Dc A57 A31);let A24:=(s.n=s.n/\∀(i:Nat),i<s.n -> [I (G i)]= [I (G i)]);let A17:=(3:Nat);let A36:=(s.g A17);let A43:=(An w A36.grain);let A23
:=(∀(x:Int),Ad A43 x=Ad A43 x);let A16:=(nat_lit 0);let A15:=(1:Nat);let A37:=(s.g A15);let A44:=(An w A37.grain);let A21:=(∀(x:Int),Ad A44 x=Ad A44 x);let A13:=(0:Nat);let A61:=(A13<nat_lit 1/\i+nat_lit 1<=w.n);let A38:=(s.g A13);let A45:=(An w A38.grain);let A20:=(∀(x:Int),Ad A45 x=Ad A45 x);let A12:=(2
:Nat);let A39:=(s.g A12);let A46:=(An w A39.grain);let A22:=(∀(x:Int),Ad A46 x=Ad A46 x);let A4:=[SV.sl (nat_lit 5) s.n fun(i:Nat)=>[I (s.g i).id,I (s.g i).colour,I (s.g i).w,I (s.g i).h,I (s.g i).grain]];let A3:=[SV.sl A59 w.n fun(i:Nat)=>[I (w.g i).id,I (w.g i).colour,I (w.g i).grain,SV.sl A12 (w.g i).ol.n fun(i1:Nat)=>[I
 ((w.g i).ol.g i1).x,I ((w.g i).ol.g i1).y]]];let A2:=(w.n=w.n/\∀(i:Nat),let A35:=[I (w.g i).id,I (w.g i).colour,I (w.g i).grain,SV.sl A12 (w.g i).ol.n fun(i1:Nat)=>[I ((w.g i).ol.g i1).x,I ((w.g i).ol.g i1).y]];i<w.n->A35=A35);let A1:=[EV.loc A91 A16,EV.loc A92 A16,EV.p (SV.ref A3 A16),EV.loc A93 A16,EV.p (SV.ref A4
 A16),EV.loc A94 A16,EV.loc A95 A16,EV.loc A96 A16];(A55=true->∃(u:Nat->Int),st.fd=A26.fd/\st.ls=A26.ls/\(A58.n=A56.n/\∀(i_1:Nat),i_1<A58.n -> [I (A58.g i_1)]= [I (A56.g i_1)])/\EV.cl A40 A1=EV.cl A88 A1/\s.n=s.n/\Ab A13 s.n=Ab A13 s.n/\A2/\A38.grain=A38.grain/\Ab A13 s.n=Ab A13 s.n/\A20/\Ab A15 s.n
 = Ab A15 s.n/\A2/\A37.grain=A37.grain/\Ab A15 s.n=Ab A15 s.n/\A21/\Ab A12 s.n=Ab A12 s.n/\A2/\A39.grain=A39.grain/\Ab A12 s.n=Ab A12 s.n/\A22/\Ab A17 s.n=Ab A17 s.n/\A2/\A36.grain=A36.grain/\Ab A17 s.n=Ab A17 s.n/\A23/\A24/\(w.n=w.n/\∀(i:Nat),i<w.n -> [I (BO A X i)]= [I (BO A u i)])/\True)/\(A55 =
 false->(decide (A31=A107)=true->i<=w.n/\((∀(i_1:Nat),i_1<i -> [I (BO A X i_1)]= [I (BO A X i_1)])/\i<=(1000000:Nat))/\∀(t:Nat),True->(∀(i_1:Nat),i_1<i->(true&&true)=true)/\∃(u:Nat->Int),true=A26.fd/\sum=A26.ls/\(i=A56.n/\∀(i_1:Nat),i_1<i -> [I (BO A X i_1)]= [I (A56.g i_1)])/\EV.cl A40
 A1=EV.cl A88 A1/\s.n=s.n/\Ab A13 s.n=Ab A13 s.n/\A2/\A38.grain=A38.grain/\Ab A13 s.n=Ab A13 s.n/\A20/\Ab A15 s.n=Ab A15 s.n/\A2/\A37.grain=A37.grain/\Ab A15 s.n=Ab A15 s.n/\A21/\Ab A12 s.n=Ab A12 s.n/\A2/\A39.grain=A39.grain/\Ab A12 s.n=Ab A12 s.n/\A22/\Ab A17 s.n=Ab A17 s.n/\A2/\A36.grain =
 A36.grain/\Ab A17 s.n=Ab A17 s.n/\A23/\A24/\(w.n=w.n/\∀(i:Nat),i<w.n -> [I (BO A X i)]= [I (BO A u i)])/\True)/\(decide (A31=A107)=false->(∃(g:Nat×(Nat->Int)),let A51:=(Dt w s i A sum G st g.1);A34=(↑g.1:Int)/\st.fd=A51.fd/\st.ls=A51.ls/\(A58.n=(B5 A51.bt).n/\∀(i_1:Nat),i_1<A58.n -> [I (A58.g i_1)]= [I ((B5
 A51.bt).g i_1)])/\(w.n=w.n/\∀(i:Nat),i<w.n -> [I (BO A X i)]= [I (BO A g.2 i)])/\g.1<=s.n)/\∀(g:Nat×(Nat->Int)),let A53:=(w.n=w.n/\∀(i:Nat),i<w.n -> [I (BO A g.2 i)]= [I (BO A g.2 i)]);let A11:=(↑g.1:Int);let A79:=[I (FM (G (T A11)) A25)];let A54:=(s.g (T A11));let A47:=(A34<=A11/\A11<A30);let A10:=(Dt w s i A sum G st
 g.1);let A27:=(B5 A10.bt);let A52:=(A27.n=A27.n/\∀(i_1:Nat),i_1<A27.n -> [I (A27.g i_1)]= [I (A27.g i_1)]);let A5:=(!!decide (A54.colour=(w.g (T A31)).colour));let A89:=(A5=true->T A11<s.n);let A42:=(A5=true->A34<=A11/\A11<A30);g.1<=s.n->(decide (A11<A30)=true->A47/\(A34<=A31/\A31<A107)/\A42/\A89/\A42/\A89
 /\ (A5=true->A34<=A31)/\(A5=true->Ac .i64 A25)/\A42/\A42/\∃(t:L.Sq Ah×Int×Int×Ag),let A60:=(An t.1 t.2.1);let A41:=(bif !decide (A54.colour=(w.g (T A31)).colour)then true else !D0 t.1 t.2.1 t.snd.2.1 t.snd.2.2);let A14:=[SV.sl A90 t.1.n fun(i:Nat)=>let A70:=(t.1.g i);[I A70.id,I A70.colour,I
 A70.grain,SV.sl A12 A70.ol.n fun(i1:Nat)=>[I (A70.ol.g i1).x,I (A70.ol.g i1).y]],I t.2.1];(A5=true->T A11<A13+A15+A15+A15+A15)/\(A5=true->T A11=A13->Ab A13 s.n=true/\Ab A13 s.n=true /\ [SV.sl A59 w.n fun(i:Nat)=>[I (w.g i).id,I (w.g i).colour,I (w.g i).grain,SV.sl A12 (w.g i).ol.n fun(i1:Nat)=>[I ((w.g i).ol.g
 i1).x,I ((w.g i).ol.g i1).y]],I A38.grain]=A14/\∀(x:Int),Ad A45 x=Ad A60 x)/\(A5=true->T A11=A13+A15->Ab A15 s.n=true/\Ab A15 s.n=true /\ [SV.sl A59 w.n fun(i:Nat)=>[I (w.g i).id,I (w.g i).colour,I (w.g i).grain,SV.sl A12 (w.g i).ol.n fun(i1:Nat)=>[I ((w.g i).ol.g i1).x,I ((w.g i).ol.g i1).y]],I A37.grain]=A14/\∀(x
:Int),Ad A44 x=Ad A60 x)/\(A5=true->T A11=A13+A15+A15->Ab A12 s.n=true/\Ab A12 s.n=true /\ [SV.sl A59 w.n fun(i:Nat)=>[I (w.g i).id,I (w.g i).colour,I (w.g i).grain,SV.sl A12 (w.g i).ol.n fun(i1:Nat)=>[I ((w.g i).ol.g i1).x,I ((w.g i).ol.g i1).y]],I A39.grain]=A14/\∀(x:Int),Ad A46 x=Ad A60 x)/\(A5 =
 true->T A11=A13+A15+A15+A15->Ab A17 s.n=true/\Ab A17 s.n=true /\ [SV.sl A59 w.n fun(i:Nat)=>[I (w.g i).id,I (w.g i).colour,I (w.g i).grain,SV.sl A12 (w.g i).ol.n fun(i1:Nat)=>[I ((w.g i).ol.g i1).x,I ((w.g i).ol.g i1).y]],I A36.grain]=A14/\∀(x:Int),Ad A43 x=Ad A60 x)/\(A5=true->FM (G (T A11)) A25 =
 t.snd.2.1)/\(A5=true->SV.agg [I A54.w,I A54.h]=SV.agg [I t.snd.2.2.w,I t.snd.2.2.h])/\(A5=true->Cs t.1/\A34<=t.snd.2.1/\t.snd.2.1<=Bw t.1.n)/\(A41=true->Ac .i64 (A11+A57)/\∃(g':Nat×(Nat->Int)),let A48:=(Dt w s i A sum G st g'.1);A11+A57=(↑g'.1:Int)/\A30=A30/\A31=A31/\i=i/\sum=sum/\nat_lit 0 =
 nat_lit 0/\nat_lit 0=nat_lit 0/\SV.ref A3 A16=SV.ref A3 A16/\nat_lit 0=nat_lit 0/\SV.ref A4 A16=SV.ref A4 A16/\nat_lit 0=nat_lit 0/\nat_lit 0=nat_lit 0/\nat_lit 0=nat_lit 0/\A10.fd=A48.fd/\A10.ls=A48.ls/\(A27.n=(B5 A48.bt).n/\∀(i_1:Nat),i_1<A27.n -> [I (A27.g i_1)]= [I ((B5 A48.bt).g i_1)])/\(w.n=w.n/\∀(i:Nat),i<w.n -> [I
 (BO A g.2 i)]= [I (BO A g'.2 i)])/\EV.cl A40 A1=EV.cl A40 A1/\s.n=s.n/\Ab A13 s.n=Ab A13 s.n/\A2/\A38.grain=A38.grain/\Ab A13 s.n=Ab A13 s.n/\A20/\Ab A15 s.n=Ab A15 s.n/\A2/\A37.grain=A37.grain/\Ab A15 s.n=Ab A15 s.n/\A21/\Ab A12 s.n=Ab A12 s.n/\A2/\A39.grain=A39.grain/\Ab A12 s.n=Ab A12 s.n /\
 A22/\Ab A17 s.n=Ab A17 s.n/\A2/\A36.grain=A36.grain/\Ab A17 s.n=Ab A17 s.n/\A23/\A24/\g'.1<=s.n/\s.n-g'.1<s.n-g.1)/\(A41=false->(A47/\T A11<s.n/\(decide (G (T A11)=A34)=true->A47/\A47/\Ac .i64 (A54.w*A54.h)/\∃(g_1:Nat),A54.w*A54.h=Ds s G g_1/\A11=A11/\A11=A11/\A30=A30/\A31=A31/\i=i
 /\ sum=sum/\nat_lit 0=nat_lit 0/\nat_lit 0=nat_lit 0/\SV.ref A3 A16=SV.ref A3 A16/\nat_lit 0=nat_lit 0/\SV.ref A4 A16=SV.ref A4 A16/\nat_lit 0=nat_lit 0/\nat_lit 0=nat_lit 0/\nat_lit 0=nat_lit 0/\A10.fd=A10.fd/\A10.ls=A10.ls/\A52/\A53/\EV.cl A40 A1=EV.cl A40 A1/\s.n=s.n/\Ab A13 s.n=Ab A13 s.n/\A2/\A38.grain =
 A38.grain/\Ab A13 s.n=Ab A13 s.n/\A20/\Ab A15 s.n=Ab A15 s.n/\A2/\A37.grain=A37.grain/\Ab A15 s.n=Ab A15 s.n/\A21/\Ab A12 s.n=Ab A12 s.n/\A2/\A39.grain=A39.grain/\Ab A12 s.n=Ab A12 s.n/\A22/\Ab A17 s.n=Ab A17 s.n/\A2/\A36.grain=A36.grain/\Ab A17 s.n=Ab A17 s.n/\A23/\A24/\A11=(↑g_1:Int)/\True) /\
 (decide (G (T A11)=A34)=false->∃(g_1:Nat),A34=Ds s G g_1/\A11=A11/\A11=A11/\A30=A30/\A31=A31/\i=i/\sum=sum/\nat_lit 0=nat_lit 0/\nat_lit 0=nat_lit 0/\SV.ref A3 A16=SV.ref A3 A16/\nat_lit 0=nat_lit 0/\SV.ref A4 A16=SV.ref A4 A16/\nat_lit 0=nat_lit 0/\nat_lit 0=nat_lit 0/\nat_lit 0=nat_lit 0/\A10.fd =
 A10.fd/\A10.ls=A10.ls/\A52/\A53/\EV.cl A40 A1=EV.cl A40 A1/\s.n=s.n/\Ab A13 s.n=Ab A13 s.n/\A2/\A38.grain=A38.grain/\Ab A13 s.n=Ab A13 s.n/\A20/\Ab A15 s.n=Ab A15 s.n/\A2/\A37.grain=A37.grain/\Ab A15 s.n=Ab A15 s.n/\A21/\Ab A12 s.n=Ab A12 s.n/\A2/\A39.grain=A39.grain/\Ab A12 s.n=Ab A12 s.n/\A22
 /\ Ab A17 s.n=Ab A17 s.n/\A2/\A36.grain=A36.grain/\Ab A17 s.n=Ab A17 s.n/\A23/\A24/\A11=(↑g_1:Int)/\True))/\∀(g_1:Nat),A11=(↑g_1:Int)/\True->A47/\T A11<s.n/\A34<=A31/\Ac .i64 A25/\A47/\T A11<s.n/\Ac .i64 (A31+A57)/\Ac .i64 (sum+Ds s G g_1)/\(A61/\∃(t:L.Sq Ah×L.Sq Az ×
 Nat×List Int×(Nat->Int)×Int×(Nat->Int)×BT),let A78:=(t.2.1.g A17);let A102:=(An t.1 A78.grain);let A77:=(t.2.1.g A12);let A101:=(An t.1 A77.grain);let A76:=(t.2.1.g A15);let A100:=(An t.1 A76.grain);let A75:=(t.2.1.g A13);let A99:=(An t.1 A75.grain);let A63:=(A34<=A11/\A11<(↑t.2.1.n:Int));let A62:=(B5
 t.snd.snd.snd.snd.snd.2.2.bt);let A32:=(SV.ref [SV.sl (nat_lit 5) t.2.1.n fun(i:Nat)=>let A66:=(t.2.1.g i);[I A66.id,I A66.colour,I A66.w,I A66.h,I A66.grain]] A16);let A28:=(SV.ref [SV.sl A59 t.1.n fun(i:Nat)=>let A71:=(t.1.g i);[I A71.id,I A71.colour,I A71.grain,SV.sl A12 A71.ol.n fun(i1:Nat)=>[I (A71.ol.g i1).x,I (A71.ol.g i1).y]]]
 A16);let A18:=(D2 t.1 t.2.1 t.snd.2.1 t.snd.snd.2.1 t.snd.snd.snd.snd.2.1 t.snd.snd.snd.snd.snd.2.1 t.snd.snd.snd.snd.snd.2.2);let A97:=(B5 A18.bt);let A8:=(w.n=t.1.n/\∀(i:Nat),let A72:=(t.1.g i);i<w.n -> [I (w.g i).id,I (w.g i).colour,I (w.g i).grain,SV.sl A12 (w.g i).ol.n fun(i1:Nat)=>[I ((w.g i).ol.g i1).x,I ((w.g i).ol.g i1).y]]= [I A72.id,I
 A72.colour,I A72.grain,SV.sl A12 A72.ol.n fun(i1:Nat)=>[I (A72.ol.g i1).x,I (A72.ol.g i1).y]]);let A6:=(t.1.n=w.n/\∀(i:Nat),let A73:=(t.1.g i);i<t.1.n -> [I A73.id,I A73.colour,I A73.grain,SV.sl A12 A73.ol.n fun(i1:Nat)=>[I (A73.ol.g i1).x,I (A73.ol.g i1).y]]= [I (w.g i).id,I (w.g i).colour,I (w.g i).grain,SV.sl A12 (w.g i).ol.n fun(i1:Nat)=>
 [I ((w.g i).ol.g i1).x,I ((w.g i).ol.g i1).y]]);A31+A57=(↑t.snd.2.1:Int)/\i+nat_lit 1=t.snd.2.1/\sum+Ds s G g_1=t.snd.snd.snd.snd.2.1/\nat_lit 0=A13/\nat_lit 0=A13/\SV.ref A3 A16=SV.ref [SV.sl A90 t.1.n fun(i:Nat)=>let A74:=(t.1.g i);[I A74.id,I A74.colour,I A74.grain,SV.sl A12 A74.ol.n fun(i1:Nat)=>[I (A74.ol.g i1).x,I (A74.ol.g
 i1).y]]] A13/\nat_lit 0=A13/\SV.ref A4 A16=SV.ref [SV.sl (5:Nat) t.2.1.n fun(i:Nat)=>let A67:=(t.2.1.g i);[I A67.id,I A67.colour,I A67.w,I A67.h,I A67.grain]] A13/\nat_lit 0=A13/\nat_lit 0=A13/\nat_lit 0=A13/\A10.fd=t.snd.snd.snd.snd.snd.2.2.fd/\A10.ls=t.snd.snd.snd.snd.snd.2.2.ls/\(A27.n=A62.n/\∀(i_1:Nat),i_1<A27.n -> [I (A27.g i_1)] =
 [I (A62.g i_1)])/\EV.cl A40 A1=EV.cl A88 [EV.loc A91 A16,EV.loc A92 A16,EV.p A28,EV.loc A93 A16,EV.p A32,EV.loc A94 A16,EV.loc A95 A16,EV.loc A96 A16]/\s.n=t.2.1.n/\Ab A13 s.n=Ab A13 t.2.1.n/\A8/\A38.grain=A75.grain/\Ab A13 s.n=Ab A13 t.2.1.n/\(∀(x:Int),Ad A45 x=Ad A99 x)/\Ab A15
 s.n=Ab A15 t.2.1.n/\A8/\A37.grain=A76.grain/\Ab A15 s.n=Ab A15 t.2.1.n/\(∀(x:Int),Ad A44 x=Ad A100 x)/\Ab A12 s.n=Ab A12 t.2.1.n/\A8/\A39.grain=A77.grain/\Ab A12 s.n=Ab A12 t.2.1.n/\(∀(x:Int),Ad A46 x=Ad A101 x)/\Ab A17 s.n=Ab A17 t.2.1.n/\A8/\A36.grain=A78.grain/\Ab A17 s.n=Ab A17 t.2.1.n/\(∀
 (x:Int),Ad A43 x=Ad A102 x)/\(s.n=t.2.1.n/\∀(i_1:Nat),i_1<s.n->setRow (fun(k:Nat)=>[I (G k)]) (T A11) A16 A79 i_1 = [I (t.snd.snd.snd.snd.snd.2.1 i_1)])/\(w.n=t.1.n/\∀(i_1:Nat),i_1<w.n->(if i<=i_1/\i_1<i+nat_lit 1 then [I A11]else [I (BO A g.2 i_1)])= [I (BO t.snd.snd.2.1 t.snd.snd.snd.2.1 i_1)])/\((Cs t.1/\t.2.1.n<=A90/\(∀(k :
 Nat),k<t.2.1.n->Cq (t.2.1.g k)=true)/\t.snd.2.1<=t.1.n/\Ji t.snd.snd.2.1=t.snd.2.1/\HC t.2.1.n t.snd.2.1 t.snd.snd.snd.snd.snd.2.1/\A34<=t.snd.snd.snd.snd.2.1/\t.snd.snd.snd.snd.2.1<=(↑t.snd.2.1:Int)*(16777216:Int))/\t.1.n-t.snd.2.1<rn)/\∀(u:Nat->Int),True->A63/\T A11<t.2.1.n/\A34<=A31/\Ac .i64 A25/\A63/\T A11<t.2.1.n /\
 Ac .i64 (A11+A57)/\∃(g':Nat×(Nat->Int)),let A49:=(Dt w s i A sum G st g'.1);A11+A57=(↑g'.1:Int)/\A30=A30/\A31=A31/\i=i/\sum=sum/\nat_lit 0=nat_lit 0/\nat_lit 0=nat_lit 0/\SV.ref A3 A16=SV.ref A3 A16/\nat_lit 0=nat_lit 0/\SV.ref A4 A16=SV.ref A4 A16/\nat_lit 0=nat_lit 0/\nat_lit 0=nat_lit 0/\nat_lit 0
 = nat_lit 0/\A18.fd=A49.fd/\A18.ls=A49.ls/\(A97.n=(B5 A49.bt).n/\∀(i_1:Nat),i_1<A97.n -> [I (A97.g i_1)]= [I ((B5 A49.bt).g i_1)])/\(t.1.n=w.n/\∀(i:Nat),i<t.1.n -> [I (BO t.snd.snd.2.1 u i)]= [I (BO A g'.2 i)])/\EV.cl A40 [EV.loc (1000:Nat) A16,EV.loc (1001:Nat) A16,EV.p A28,EV.loc (1002:Nat) A16,EV.p A32,
 EV.loc (1003:Nat) A16,EV.loc (1004:Nat) A16,EV.loc (1005:Nat) A16]=EV.cl A40 A1/\t.2.1.n=s.n/\Ab A13 t.2.1.n=Ab A13 s.n/\A6/\A75.grain=A38.grain/\Ab A13 t.2.1.n=Ab A13 s.n/\(∀(x:Int),Ad A99 x=Ad A45 x)/\Ab A15 t.2.1.n=Ab A15 s.n/\A6/\A76.grain=A37.grain/\Ab A15 t.2.1.n=Ab A15 s.n/\(∀(x:Int),
 Ad A100 x=Ad A44 x)/\Ab A12 t.2.1.n=Ab A12 s.n/\A6/\A77.grain=A39.grain/\Ab A12 t.2.1.n=Ab A12 s.n/\(∀(x:Int),Ad A101 x=Ad A46 x)/\Ab A17 t.2.1.n=Ab A17 s.n/\A6/\A78.grain=A36.grain/\Ab A17 t.2.1.n=Ab A17 s.n/\(∀(x:Int),Ad A102 x=Ad A43 x)/\(t.2.1.n=s.n/\∀(i_1:Nat),i_1<t.2.1.n->setRow (fun
 (k:Nat)=>[I (t.snd.snd.snd.snd.snd.2.1 k)]) (T A11) A16 [I (Dj (t.snd.snd.snd.snd.snd.2.1 (T A11)) A25)] i_1 = [I (G i_1)])/\g'.1<=s.n/\s.n-g'.1<s.n-g.1)/\A61/\∃(t:L.Sq Ah×L.Sq Az×Nat×List Int×(Nat->Int)×Int×(Nat->Int)×BT),let A87:=(t.2.1.g A17);let A106:=(An t.1 A87.grain);let A86:=(t.2.1.g A12);let A105:=(An t.1
 A86.grain);let A85:=(t.2.1.g A15);let A104:=(An t.1 A85.grain);let A84:=(t.2.1.g A13);let A103:=(An t.1 A84.grain);let A65:=(A34<=A11/\A11<(↑t.2.1.n:Int));let A64:=(B5 t.snd.snd.snd.snd.snd.2.2.bt);let A33:=(SV.ref [SV.sl (nat_lit 5) t.2.1.n fun(i:Nat)=>let A68:=(t.2.1.g i);[I A68.id,I A68.colour,I A68.w,I A68.h,I A68.grain]] A16);let
 A29:=(SV.ref [SV.sl A59 t.1.n fun(i:Nat)=>let A80:=(t.1.g i);[I A80.id,I A80.colour,I A80.grain,SV.sl A12 A80.ol.n fun(i1:Nat)=>[I (A80.ol.g i1).x,I (A80.ol.g i1).y]]] A16);let A19:=(D2 t.1 t.2.1 t.snd.2.1 t.snd.snd.2.1 t.snd.snd.snd.snd.2.1 t.snd.snd.snd.snd.snd.2.1 t.snd.snd.snd.snd.snd.2.2);let A98:=(B5 A19.bt);let A9:=(w.n=t.1.n/\∀(i :
 Nat),let A81:=(t.1.g i);i<w.n -> [I (w.g i).id,I (w.g i).colour,I (w.g i).grain,SV.sl A12 (w.g i).ol.n fun(i1:Nat)=>[I ((w.g i).ol.g i1).x,I ((w.g i).ol.g i1).y]]= [I A81.id,I A81.colour,I A81.grain,SV.sl A12 A81.ol.n fun(i1:Nat)=>[I (A81.ol.g i1).x,I (A81.ol.g i1).y]]);let A7:=(t.1.n=w.n/\∀(i:Nat),let A82:=(t.1.g i);i<t.1.n -> [I A82.id,I
 A82.colour,I A82.grain,SV.sl A12 A82.ol.n fun(i1:Nat)=>[I (A82.ol.g i1).x,I (A82.ol.g i1).y]]= [I (w.g i).id,I (w.g i).colour,I (w.g i).grain,SV.sl A12 (w.g i).ol.n fun(i1:Nat)=>[I ((w.g i).ol.g i1).x,I ((w.g i).ol.g i1).y]]);A31+A57=(↑t.snd.2.1:Int)/\i+nat_lit 1=t.snd.2.1/\sum+Ds s G g_1=t.snd.snd.snd.snd.2.1/\nat_lit 0=A13/\nat_lit 0=A13 /\
 SV.ref A3 A16=SV.ref [SV.sl A90 t.1.n fun(i:Nat)=>let A83:=(t.1.g i);[I A83.id,I A83.colour,I A83.grain,SV.sl A12 A83.ol.n fun(i1:Nat)=>[I (A83.ol.g i1).x,I (A83.ol.g i1).y]]] A13/\nat_lit 0=A13/\SV.ref A4 A16=SV.ref [SV.sl (5:Nat) t.2.1.n fun(i:Nat)=>let A69:=(t.2.1.g i);[I A69.id,I A69.colour,I A69.w,I A69.h,I
 A69.grain]] A13/\nat_lit 0=A13/\nat_lit 0=A13/\nat_lit 0=A13/\A10.fd=t.snd.snd.snd.snd.snd.2.2.fd/\A10.ls=t.snd.snd.snd.snd.snd.2.2.ls/\(A27.n=A64.n/\∀(i_1:Nat),i_1<A27.n -> [I (A27.g i_1)]= [I (A64.g i_1)])/\EV.cl A40 A1=EV.cl A88 [EV.loc A91 A16,EV.loc A92 A16,EV.p A29,EV.loc A93 A16,EV.p A33,EV.loc A94 A16,
 EV.loc A95 A16,EV.loc A96 A16]/\s.n=t.2.1.n/\Ab A13 s.n=Ab A13 t.2.1.n/\A9/\A38.grain=A84.grain/\Ab A13 s.n=Ab A13 t.2.1.n/\(∀(x:Int),Ad A45 x=Ad A103 x)/\Ab A15 s.n=Ab A15 t.2.1.n/\A9/\A37.grain=A85.grain/\Ab A15 s.n=Ab A15 t.2.1.n/\(∀(x:Int),Ad A44 x=Ad A104 x)/\Ab A12 s.n=Ab A12 t.2.1.n
 /\ A9/\A39.grain=A86.grain/\Ab A12 s.n=Ab A12 t.2.1.n/\(∀(x:Int),Ad A46 x=Ad A105 x)/\Ab A17 s.n=Ab A17 t.2.1.n/\A9/\A36.grain=A87.grain/\Ab A17 s.n=Ab A17 t.2.1.n/\(∀(x:Int),Ad A43 x=Ad A106 x)/\(s.n=t.2.1.n/\∀(i_1:Nat),i_1<s.n->setRow (fun(k:Nat)=>[I (G k)]) (T A11) A16 A79 i_1 = [I
 (t.snd.snd.snd.snd.snd.2.1 i_1)])/\(w.n=t.1.n/\∀(i_1:Nat),i_1<w.n->(if i<=i_1/\i_1<i+nat_lit 1 then [I A11]else [I (BO A g.2 i_1)])= [I (BO t.snd.snd.2.1 t.snd.snd.snd.2.1 i_1)])/\((Cs t.1/\t.2.1.n<=A90/\(∀(k:Nat),k<t.2.1.n->Cq (t.2.1.g k)=true)/\t.snd.2.1<=t.1.n/\Ji t.snd.snd.2.1=t.snd.2.1/\HC t.2.1.n t.snd.2.1
 t.snd.snd.snd.snd.snd.2.1/\A34<=t.snd.snd.snd.snd.2.1/\t.snd.snd.snd.snd.2.1<=(↑t.snd.2.1:Int)*(16777216:Int))/\t.1.n-t.snd.2.1<rn)/\∀(u:Nat->Int),True->A65/\T A11<t.2.1.n/\A34<=A31/\Ac .i64 A25/\A65/\T A11<t.2.1.n/\Ac .i64 (A11+A57)/\∃(g':Nat×(Nat->Int)),let A50:=(Dt w s i A sum G st g'.1);A11+A57=(↑g'.1 :
 Int)/\A30=A30/\A31=A31/\i=i/\sum=sum/\nat_lit 0=nat_lit 0/\nat_lit 0=nat_lit 0/\SV.ref A3 A16=SV.ref A3 A16/\nat_lit 0=nat_lit 0/\SV.ref A4 A16=SV.ref A4 A16/\nat_lit 0=nat_lit 0/\nat_lit 0=nat_lit 0/\nat_lit 0=nat_lit 0/\A19.fd=A50.fd/\A19.ls=A50.ls/\(A98.n=(B5 A50.bt).n/\∀(i_1:Nat),i_1<A98.n -> [I (A98.g i_1)]= [I
 ((B5 A50.bt).g i_1)])/\(t.1.n=w.n/\∀(i:Nat),i<t.1.n -> [I (BO t.snd.snd.2.1 u i)]= [I (BO A g'.2 i)])/\EV.cl A40 [EV.loc (1000:Nat) A16,EV.loc (1001:Nat) A16,EV.p A29,EV.loc (1002:Nat) A16,EV.p A33,EV.loc (1003:Nat) A16,EV.loc (1004:Nat) A16,EV.loc (1005:Nat) A16]=EV.cl A40 A1/\t.2.1.n=s.n /\
 Ab A13 t.2.1.n=Ab A13 s.n/\A7/\A84.grain=A38.grain/\Ab A13 t.2.1.n=Ab A13 s.n/\(∀(x:Int),Ad A103 x=Ad A45 x)/\Ab A15 t.2.1.n=Ab A15 s.n/\A7/\A85.grain=A37.grain/\Ab A15 t.2.1.n=Ab A15 s.n/\(∀(x:Int),Ad A104 x=Ad A44 x)/\Ab A12 t.2.1.n=Ab A12 s.n/\A7/\A86.grain=A39.grain/\Ab A12 t.2.1.n=Ab A12
 s.n/\(∀(x:Int),Ad A105 x=Ad A46 x)/\Ab A17 t.2.1.n=Ab A17 s.n/\A7/\A87.grain=A36.grain/\Ab A17 t.2.1.n=Ab A17 s.n/\(∀(x:Int),Ad A106 x=Ad A43 x)/\(t.2.1.n=s.n/\∀(i_1:Nat),i_1<t.2.1.n->setRow (fun(k:Nat)=>[I (t.snd.snd.snd.snd.snd.2.1 k)]) (T A11) A16 [I (Dj (t.snd.snd.snd.snd.snd.2.1 (T A11)) A25)] i_1 = [I
 (G i_1)])/\g'.1<=s.n/\s.n-g'.1<s.n-g.1))/\(decide (A11<A30)=false->∃(u:Nat->Int),A10.fd=A26.fd/\A10.ls=A26.ls/\(A27.n=A56.n/\∀(i_1:Nat),i_1<A27.n -> [I (A27.g i_1)]= [I (A56.g i_1)])/\EV.cl A40 A1=EV.cl A88 A1/\s.n=s.n/\Ab A13 s.n=Ab A13 s.n/\A2/\A38.grain=A38.grain/\Ab A13 s.n=Ab A13 s.n/\A20/\Ab
 A15 s.n=Ab A15 s.n/\A2/\A37.grain=A37.grain/\Ab A15 s.n=Ab A15 s.n/\A21/\Ab A12 s.n=Ab A12 s.n/\A2/\A39.grain=A39.grain/\Ab A12 s.n=Ab A12 s.n/\A22/\Ab A17 s.n=Ab A17 s.n/\A2/\A36.grain=A36.grain/\Ab A17 s.n=Ab A17 s.n/\A23/\A24/\(w.n=w.n/\∀(i:Nat),i<w.n -> [I (BO A g.2 i)]= [I (BO A u i)])/\True)))) (by kernel_rfl) (by
  conv=>zeta
  have hp:Cs w/\s.n<=4/\(∀k,k<s.n->Cq (s.g k)=true)/\i<=w.n/\Ji A=i/\HC s.n i G/\0<=sum/\sum<=(i:Int)*16777216:=hp;have hmu:w.n-i<rn+1:=hmu;obtain⟨hok,hs4,hsv,hi,hA,hG,hs0,hs1⟩:=hp;have hA2:A.length=i:=hA;have hw4:=hok.1;have ei:((i:Int)).toNat=i:=Ad3 i;have atA:∀(X:Nat->Int) j,j<i->BO A X j=A.getD j 0:=fun X j hj=>by unfold BO;rw[if_pos (by omega)]
  refine⟨fun h1=>?_,fun h1=>⟨fun h2=>?_,fun h2=>?_⟩⟩
  ·rw[FE]at h1;rw[Ac2 w s A G hi h1];exact⟨X,(by(try dsimp only);(repeat' with_reducible apply And.intro)<;>first|with_reducible rfl|with_reducible exact fun _=>rfl|with_reducible exact fun _ _=>rfl|with_reducible exact trivial|exact rfl|(intro _;exact rfl)|(intro _ _;exact rfl)|exact trivial|(intro _ h_;exact absurd h_ (oE _)))⟩
  ·rw[FE]at h1;have h2:(i:Int)=(w.n:Int):=of_decide_eq_true h2;obtain rfl:i=w.n:=by omega
   rw[Ac3 w s A G h1];have c1:w.n<=1000000:=by omega
   exact⟨Nat.le_refl _,⟨fun _ _=>rfl,c1⟩,fun _ _=>⟨fun _ _=>rfl,X,(by(try dsimp only);(repeat' with_reducible apply And.intro)<;>first|with_reducible rfl|with_reducible exact hA.symm|with_reducible exact fun _=>rfl|with_reducible exact fun _ _=>rfl|with_reducible exact trivial|(intro j hj;exact congrArg (fun x=>[SV.int .i64 x]) (atA X j hj))|exact rfl|(intro _;exact rfl)|(intro _ _;exact rfl)|exact hA.symm|exact trivial|(intro _ h_;exact absurd h_ (oE _)))⟩⟩
  ·rw[FE]at h1;have h2:¬ (i:Int)=(w.n:Int):=of_decide_eq_false h2;have hlt:i<w.n:=by omega
   have hi4:i<4:=by omega
   rw[Ac4 w s A G hlt h1];refine⟨⟨(0,X),(by(try dsimp only);(repeat' with_reducible apply And.intro)<;>first|with_reducible rfl|with_reducible exact Ads _|with_reducible exact congrArg BT.fd (Ky w s i A sum G st).symm|with_reducible exact congrArg BT.ls (Ky w s i A sum G st).symm|with_reducible exact fun _=>rfl|with_reducible exact fun _ _=>rfl|with_reducible exact trivial|(intro j _;exact congrArg (fun x:BT=>[SV.int .i64 ((B5 x.bt).g j)]) (Ky w s i A sum G st).symm)|exact rfl|(intro _;exact rfl)|(intro _ _;exact rfl)|exact Ads _|exact congrArg BT.fd (Ky w s i A sum G st).symm|exact congrArg BT.ls (Ky w s i A sum G st).symm|exact congrArg (fun x:BT=>(B5 x.bt).n) (Ky w s i A sum G st).symm|exact trivial|(intro _ h_;exact absurd h_ (oE _)))⟩,fun g hg=>?_⟩;obtain⟨k,Y⟩:=g;dsimp only at hg ⊢;have ek:((k:Int)).toNat=k:=Ad3 k;rw[ei,ek];refine⟨fun hc=>?_,fun hc=>?_⟩
   ·have hc:(k:Int)<(s.n:Int):=of_decide_eq_true hc;have hk:k<s.n:=by omega
    obtain⟨g0,g1⟩:=hG k hk;obtain⟨wd1,wd2,wd3,wd4⟩:=QW hi4 g0 g1;obtain⟨wa1,wa2⟩:=Ac7 hw4 hlt g0 g1;have c0:0<=(k:Int)/\(k:Int)<(s.n:Int):=⟨AdG _,hc⟩;have ci:0<=(i:Int):=AdG _;have ci2:0<=(i:Int)/\(i:Int)<(w.n:Int):=by omega
    have k1:Ac .i64 (Dc 1 (i:Int)):=jK;have k2:Ac .i64 ((k:Int)+1):=jK;have k3:Ac .i64 ((i:Int)+1):=jK;have kk:k+1<=s.n:=hk;have mm:s.n-(k+1)<s.n-k:=by omega
    have cn:(k:Int)+1=((k+1:Nat):Int):=by omega
    refine⟨c0,ci2,fun _=>c0,fun _=>hk,fun _=>c0,fun _=>hk,fun _=>ci,fun _=>k1,fun _=>c0,fun _=>c0,(w,(s.g k).grain,Jj (G k) i,⟨(s.g k).w,(s.g k).h⟩),fun _=>(by omega),?_,?_,?_,?_,fun _=>rfl,fun _=>rfl,fun _=>⟨hok,wa1,wa2⟩,fun h=>?_,fun h=>?_⟩
    ·intro _ e;subst e;exact⟨decide_eq_true hk,decide_eq_true hk,rfl,fun _=>rfl⟩
    ·intro _ e;subst e;exact⟨decide_eq_true hk,decide_eq_true hk,rfl,fun _=>rfl⟩
    ·intro _ e;subst e;exact⟨decide_eq_true hk,decide_eq_true hk,rfl,fun _=>rfl⟩
    ·intro _ e;subst e;exact⟨decide_eq_true hk,decide_eq_true hk,rfl,fun _=>rfl⟩
    ·have h:Hh w s G i k=true:=h;have e2:Dt w s i A sum G st k=Dt w s i A sum G st (k+1):=by rw[eQ,h];rfl
     exact⟨k2,(k+1,Y),(by(try dsimp only);(repeat' with_reducible apply And.intro)<;>first|with_reducible rfl|with_reducible assumption|with_reducible exact congrArg BT.fd e2|with_reducible exact congrArg BT.ls e2|with_reducible exact fun _=>rfl|with_reducible exact fun _ _=>rfl|with_reducible exact trivial|(intro j _;exact congrArg (fun x:BT=>[SV.int .i64 ((B5 x.bt).g j)]) e2)|exact rfl|(intro _;exact rfl)|(intro _ _;exact rfl)|exact cn|exact kk|exact mm|exact congrArg BT.fd e2|exact congrArg BT.ls e2|exact congrArg (fun x:BT=>(B5 x.bt).n) e2|exact trivial|(intro _ h_;exact absurd h_ (oE _)))⟩
    ·have h:Hh w s G i k=false:=h;have e3:D2 w s (i+1) (Ea A k) (sum+Ds s G k) (E2 G k i) (Dt w s i A sum G st k)=Dt w s i A sum G st (k+1):=by rw[eQ,h];rfl
     obtain⟨v1,v2,v3,v4⟩:=Ac6 (hsv k hk);have ar0:0<=(s.g k).w*(s.g k).h:=Int.mul_nonneg (by omega) (by omega);have ar1:(s.g k).w*(s.g k).h<=4096*4096:=Int.mul_le_mul (by omega) (by omega) (by omega) (by omega);have k4:Ac .i64 ((s.g k).w*(s.g k).h):=jK;have am:0<=Ds s G k/\Ds s G k<=16777216:=by
      unfold Ds;cases decide (G k=0)<;>simp only[cond_true,cond_false]<;>omega
     refine⟨⟨c0,hk,fun hz=>?_,fun hz=>?_⟩,fun k2' hk2=>?_⟩
     ·have em:(s.g k).w*(s.g k).h=Ds s G k:=by unfold Ds;rw[hz];rfl
      exact⟨c0,c0,k4,k,(by(try dsimp only);(repeat' with_reducible apply And.intro)<;>first|with_reducible rfl|with_reducible assumption|with_reducible exact fun _=>rfl|with_reducible exact fun _ _=>rfl|with_reducible exact trivial|exact rfl|(intro _;exact rfl)|(intro _ _;exact rfl)|exact em|exact trivial|(intro _ h_;exact absurd h_ (oE _)))⟩
     ·have em:0=Ds s G k:=by unfold Ds;rw[hz];rfl
      exact⟨k,(by(try dsimp only);(repeat' with_reducible apply And.intro)<;>first|with_reducible rfl|with_reducible assumption|with_reducible exact fun _=>rfl|with_reducible exact fun _ _=>rfl|with_reducible exact trivial|exact rfl|(intro _;exact rfl)|(intro _ _;exact rfl)|exact em|exact trivial|(intro _ h_;exact absurd h_ (oE _)))⟩
     ·obtain rfl:k2'=k:=by have:=hk2.1;omega
      have k5:Ac .i64 (sum+Ds s G k2'):=jK;have i1:i+1<=w.n:=hlt;have l1:Ji (Ea A k2')=i+1:=by show(A ++ [(k2':Int)]).length=i+1;simp[hA2]
      have hG1:=Ac8 hi4 hG hk;have s0:0<=sum+Ds s G k2':=by omega
      have s1:sum+Ds s G k2'<=((i+1:Nat):Int)*16777216:=by push_cast;omega
      have m1:w.n-(i+1)<rn:=by omega
      have p0:0<1:=Nat.one_pos;have row1:∀j,j<s.n->setRow (fun k=>[SV.int .i64 (G k)]) k2' 0 [SV.int .i64 (FM (G k2') (Dc 1 (i:Int)))] j = [SV.int .i64 (E2 G k2' i j)]:=fun j _=>by
       unfold setRow E2
       by_cases e:j=k2'
       ·rw[if_pos e,if_pos e];rfl
       ·rw[if_neg e,if_neg e]
      have row2:∀j,j<s.n->setRow (fun k=>[SV.int .i64 (E2 G k2' i k)]) k2' 0 [SV.int .i64 (Dj (E2 G k2' i k2') (Dc 1 (i:Int)))] j = [SV.int .i64 (G j)]:=fun j _=>by
       unfold setRow
       by_cases e:j=k2'
       ·subst e;rw[if_pos rfl];have:E2 G j i j=G j+2 ^ i:=by unfold E2;rw[if_pos rfl];exact wd1
        rw[this,wd2];rfl
       ·rw[if_neg e];have:E2 G k2' i j=G j:=by unfold E2;rw[if_neg e]
        dsimp only;rw[this]
      have getS:∀j,j<i->(Ea A k2').getD j 0=A.getD j 0:=fun j hj=>by
       unfold Ea;rw[AS,AS,List.getElem?_append_left (by omega)]
      have len2:(Ea A k2').length=i+1:=l1;have at1:∀j,j<w.n->(if i<=j/\j<i+1 then [SV.int .i64 (k2':Int)]else [SV.int .i64 (BO A Y j)])= [SV.int .i64 (BO (Ea A k2') Y j)]:=fun j _=>by
       by_cases e:j<i
       ·rw[if_neg (by omega),atA Y j e];unfold BO;rw[if_pos (by omega),getS j e]
       ·by_cases e2:j=i
        ·subst e2;rw[if_pos (by omega)];unfold BO;rw[if_pos (by omega)];have:(Ea A k2').getD j 0=(k2':Int):=by
          unfold Ea;rw[AS,List.getElem?_append_right (by omega),show j-A.length=0 by omega];rfl
         rw[this]
        ·rw[if_neg (by omega)];unfold BO;rw[if_neg (by omega),if_neg (by omega)]
      have at2:∀(u:Nat->Int) j,j<w.n -> [SV.int .i64 (BO (Ea A k2') u j)]= [SV.int .i64 (BO A (fun j=>BO (Ea A k2') u j) j)]:=fun u j _=>by
       by_cases e:j<i
       ·rw[atA _ j e];unfold BO;rw[if_pos (by omega),getS j e]
       ·conv=>rhs;unfold BO
        rw[if_neg (by omega)];unfold BO;rfl
      repeat' with_reducible apply And.intro
      all_goals first|exact c0.1|exact c0.2|exact hk|exact ci|exact k1|exact k3|exact k5|exact p0|exact i1|exact⟨(w,s,i+1,Ea A k2',Y,sum+Ds s G k2',E2 G k2' i,Dt w s i A sum G st k2'),(by(try dsimp only);(repeat' with_reducible apply And.intro)<;>first|with_reducible rfl|with_reducible assumption|with_reducible exact fun _=>rfl|with_reducible exact fun _ _=>rfl|with_reducible exact trivial|(intro u _;exact⟨c0,hk,ci,k1,c0,hk,k2,(k2'+1,fun j=>BO (Ea A k2') u j),(by(try dsimp only);(repeat' with_reducible apply And.intro)<;>first|with_reducible rfl|with_reducible assumption|with_reducible exact at2 u|with_reducible exact congrArg BT.fd e3|with_reducible exact congrArg BT.ls e3|with_reducible exact fun _=>rfl|with_reducible exact fun _ _=>rfl|with_reducible exact trivial|(intro j _;exact congrArg (fun x:BT=>[SV.int .i64 ((B5 x.bt).g j)]) e3)|exact rfl|(intro _;exact rfl)|(intro _ _;exact rfl)|exact cn|exact kk|exact mm|exact row2|exact at2 u|exact congrArg BT.fd e3|exact congrArg BT.ls e3|exact congrArg (fun x:BT=>(B5 x.bt).n) e3|exact trivial|(intro _ h_;exact absurd h_ (oE _)))⟩)|exact rfl|(intro _;exact rfl)|(intro _ _;exact rfl)|exact hok|exact hs4|exact hsv|exact i1|exact l1|exact hG1|exact s0|exact s1|exact m1|exact row1|exact at1|exact trivial|(intro _ h_;exact absurd h_ (oE _)))⟩
   ·have hc:¬ (k:Int)<(s.n:Int):=of_decide_eq_false hc;obtain rfl:k=s.n:=by omega
    exact⟨Y,(by(try dsimp only);(repeat' with_reducible apply And.intro)<;>first|with_reducible rfl|with_reducible exact fun _=>rfl|with_reducible exact fun _ _=>rfl|with_reducible exact trivial|exact rfl|(intro _;exact rfl)|(intro _ _;exact rfl)|exact trivial|(intro _ h_;exact absurd h_ (oE _)))⟩)
theorem fG:Ao Tryz.prog 97:=fun args w=>by kernel_rfl
theorem AcG:Du Tryz.prog 97 Iu:=MZ fF ⟨fun t=>rfl,fun t u=>rfl,fun t u=>rfl,fun t u=>⟨rfl,rfl,rfl⟩,.inl rfl,fun k h=>(by cases h)⟩ (fun rn ih=>Gf (n:=11) Tryz.func97 (c:=Af Tryz.f97) (by kernel_rfl) mixed ⟨fun t=>rfl,fun t=>rfl,fun t u=>rfl,fun t u=>rfl,fun t u=>rfl,fun t u=>⟨rfl,rfl⟩,by kernel_rfl,by kernel_rfl⟩ (fun⟨w,s,i,A,X,sum,G,st⟩ hp=>⟨_,AcF rn w s i A X sum G st hp.1 hp.2,⟨show Aa Tryz.prog _ from(Aa.cons AcB AcC Aa.nil),rfl,⟨show Ae Tryz.prog _ from Ae.nil,⟨AC.no1 (fun _=>rfl),⟨show By Tryz.prog _ from(By.cons ih fG By.nil),show Ib Tryz.prog _ from(Ib.cons AcD AcE Ib.nil)⟩⟩⟩⟩⟩))
end
def QX:BT:=⟨false,0,[]⟩
theorem Iv (j g:Nat):(Ab j g||decide (g=j))=Ab j (g+1):=by
 unfold Ab
 by_cases h1:j<g
 ·rw[decide_eq_true h1,decide_eq_true (show j<g+1 by omega)];rfl
 ·by_cases h2:g=j
  ·rw[decide_eq_true h2,decide_eq_true (show j<g+1 by omega),Bool.or_true]
  ·rw[decide_eq_false h1,decide_eq_false h2,decide_eq_false (show ¬ j<g+1 by omega)];rfl
theorem fH (j:Nat):Ab j j=false:=decide_eq_false (Nat.lt_irrefl j)
theorem fI (j:Nat):false=Ab j 0:=(decide_eq_false (oE j)).symm
def Ct (w:L.Sq Ah) (s:L.Sq Az):BT:=D2 w s 0 [] 0 (fun _=>0) QX
section
attribute [local irreducible] Dt D2 EZ D0 An BU Bw Aq Dj FM Dc Ab
abbrev Kz:Mk:={ T:=(L.Sq Ah)×(L.Sq Az),U:=Nat,args:=fun t=>(fun w s=>[.p ((.sl 4 w.n (fun i=>[.int .i64 ((w.g i).id),.int .i64 ((w.g i).colour),.int .i64 ((w.g i).grain),.sl 2 (w.g i).ol.n (fun i1=>[.int .i64 (((w.g i).ol.g i1).x),.int .i64 (((w.g i).ol.g i1).y)])]))),.p ((.sl 5 s.n (fun i=>[.int .i64 ((s.g i).id),.int .i64 ((s.g i).colour),.int .i64 ((s.g i).w),.int .i64 ((s.g i).h),.int .i64 ((s.g i).grain)])))]) t.1 t.2,lkeys:=[],keys:=[],lent:=fun t=>(fun w s=>[]) t.1 t.2,pre:=fun t=>(fun w s=>Cs w/\s.n<=4/\(∀k,k<s.n->Cq (s.g k)=true)) t.1 t.2,post:=fun t u=>(fun w s=>fun uu=>True) t.1 t.2 u,lent':=fun t u=>(fun w s=>fun uu=>[]) t.1 t.2 u,own:=fun t u=>(fun w s=>fun uu=>[]) t.1 t.2 u,res:=fun t u=>(fun w s=>fun uu=>.p (.tup [.sl 1 (B5 (Ct w s).bt).n (fun i=>[.int .i64 ((B5 (Ct w s).bt).g i)]),.int .i64 (Ct w s).ls,.bool (Ct w s).fd])) t.1 t.2 u }
theorem AcH (w:L.Sq Ah) (s:L.Sq Az) (hp:Kz.pre (w,s)):vc Tryz.prog ({ muts:=[7,8,9,10,12,13,16,35,40],frz:=BH [],specs:=AF [],loops:=AY [(5,{ T:=Nat,keep:=[2,3,7,8,9,10,18],keepO:=[7,8,9,10,16],chg:=fun k=>[(19,.p (.int .i64 (k:Int)))],own:=fun k=>[(17,.oblk (Ab 0 (k)) 172 [.p ((.sl 4 w.n (fun i=>[.int .i64 ((w.g i).id),.int .i64 ((w.g i).colour),.int .i64 ((w.g i).grain),.sl 2 (w.g i).ol.n (fun i1=>[.int .i64 (((w.g i).ol.g i1).x),.int .i64 (((w.g i).ol.g i1).y)])]))),.p (.int .i64 (s.g 0).grain),.mapv 18]),(18,.omq (Ab 0 (k)) 3 64 (Ad (An w (s.g 0).grain))),(20,.oblk (Ab 1 (k)) 172 [.p ((.sl 4 w.n (fun i=>[.int .i64 ((w.g i).id),.int .i64 ((w.g i).colour),.int .i64 ((w.g i).grain),.sl 2 (w.g i).ol.n (fun i1=>[.int .i64 (((w.g i).ol.g i1).x),.int .i64 (((w.g i).ol.g i1).y)])]))),.p (.int .i64 (s.g 1).grain),.mapv 21]),(21,.omq (Ab 1 (k)) 3 64 (Ad (An w (s.g 1).grain))),(23,.oblk (Ab 2 (k)) 172 [.p ((.sl 4 w.n (fun i=>[.int .i64 ((w.g i).id),.int .i64 ((w.g i).colour),.int .i64 ((w.g i).grain),.sl 2 (w.g i).ol.n (fun i1=>[.int .i64 (((w.g i).ol.g i1).x),.int .i64 (((w.g i).ol.g i1).y)])]))),.p (.int .i64 (s.g 2).grain),.mapv 24]),(24,.omq (Ab 2 (k)) 3 64 (Ad (An w (s.g 2).grain))),(25,.oblk (Ab 3 (k)) 172 [.p ((.sl 4 w.n (fun i=>[.int .i64 ((w.g i).id),.int .i64 ((w.g i).colour),.int .i64 ((w.g i).grain),.sl 2 (w.g i).ol.n (fun i1=>[.int .i64 (((w.g i).ol.g i1).x),.int .i64 (((w.g i).ol.g i1).y)])]))),.p (.int .i64 (s.g 3).grain),.mapv 26]),(26,.omq (Ab 3 (k)) 3 64 (Ad (An w (s.g 3).grain)))],inv:=fun k=>k<=s.n,mu:=fun k=>s.n-k })],iters:=B6 [],rfs:=AU [],nils:=BD [],mks:=EA [(65,H7),(97,Iu)],ren:=fun k=>if k=9 then 27 else if k=7 then 28 else if k=1000 then 9 else if k=1001 then 8 else if k=1002 then 7 else if k=1003 then 10 else if k=1004 then 12 else if k=1005 then 13 else if k=1010 then 16 else if k=1011 then 35 else if k=1012 then 40 else if k=1020 then 17 else if k=1021 then 18 else if k=1022 then 20 else if k=1023 then 21 else if k=1024 then 23 else if k=1025 then 24 else if k=1026 then 25 else if k=1027 then 26 else k,anys:=[1007,1012],pres:=[40],prows:=Tw [(16,{ bs:=[17,18,20,21,23,24,25,26],t:=172,kt:=3,vt:=64,head:=fun j=>[(.sl 4 w.n (fun i=>[.int .i64 ((w.g i).id),.int .i64 ((w.g i).colour),.int .i64 ((w.g i).grain),.sl 2 (w.g i).ol.n (fun i1=>[.int .i64 (((w.g i).ol.g i1).x),.int .i64 (((w.g i).ol.g i1).y)])])),.int .i64 (s.g j).grain],val:=fun j=>Ad (An w (s.g j).grain) })] }) (Af Tryz.f54) (D3 Tryz.f54 (Kz.args (w,s)) (Kz.lent (w,s))) (FD Tryz.prog Tryz.f54 Kz (w,s)):=
  @Eq.mpr _ (let I:=SV.int .i64;let T:=Ad6;let A59:=(4:Nat);let A58:=(1:Int);let A57:=(140737488355328:Int);let A34:=(↑w.n:Int);let A31:=(Ct w s);let A39:=(B5 A31.bt);let A23:=(0:Int);let A28:=(A23<=A23/\A23<=A34/\A34*(↑(nat_lit 8):Int)<=A57);let A16:=(3:Nat);let A32:=(s.g A16);let A20:=(An w A32.grain);let A37:=(∀
 (x:Int),Ad A20 x=Ad A20 x);let A15:=(↑s.n:Int);let A30:=(A23<=A15/\A15<=A15/\A15*(↑(nat_lit 8):Int)<=A57);let A13:=(nat_lit 0);let A12:=(2:Nat);let A33:=(s.g A12);let A19:=(An w A33.grain);let A36:=(∀(x:Int),Ad A19 x=Ad A19 x);let A9:=(1:Nat);let A22:=(An w (s.g A9).grain);let A35:=(∀(x:Int),Ad A22 x=Ad
 A22 x);let A8:=(0:Nat);let A54:=(s.g (A8+A9+A9+A9));let A18:=(An w (s.g A8).grain);let A29:=(∀(x:Int),Ad A18 x=Ad A18 x);let A7:=[SV.sl (nat_lit 5) s.n fun(i:Nat)=>[I (s.g i).id,I (s.g i).colour,I (s.g i).w,I (s.g i).h,I (s.g i).grain]];let A2:=[SV.sl (nat_lit 4) w.n fun(i:Nat)=>[I (w.g i).id,I (w.g i).colour,I (w.g i).grain,
 SV.sl A12 (w.g i).ol.n fun(i1:Nat)=>[I ((w.g i).ol.g i1).x,I ((w.g i).ol.g i1).y]]];let A17:=[EV.loc (nat_lit 9) A13,EV.loc (nat_lit 8) A13,EV.p (SV.ref A2 A13),EV.loc (nat_lit 7) A13,EV.p (SV.ref A7 A13),EV.loc (nat_lit 10) A13,EV.loc (nat_lit 12) A13,EV.loc (nat_lit 13) A13];let A1:=(w.n=w.n/\∀(i:Nat),let
 A26:=[I (w.g i).id,I (w.g i).colour,I (w.g i).grain,SV.sl A12 (w.g i).ol.n fun(i1:Nat)=>[I ((w.g i).ol.g i1).x,I ((w.g i).ol.g i1).y]];i<w.n->A26=A26);A30/\A12*T A15<=A8+A9+A9+A9+A9+A9+A9+A9+A9/\(∃(g:Nat),A23=(↑g:Int)/\false=Ab A8 g/\A1/\(s.g A8).grain=(s.g A8).grain/\false=Ab A8 g/\A29/\false=Ab A9 g/\A1
 /\ (s.g (A8+A9)).grain=(s.g A9).grain/\false=Ab A9 g/\(∀(x:Int),Ad (An w (s.g (A8+A9)).grain) x=Ad A22 x)/\false=Ab A12 g/\A1/\(s.g (A8+A9+A9)).grain=A33.grain/\false=Ab A12 g/\(∀(x:Int),Ad (An w (s.g (A8+A9+A9)).grain) x=Ad A19 x)/\false=Ab A16 g/\A1/\A54.grain=A32.grain/\false =
 Ab A16 g/\(∀(x:Int),Ad (An w A54.grain) x=Ad A20 x)/\g<=s.n)/\∀(g:Nat),let A14:=(↑g:Int);let A38:=(A23<=A14/\A14<(↑(T A15):Int));let A27:=(Ab A8 g||decide (T A14=A8));let A25:=(Ab A9 g||decide (T A14=A8+A9));let A24:=(Ab A12 g||decide (T A14=A8+A9+A9));let A21:=(Ab A16 g ||
 decide (T A14=A8+A9+A9+A9));g<=s.n->(decide (A14<A15)=true->(A23<=A14/\A14<A15)/\(∃(t:L.Sq Ah×Int×(Int->L.Sq Ag)),let A3:=(t.1.n=w.n/\∀(i:Nat),let A44:=(t.1.g i);i<t.1.n -> [I A44.id,I A44.colour,I A44.grain,SV.sl A12 A44.ol.n fun(i1:Nat)=>[I (A44.ol.g i1).x,I (A44.ol.g i1).y]]= [I (w.g i).id,I (w.g
 i).colour,I (w.g i).grain,SV.sl A12 (w.g i).ol.n fun(i1:Nat)=>[I ((w.g i).ol.g i1).x,I ((w.g i).ol.g i1).y]]);(w.n=t.1.n/\∀(i:Nat),let A45:=(t.1.g i);i<w.n -> [I (w.g i).id,I (w.g i).colour,I (w.g i).grain,SV.sl A12 (w.g i).ol.n fun(i1:Nat)=>[I ((w.g i).ol.g i1).x,I ((w.g i).ol.g i1).y]]= [I A45.id,I A45.colour,I A45.grain,SV.sl A12 A45.ol.n fun(i1
:Nat)=>[I (A45.ol.g i1).x,I (A45.ol.g i1).y]])/\(s.g (T A14)).grain=t.2.1/\True/\∀(u:Nat),True->A38/\T A14<T A15/\(T A14=A8->Ab A8 g=false/\Ab A8 g=false/\(∀(x:Int),false=true->Ad t.2.2 x=Ad A18 x)/\A3/\t.2.1=(s.g A8).grain)/\(T A14=A8+A9->Ab A9 g=false/\Ab A9 g=false/\(∀(x:Int),false
 = true->Ad t.2.2 x=Ad A22 x)/\A3/\t.2.1=(s.g A9).grain)/\(T A14=A8+A9+A9->Ab A12 g=false/\Ab A12 g=false/\(∀(x:Int),false=true->Ad t.2.2 x=Ad A19 x)/\A3/\t.2.1=A33.grain)/\(T A14=A8+A9+A9+A9->Ab A16 g=false/\Ab A16 g=false/\(∀(x:Int),false=true->Ad t.2.2 x =
 Ad A20 x)/\A3/\t.2.1=A32.grain)/\Ac .i64 (A14+A58)/\∃(g':Nat),A14+A58=(↑g':Int)/\A15=A15/\nat_lit 0=nat_lit 0/\nat_lit 0=nat_lit 0/\nat_lit 0=nat_lit 0/\nat_lit 0=nat_lit 0/\SV.ref A7 A13=SV.ref A7 A13/\SV.ref A2 A13=SV.ref A2 A13/\A27=Ab A8 g'/\A1/\(s.g A8).grain=(s.g A8).grain/\A27=Ab A8 g' /\
 A29/\A25=Ab A9 g'/\A1/\(s.g A9).grain=(s.g A9).grain/\A25=Ab A9 g'/\A35/\A24=Ab A12 g'/\A1/\A33.grain=A33.grain/\A24=Ab A12 g'/\A36/\A21=Ab A16 g'/\A1/\A32.grain=A32.grain/\A21=Ab A16 g'/\A37/\T A15=T A15/\false=false/\A23=A23/\Value.slice AdB A8 A8=Value.slice AdB A8 A8/\g'<=s.n/\s.n-g'<s.n
 - g)/\∃(t:L.Sq Ah×Int×(Int->L.Sq Ag)),let A4:=(t.1.n=w.n/\∀(i:Nat),let A46:=(t.1.g i);i<t.1.n -> [I A46.id,I A46.colour,I A46.grain,SV.sl A12 A46.ol.n fun(i1:Nat)=>[I (A46.ol.g i1).x,I (A46.ol.g i1).y]]= [I (w.g i).id,I (w.g i).colour,I (w.g i).grain,SV.sl A12 (w.g i).ol.n fun(i1:Nat)=>[I ((w.g i).ol.g i1).x,I ((w.g i).ol.g i1).y]]);(w.n
 = t.1.n/\∀(i:Nat),let A47:=(t.1.g i);i<w.n -> [I (w.g i).id,I (w.g i).colour,I (w.g i).grain,SV.sl A12 (w.g i).ol.n fun(i1:Nat)=>[I ((w.g i).ol.g i1).x,I ((w.g i).ol.g i1).y]]= [I A47.id,I A47.colour,I A47.grain,SV.sl A12 A47.ol.n fun(i1:Nat)=>[I (A47.ol.g i1).x,I (A47.ol.g i1).y]])/\(s.g (T A14)).grain=t.2.1/\True/\∀(u:Nat),True->A38/\T A14<T A15
 /\ (T A14=A8->Ab A8 g=false/\Ab A8 g=false/\(∀(x:Int),false=true->Ad t.2.2 x=Ad A18 x)/\A4/\t.2.1=(s.g A8).grain)/\(T A14=A8+A9->Ab A9 g=false/\Ab A9 g=false/\(∀(x:Int),false=true->Ad t.2.2 x=Ad A22 x)/\A4/\t.2.1=(s.g A9).grain)/\(T A14=A8+A9+A9->Ab A12 g=false /\
 Ab A12 g=false/\(∀(x:Int),false=true->Ad t.2.2 x=Ad A19 x)/\A4/\t.2.1=A33.grain)/\(T A14=A8+A9+A9+A9->Ab A16 g=false/\Ab A16 g=false/\(∀(x:Int),false=true->Ad t.2.2 x=Ad A20 x)/\A4/\t.2.1=A32.grain)/\Ac .i64 (A14+A58)/\∃(g':Nat),A14+A58=(↑g':Int)/\A15=A15 /\
 nat_lit 0=nat_lit 0/\nat_lit 0=nat_lit 0/\nat_lit 0=nat_lit 0/\nat_lit 0=nat_lit 0/\SV.ref A7 A13=SV.ref A7 A13/\SV.ref A2 A13=SV.ref A2 A13/\A27=Ab A8 g'/\A1/\(s.g A8).grain=(s.g A8).grain/\A27=Ab A8 g'/\A29/\A25=Ab A9 g'/\A1/\(s.g A9).grain=(s.g A9).grain/\A25=Ab A9 g'/\A35/\A24=Ab A12 g'/\A1/\A33.grain =
 A33.grain/\A24=Ab A12 g'/\A36/\A21=Ab A16 g'/\A1/\A32.grain=A32.grain/\A21=Ab A16 g'/\A37/\T A15=T A15/\false=false/\A23=A23/\Value.slice AdB A8 A8=Value.slice AdB A8 A8/\g'<=s.n/\s.n-g'<s.n-g)/\(decide (A14<A15)=false->A30/\(A28/\∃(t:L.Sq Ah×L.Sq Az×Nat×List Int×(Nat->Int) ×
 Int×(Nat->Int)×BT),let A10:=(D2 t.1 t.2.1 t.snd.2.1 t.snd.snd.2.1 t.snd.snd.snd.snd.2.1 t.snd.snd.snd.snd.snd.2.1 t.snd.snd.snd.snd.snd.2.2);let A55:=(B5 A10.bt);let A5:=(w.n=t.1.n/\∀(i:Nat),let A48:=(t.1.g i);i<w.n -> [I (w.g i).id,I (w.g i).colour,I (w.g i).grain,SV.sl A12 (w.g i).ol.n fun(i1:Nat)=>[I ((w.g i).ol.g i1).x,I ((w.g i).ol.g i1).y]] =
 [I A48.id,I A48.colour,I A48.grain,SV.sl A12 A48.ol.n fun(i1:Nat)=>[I (A48.ol.g i1).x,I (A48.ol.g i1).y]]);A23=(↑t.snd.2.1:Int)/\nat_lit 0=t.snd.2.1/\A23=t.snd.snd.snd.snd.2.1/\nat_lit 0=A8/\nat_lit 0=A8/\SV.ref A2 A13=SV.ref [SV.sl A59 t.1.n fun(i:Nat)=>let A49:=(t.1.g i);[I A49.id,I A49.colour,I A49.grain,SV.sl A12 A49.ol.n fun
 (i1:Nat)=>[I (A49.ol.g i1).x,I (A49.ol.g i1).y]]] A8/\nat_lit 0=A8/\SV.ref A7 A13=SV.ref [SV.sl (5:Nat) t.2.1.n fun(i:Nat)=>let A40:=(t.2.1.g i);[I A40.id,I A40.colour,I A40.w,I A40.h,I A40.grain]] A8/\nat_lit 0=A8/\nat_lit 0=A8/\nat_lit 0=A8/\false=t.snd.snd.snd.snd.snd.2.2.fd/\A23=t.snd.snd.snd.snd.snd.2.2.ls/\(B5
 t.snd.snd.snd.snd.snd.2.2.bt).n=A8/\EV.cl (nat_lit 97) A17=EV.cl (97:Nat) [EV.loc (9:Nat) A13,EV.loc (8:Nat) A13,EV.p (SV.ref [SV.sl (nat_lit 4) t.1.n fun(i:Nat)=>let A50:=(t.1.g i);[I A50.id,I A50.colour,I A50.grain,SV.sl A12 A50.ol.n fun(i1:Nat)=>[I (A50.ol.g i1).x,I (A50.ol.g i1).y]]] A13),EV.loc (7:Nat) A13,
 EV.p (SV.ref [SV.sl (nat_lit 5) t.2.1.n fun(i:Nat)=>let A41:=(t.2.1.g i);[I A41.id,I A41.colour,I A41.w,I A41.h,I A41.grain]] A13),EV.loc (10:Nat) A13,EV.loc (12:Nat) A13,EV.loc (13:Nat) A13]/\T A15=t.2.1.n/\Ab A8 g=Ab A8 t.2.1.n/\A5/\(s.g A8).grain=(t.2.1.g A8).grain/\Ab A8 g=Ab A8 t.2.1.n/\(∀(x:Int),Ad
 A18 x=Ad (An t.1 (t.2.1.g A8).grain) x)/\Ab A9 g=Ab A9 t.2.1.n/\A5/\(s.g A9).grain=(t.2.1.g A9).grain/\Ab A9 g=Ab A9 t.2.1.n/\(∀(x:Int),Ad A22 x=Ad (An t.1 (t.2.1.g A9).grain) x)/\Ab A12 g=Ab A12 t.2.1.n/\A5/\A33.grain=(t.2.1.g A12).grain/\Ab A12 g=Ab A12 t.2.1.n/\(∀(x:Int),Ad A19 x=Ad (An t.1
 (t.2.1.g A12).grain) x)/\Ab A16 g=Ab A16 t.2.1.n/\A5/\A32.grain=(t.2.1.g A16).grain/\Ab A16 g=Ab A16 t.2.1.n/\(∀(x:Int),Ad A20 x=Ad (An t.1 (t.2.1.g A16).grain) x)/\(T A15=t.2.1.n/\∀(i:Nat),i<T A15 -> [I A23]= [I (t.snd.snd.snd.snd.snd.2.1 i)])/\(T A34=t.1.n/\∀(i:Nat),i<T A34 -> [I A23]= [I (BO t.snd.snd.2.1 t.snd.snd.snd.2.1 i)])
 /\ (Cs t.1/\t.2.1.n<=A59/\(∀(k:Nat),k<t.2.1.n->Cq (t.2.1.g k)=true)/\t.snd.2.1<=t.1.n/\Ji t.snd.snd.2.1=t.snd.2.1/\HC t.2.1.n t.snd.2.1 t.snd.snd.snd.snd.snd.2.1/\A23<=t.snd.snd.snd.snd.2.1/\t.snd.snd.snd.snd.2.1<=(↑t.snd.2.1:Int)*(16777216:Int))/\∀(u:Nat->Int),True->∃(u:Nat),(A55.n=A39.n/\∀(i:Nat),i<A55.n -> [I (A55.g i)]= [I
 (A39.g i)])/\A10.ls=A31.ls/\A10.fd=A31.fd/\True)/\A28/\∃(t:L.Sq Ah×L.Sq Az×Nat×List Int×(Nat->Int)×Int×(Nat->Int)×BT),let A11:=(D2 t.1 t.2.1 t.snd.2.1 t.snd.snd.2.1 t.snd.snd.snd.snd.2.1 t.snd.snd.snd.snd.snd.2.1 t.snd.snd.snd.snd.snd.2.2);let A56:=(B5 A11.bt);let A6:=(w.n=t.1.n/\∀(i:Nat),let A51:=(t.1.g i);i<w.n -> [I (w.g i).id,I
 (w.g i).colour,I (w.g i).grain,SV.sl A12 (w.g i).ol.n fun(i1:Nat)=>[I ((w.g i).ol.g i1).x,I ((w.g i).ol.g i1).y]]= [I A51.id,I A51.colour,I A51.grain,SV.sl A12 A51.ol.n fun(i1:Nat)=>[I (A51.ol.g i1).x,I (A51.ol.g i1).y]]);A23=(↑t.snd.2.1:Int)/\nat_lit 0=t.snd.2.1/\A23=t.snd.snd.snd.snd.2.1/\nat_lit 0=A8/\nat_lit 0=A8/\SV.ref A2 A13=SV.ref
 [SV.sl A59 t.1.n fun(i:Nat)=>let A52:=(t.1.g i);[I A52.id,I A52.colour,I A52.grain,SV.sl A12 A52.ol.n fun(i1:Nat)=>[I (A52.ol.g i1).x,I (A52.ol.g i1).y]]] A8/\nat_lit 0=A8/\SV.ref A7 A13=SV.ref [SV.sl (5:Nat) t.2.1.n fun(i:Nat)=>let A42:=(t.2.1.g i);[I A42.id,I A42.colour,I A42.w,I A42.h,I A42.grain]] A8/\nat_lit 0=A8/\nat_lit 0 =
 A8/\nat_lit 0=A8/\false=t.snd.snd.snd.snd.snd.2.2.fd/\A23=t.snd.snd.snd.snd.snd.2.2.ls/\(B5 t.snd.snd.snd.snd.snd.2.2.bt).n=A8/\EV.cl (nat_lit 97) A17=EV.cl (97:Nat) [EV.loc (9:Nat) A13,EV.loc (8:Nat) A13,EV.p (SV.ref [SV.sl (nat_lit 4) t.1.n fun(i:Nat)=>let A53:=(t.1.g i);[I A53.id,I A53.colour,I A53.grain,
 SV.sl A12 A53.ol.n fun(i1:Nat)=>[I (A53.ol.g i1).x,I (A53.ol.g i1).y]]] A13),EV.loc (7:Nat) A13,EV.p (SV.ref [SV.sl (nat_lit 5) t.2.1.n fun(i:Nat)=>let A43:=(t.2.1.g i);[I A43.id,I A43.colour,I A43.w,I A43.h,I A43.grain]] A13),EV.loc (10:Nat) A13,EV.loc (12:Nat) A13,EV.loc (13:Nat) A13]/\T A15=t.2.1.n/\Ab A8 g =
 Ab A8 t.2.1.n/\A6/\(s.g A8).grain=(t.2.1.g A8).grain/\Ab A8 g=Ab A8 t.2.1.n/\(∀(x:Int),Ad A18 x=Ad (An t.1 (t.2.1.g A8).grain) x)/\Ab A9 g=Ab A9 t.2.1.n/\A6/\(s.g A9).grain=(t.2.1.g A9).grain/\Ab A9 g=Ab A9 t.2.1.n/\(∀(x:Int),Ad A22 x=Ad (An t.1 (t.2.1.g A9).grain) x)/\Ab A12 g=Ab A12 t.2.1.n/\A6 /\
 A33.grain=(t.2.1.g A12).grain/\Ab A12 g=Ab A12 t.2.1.n/\(∀(x:Int),Ad A19 x=Ad (An t.1 (t.2.1.g A12).grain) x)/\Ab A16 g=Ab A16 t.2.1.n/\A6/\A32.grain=(t.2.1.g A16).grain/\Ab A16 g=Ab A16 t.2.1.n/\(∀(x:Int),Ad A20 x=Ad (An t.1 (t.2.1.g A16).grain) x)/\(T A15=t.2.1.n/\∀(i:Nat),i<T A15 -> [I A23]= [I
 (t.snd.snd.snd.snd.snd.2.1 i)])/\(T A34=t.1.n/\∀(i:Nat),i<T A34 -> [I A23]= [I (BO t.snd.snd.2.1 t.snd.snd.snd.2.1 i)])/\(Cs t.1/\t.2.1.n<=A59/\(∀(k:Nat),k<t.2.1.n->Cq (t.2.1.g k)=true)/\t.snd.2.1<=t.1.n/\Ji t.snd.snd.2.1=t.snd.2.1/\HC t.2.1.n t.snd.2.1 t.snd.snd.snd.snd.snd.2.1/\A23<=t.snd.snd.snd.snd.2.1/\t.snd.snd.snd.snd.2.1<=(↑t.snd.2.1
:Int)*(16777216:Int))/\∀(u:Nat->Int),True->∃(u:Nat),(A56.n=A39.n/\∀(i:Nat),i<A56.n -> [I (A56.g i)]= [I (A39.g i)])/\A11.ls=A31.ls/\A11.fd=A31.fd/\True)) (by kernel_rfl) (by
 conv=>zeta
 have hp:Cs w/\s.n<=4/\(∀k,k<s.n->Cq (s.g k)=true):=hp;obtain⟨hok,hs4,hsv⟩:=hp;have hw4:=hok.1;have b1:0<=(s.n:Int):=AdG _;have b2:(s.n:Int)*8<=140737488355328:=by omega
 have b3:0<=(w.n:Int):=AdG _;have b4:(w.n:Int)*8<=140737488355328:=by omega
 have b5:2*s.n<=0+1+1+1+1+1+1+1+1:=by omega
 rw[Ad3 s.n,Ad3 w.n];refine⟨⟨b1,AdQ _,b2⟩,b5,⟨0,(by(try dsimp only);(repeat' with_reducible apply And.intro)<;>first|with_reducible rfl|with_reducible exact Ads _|with_reducible exact fI _|with_reducible exact fun _=>rfl|with_reducible exact fun _ _=>rfl|with_reducible exact trivial|exact rfl|(intro _;exact rfl)|(intro _ _;exact rfl)|exact Ads _|exact fI _|exact trivial|(intro _ h_;exact absurd h_ (oE _)))⟩,fun g hg=>?_⟩;rw[Ad3 g];refine⟨fun hc=>?_,fun hc=>?_⟩
 ·have hc:(g:Int)<(s.n:Int):=of_decide_eq_true hc;have hk:g<s.n:=by omega
  have c0:0<=(g:Int)/\(g:Int)<(s.n:Int):=⟨AdG _,hc⟩;have k2:Ac .i64 ((g:Int)+1):=jK;have kk:g+1<=s.n:=hk;have mm:s.n-(g+1)<s.n-g:=by omega
  have cn:(g:Int)+1=((g+1:Nat):Int):=by omega
  repeat' with_reducible apply And.intro
  all_goals first|exact c0.1|exact c0.2|exact⟨(w,(s.g g).grain,An w (s.g g).grain),(by(try dsimp only);(repeat' with_reducible apply And.intro)<;>first|with_reducible rfl|with_reducible exact fun _=>rfl|with_reducible exact fun _ _=>rfl|with_reducible exact trivial|(intro u _;exact(by(try dsimp only);(repeat' with_reducible apply And.intro)<;>first|with_reducible rfl|with_reducible assumption|with_reducible exact c0.1|with_reducible exact c0.2|with_reducible exact fun _=>rfl|with_reducible exact fun _ _=>rfl|with_reducible exact trivial|(intro e;exact by subst e;exact⟨fH _,fH _,fun _ h=>(by cases h),⟨rfl,fun _ _=>rfl⟩,rfl⟩)|exact⟨g+1,(by(try dsimp only);(repeat' with_reducible apply And.intro)<;>first|with_reducible rfl|with_reducible assumption|with_reducible exact Iv 0 g|with_reducible exact Iv 1 g|with_reducible exact Iv 2 g|with_reducible exact Iv 3 g|with_reducible exact fun _=>rfl|with_reducible exact fun _ _=>rfl|with_reducible exact trivial|exact rfl|(intro _;exact rfl)|(intro _ _;exact rfl)|exact cn|exact kk|exact mm|exact Iv 0 g|exact Iv 1 g|exact Iv 2 g|exact Iv 3 g|exact trivial|(intro _ h_;exact absurd h_ (oE _)))⟩|exact rfl|(intro _;exact rfl)|(intro _ _;exact rfl)|exact c0.1|exact c0.2|exact hk|exact k2|exact trivial|(intro _ h_;exact absurd h_ (oE _))))|exact rfl|(intro _;exact rfl)|(intro _ _;exact rfl)|exact trivial|(intro _ h_;exact absurd h_ (oE _)))⟩
 ·have hc:¬ (g:Int)<(s.n:Int):=of_decide_eq_false hc;obtain rfl:g=s.n:=by omega
  have z0:(0:Int)<=0:=AdQ _;have og:HC s.n 0 (fun _=>0):=fun k _=>⟨AdQ _,(by show(0:Int)<2 ^ 0;decide)⟩;have at0:∀i,i<w.n -> [SV.int .i64 0]= [SV.int .i64 (BO [] (fun _=>0) i)]:=fun i _=>by
   unfold BO;rfl
  have s1:(0:Int)<=((0:Nat):Int)*16777216:=by decide
  repeat' with_reducible apply And.intro
  all_goals first|exact b1|exact b2|exact b3|exact b4|exact z0|exact AdQ _|exact⟨(w,s,0,[],fun _=>0,0,fun _=>0,QX),(by(try dsimp only);(repeat' with_reducible apply And.intro)<;>first|with_reducible rfl|with_reducible assumption|with_reducible exact Ads _|with_reducible exact fun _=>rfl|with_reducible exact fun _ _=>rfl|with_reducible exact trivial|(intro u _;exact⟨(0:Nat),(by(try dsimp only);(repeat' with_reducible apply And.intro)<;>first|with_reducible rfl|with_reducible exact fun _=>rfl|with_reducible exact fun _ _=>rfl|with_reducible exact trivial|exact rfl|(intro _;exact rfl)|(intro _ _;exact rfl)|exact trivial|(intro _ h_;exact absurd h_ (oE _)))⟩)|exact rfl|(intro _;exact rfl)|(intro _ _;exact rfl)|exact hok|exact hs4|exact hsv|exact Ads _|exact og|exact z0|exact s1|exact at0|exact trivial|(intro _ h_;exact absurd h_ (oE _)))⟩)
theorem AcI:Ao Tryz.prog 54:=fun args w=>by kernel_rfl
theorem AcJ:Du Tryz.prog 54 Kz:=Gf (n:=2) Tryz.func54 (c:=Af Tryz.f54) (by kernel_rfl) mixed ⟨fun t=>rfl,fun t=>rfl,fun t u=>rfl,fun t u=>rfl,fun t u=>rfl,fun t u=>⟨rfl,rfl⟩,by kernel_rfl,by kernel_rfl⟩ (fun⟨w,s⟩ hp=>⟨_,AcH w s hp,⟨show Aa Tryz.prog _ from Aa.nil,rfl,⟨show Ae Tryz.prog _ from Ae.nil,⟨AC.no1 (fun _=>rfl),⟨show By Tryz.prog _ from(By.cons NA N9 (By.cons AcG fG By.nil)),FamsOk.none (fun _=>rfl)⟩⟩⟩⟩⟩)
end
def K0 (n:Nat) (l:List Int):Prop:=∀x,x∈l->0<=x/\x<(n:Int)
theorem fJ (w:L.Sq Ah) (s:L.Sq Az):∀(f i:Nat) (A:List Int) (sum:Int) (G:Nat->Int) (st:BT),K0 s.n A->K0 s.n st.bt->K0 s.n (EZ w s f i A sum G st).bt
 |0,_,_,_,_,_,_,h=>h
 |f+1,i,A,sum,G,st,hA,h=>by
   rw[EZ];split
   ·exact h
   ·split
    ·exact hA
    ·have key : ∀(l : List Nat) (st : BT), (∀k, k∈l->k<s.n)->K0 s.n st.bt->K0 s.n (l.foldl (fun st k =>bif Hh w s G i k then st else EZ w s f (i+1) (Ea A k) (sum+Ds s G k) (E2 G k i) st) st).bt :=fun l =>by
      induction l with
      |nil=>intro st _ h;exact h
      |cons k l ih =>
        intro st hl h;rw[List.foldl_cons];refine ih _ (fun k hk=>hl k (List.mem_cons_of_mem _ hk)) ?_;cases Hh w s G i k with
        |true=>exact h
        |false =>
          refine fJ w s f _ _ _ _ _ (fun x hx=>?_) h;unfold Ea at hx;rcases List.mem_append.1 hx with hx|hx
          ·exact hA x hx
          ·have:=hl k (List.mem_cons_self ..);rw[List.mem_singleton.1 hx];omega
     exact key _ st (fun k hk=>Adz.1 hk) h
theorem AcK (w:L.Sq Ah) (s:L.Sq Az) {i:Nat} (hi:i<(B5 (Ct w s).bt).n):0<=(B5 (Ct w s).bt).g i/\(B5 (Ct w s).bt).g i<(s.n:Int):=by
 have h:K0 s.n (Ct w s).bt:=fJ w s _ _ _ _ _ _ (fun x hx=>by cases hx) (fun x hx=>by cases hx);have hi:i<(Ct w s).bt.length:=hi;have e:(B5 (Ct w s).bt).g i=(Ct w s).bt[i]:=by
  show(Ct w s).bt.getD i 0=_;rw[AS,rH hi];rfl
 rw[e];exact h _ (AdC hi)
theorem fK (w:L.Sq Ah) (s:L.Sq Az):∀(f i:Nat) (A:List Int) (sum:Int) (G:Nat->Int) (st:BT),A.length=i->(st.bt.length=0\/st.bt.length=w.n)->(EZ w s f i A sum G st).bt.length=0\/(EZ w s f i A sum G st).bt.length=w.n
 |0,_,_,_,_,_,_,h=>h
 |f+1,i,A,sum,G,st,hA,h=>by
   rw[EZ];split
   ·exact h
   ·split
    ·rename_i e;exact .inr (hA.trans e)
    ·have key : ∀(l : List Nat) (st : BT), (st.bt.length = 0\/st.bt.length = w.n)->((l.foldl (fun st k =>bif Hh w s G i k then st else EZ w s f (i+1) (Ea A k) (sum+Ds s G k) (E2 G k i) st) st).bt.length = 0\/(l.foldl (fun st k =>bif Hh w s G i k then st else EZ w s f (i+1) (Ea A k) (sum+Ds s G k) (E2 G k i) st) st).bt.length = w.n):=fun l =>by
      induction l with
      |nil=>intro st h;exact h
      |cons k l ih =>
        intro st h;rw[List.foldl_cons];refine ih _ ?_;cases Hh w s G i k with
        |true=>exact h
        |false=>exact fK w s f _ _ _ _ _ (by unfold Ea;simp[hA]) h
     exact key _ st h
theorem AcL (w:L.Sq Ah) (s:L.Sq Az):(B5 (Ct w s).bt).n<=w.n:=by
 have:=fK w s (w.n+1-0) 0 [] 0 (fun _=>0) QX rfl (.inl rfl);have:(Ct w s).bt.length=0\/(Ct w s).bt.length=w.n:=this;show(Ct w s).bt.length<=w.n;omega
def QY (s:L.Sq Az):Prop:=(s.n<=4\/7<s.n)/\s.n<=1000000
def Gr (w:L.Sq Ah) (s:L.Sq Az):Int:=bif !decide (D1 w s true=0)then D1 w s true else bif !(Ct w s).fd then 52 else 0
def Iw (w:L.Sq Ah) (s:L.Sq Az):Nat:=bif decide (Gr w s=0)then(B5 (Ct w s).bt).n else 0
def Ix (w:L.Sq Ah) (s:L.Sq Az):Int:=bif decide (Gr w s=0)then(Ct w s).ls else 0
def Jk (w:L.Sq Ah) (s:L.Sq Az) (i:Nat):Int:=(s.g ((B5 (Ct w s).bt).g i).toNat).id
theorem AcM {s:L.Sq Az} (h:H9 s=true):∀i,i<s.n->Cq (s.g i)=true:=fun i hi=>by
 have:=Dk.1 h i hi;simp only[Bool.not_eq_true']at this;unfold EX at this;cases h1:Cq (s.g i)
 ·simp only[h1]at this;cases this
 ·rfl
section
attribute [local irreducible] Dt D2 EZ Ct D0 An BU Bw
def fL (w:(L.Sq Ah)) (s:(L.Sq Az)):Prop:=FK w/\QY s
def fM (w:(L.Sq Ah)) (s:(L.Sq Az)):SV:=.tup [.sl 1 (Iw w s) (fun i=>[.int .i64 (Jk w s i)]),.int .i64 (Ix w s),.int .i64 (Gr w s)]
def fN:List EV->Option (Prop×SV)
 |[.p (.sl 4 w_n w_g),.p (.sl 5 s_n s_g)]=>some ((∀i,i<w_n->G9 (w_g i))/\(∀i,i<s_n->s_g i = [.int .i64 ((DK (s_g i)).id),.int .i64 ((DK (s_g i)).colour),.int .i64 ((DK (s_g i)).w),.int .i64 ((DK (s_g i)).h),.int .i64 ((DK (s_g i)).grain)])/\fL (⟨w_n,fun i=>CK (w_g i)⟩:(L.Sq Ah)) (⟨s_n,fun i=>DK (s_g i)⟩:(L.Sq Az)),fM (⟨w_n,fun i=>CK (w_g i)⟩:(L.Sq Ah)) (⟨s_n,fun i=>DK (s_g i)⟩:(L.Sq Az)))
 |_=>none
abbrev fO:SE.Spec:=(AM fN)
def AcN:Aj:={ cC with muts:=[40],frz:=BH [(12,[40])],specs:=AF [(53,NK)],mks:=EA [(54,Kz)],ren:=fun k=>k,nilsL:=BD [(8,[(4,40,3,1)])] }
theorem AcO (w:(L.Sq Ah)) (s:(L.Sq Az)) (hp:fL w s):vc Tryz.prog ({ AcN with loops:=AY [(8,{ T:=Nat,keep:=[1,4,5,27,28],keepO:=[],chg:=fun i=>[(29,.p (.int .i64 (i:Int)))],own:=fun i=>[(40,.row 3 1 i (fun j=>[.int .i64 (Jk w s j)]))],inv:=fun i=>i<=(B5 (Ct w s).bt).n,mu:=fun i=>(B5 (Ct w s).bt).n-i })],rfs:=AU [] }) (Af Tryz.f28) (Ar Tryz.f28 [.p (.sl 4 w.n (fun i=>[.int .i64 ((w.g i).id),.int .i64 ((w.g i).colour),.int .i64 ((w.g i).grain),.sl 2 (w.g i).ol.n (fun i1=>[.int .i64 (((w.g i).ol.g i1).x),.int .i64 (((w.g i).ol.g i1).y)])])),.p (.sl 5 s.n (fun i=>[.int .i64 ((s.g i).id),.int .i64 ((s.g i).colour),.int .i64 ((s.g i).w),.int .i64 ((s.g i).h),.int .i64 ((s.g i).grain)]))]) (AL Tryz.prog Tryz.f28 (fM w s)):=
 @Eq.mpr _ (let I:=SV.int .i64;let T:=Ad6;let A16:=(0:Nat);let A14:=(1000000:Nat);let A12:=(L.Sq.mk s.n fun(i:Nat)=>s.g i);let A11:=(0:Int);let A4:=(B5 (Ct w s).bt);let A2:=(L.Sq.mk w.n fun(i:Nat)=>Ah.mk (w.g i).id (w.g i).colour (w.g i).grain (L.Sq.mk (w.g i).ol.n fun(i_1:Nat)=>(w.g i).ol.g i_1));let A3:=(!decide (D1 A2 A12 true=A11));((∀(i:Nat),i<w.n->∀(i_1:Nat),let A9:=((w.g i).ol.g i_1);i_1<(w.g i).ol.n -> [I A9.x,I A9.y]= [I A9.x,I A9.y])/\(∀(i:Nat),let A5:=[I (s.g i).id,I (s.g i).colour,I (s.g i).w,I (s.g i).h,I (s.g i).grain];i<s.n->A5=A5)/\w.n<=A14/\(∀(i:Nat),i<w.n->(w.g i).ol.n<=A14)/\s.n<=A14)/\(A3=true->Iw w s=A16/\A11=Ix w s/\D1 A2 A12 true=Gr w s)/\(A3=false->∃(t:L.Sq Ah×L.Sq Az),let A7:=(Ct t.1 t.2);let A1:=(B5 A7.bt);let A10:=(↑A1.n:Int);(w.n=t.1.n/\∀(i:Nat),let A13:=(t.1.g i);i<w.n -> [I (w.g i).id,I (w.g i).colour,I (w.g i).grain,SV.sl (2:Nat) (w.g i).ol.n fun(i1:Nat)=>[I ((w.g i).ol.g i1).x,I ((w.g i).ol.g i1).y]]= [I A13.id,I A13.colour,I A13.grain,SV.sl (2:Nat) A13.ol.n fun(i1:Nat)=>[I (A13.ol.g i1).x,I (A13.ol.g i1).y]])/\(s.n=t.2.n/\∀(i:Nat),let A15:=(t.2.g i);i<s.n -> [I (s.g i).id,I (s.g i).colour,I (s.g i).w,I (s.g i).h,I (s.g i).grain]= [I A15.id,I A15.colour,I A15.w,I A15.h,I A15.grain])/\(Cs t.1/\t.2.n<=(4:Nat)/\∀(k:Nat),k<t.2.n->Cq (t.2.g k)=true)/\∀(u:Nat),True->((!A7.fd)=true->Iw w s=A16/\A11=Ix w s/\(52:Int)=Gr w s)/\((!A7.fd)=false->(∃(g:Nat),A11=(↑g:Int)/\(A16=g/\∀(i:Nat),i<A16 -> []= [I (Jk w s i)])/\g<=A4.n)/\∀(g:Nat),let A8:=(↑g:Int);g<=A4.n->(decide (A8<A10)=true->(A11<=A8/\A8<A10)/\(A11<=A1.g (T A8)/\A1.g (T A8)<(↑s.n:Int))/\(g+nat_lit 1)*nat_lit 8<=(140737488355328:Nat)/\Ac .i64 (A8+(1:Int))/\∃(g':Nat),A8+(1:Int)=(↑g':Int)/\A10=A10/\(A1.n=A1.n/\∀(i:Nat),i<A1.n -> [I (A1.g i)]= [I (A1.g i)])/\A7.ls=A7.ls/\(s.n=s.n/\∀(i:Nat),let A6:=[I (s.g i).id,I (s.g i).colour,I (s.g i).w,I (s.g i).h,I (s.g i).grain];i<s.n->A6=A6)/\(g+nat_lit 1=g'/\∀(i:Nat),i<g+nat_lit 1->Ba g (fun(j:Nat)=>[I (Jk w s j)]) (fun(x:Nat)=>[I (s.g (T (A1.g (T A8)))).id]) i = [I (Jk w s i)])/\g'<=A4.n/\A4.n-g'<A4.n-g)/\(decide (A8<A10)=false->(g=Iw w s/\∀(i:Nat),i<g -> [I (Jk w s i)]= [I (Jk w s i)])/\A7.ls=Ix w s/\A11=Gr w s)))) (by kernel_rfl) (by
 conv=>zeta
 obtain⟨hw,hs⟩:=(show FK w/\QY s from hp);have fin:∀e,Gr w s=e->e≠0->Iw w s=0/\0=Ix w s/\e=Gr w s:=fun e h h0=>⟨by unfold Iw;rw[h,decide_eq_false h0];rfl,by unfold Ix;rw[h,decide_eq_false h0];rfl,h.symm⟩;refine⟨⟨fun _ _ _ _=>rfl,fun _ _=>rfl,hw.2.1,hw.2.2,hs.2⟩,fun h=>?_,fun h=>?_⟩
 ·have h:(!decide (D1 w s true=0))=true:=h;exact fin _ (by unfold Gr;rw[h];rfl) (of_decide_eq_false (CV h))
 ·have h:(!decide (D1 w s true=0))=false:=h;obtain⟨-,v2,-,v4,v5⟩:=NI (of_decide_eq_true (Cl h));have ok:=NJ hw v4;have s4:s.n<=4:=by have:=hs.1;omega
  refine⟨(w,s),⟨rfl,fun _ _=>rfl⟩,⟨rfl,fun _ _=>rfl⟩,⟨ok,s4,AcM v2⟩,fun _ _=>⟨fun h2=>?_,fun h2=>?_⟩⟩
  ·have h2:(!(Ct w s).fd)=true:=h2;exact fin 52 (by unfold Gr;rw[h,h2];rfl) (by decide)
  ·have h2:(!(Ct w s).fd)=false:=h2;have e:Gr w s=0:=by unfold Gr;rw[h,h2];rfl
   have eN:Iw w s=(B5 (Ct w s).bt).n:=by unfold Iw;rw[e];rfl
   have eA:Ix w s=(Ct w s).ls:=by unfold Ix;rw[e];rfl
   rw[e,eN,eA];have hl:=AcL w s;have hw4:=ok.1;dsimp only;refine⟨⟨0,rfl,⟨rfl,fun i hi=>absurd hi (oE _)⟩,Ads _⟩,fun g hg=>⟨fun hc=>?_,fun hc=>?_⟩⟩
   ·have hc:(g:Int)<((B5 (Ct w s).bt).n:Int):=of_decide_eq_true hc;have hlt:g<(B5 (Ct w s).bt).n:=by omega
    have hin:=AcK w s hlt;rw[Ad3 g];refine⟨⟨AdG _,hc⟩,hin,by show(g+1)*8<=140737488355328;omega,jK,g+1,by omega,rfl,⟨rfl,fun _ _=>rfl⟩,rfl,⟨rfl,fun _ _=>rfl⟩,⟨rfl,fun i hi=>?_⟩,hlt,by omega⟩;unfold Ba
    by_cases e:i<g
    ·rw[if_pos e]
    ·rw[if_neg e];obtain rfl:i=g:=by omega
     rfl
   ·have hc:¬ (g:Int)<((B5 (Ct w s).bt).n:Int):=of_decide_eq_false hc;exact⟨⟨by omega,fun _ _=>rfl⟩,rfl,rfl⟩)
theorem AcP:AB Tryz.prog 28 fO:=AP Tryz.func28 (c:=Af Tryz.f28) (by kernel_rfl) mixed (fun args p r hs hp=>by
 unfold fN at hs;split at hs
 ·cases hs;exact⟨_,_,AcO _ _ hp.2.2,(.p (Kg hp.1) (.p (.sl hp.2.1) .nil)),⟨show Aa Tryz.prog _ from(Aa.cons QL QM Aa.nil),rfl,⟨show Ae Tryz.prog _ from Ae.nil,⟨AC.no1 (fun _=>rfl),⟨show By Tryz.prog _ from(By.cons AcJ AcI By.nil),FamsOk.none (fun _=>rfl)⟩⟩⟩⟩⟩
 ·cases hs)
theorem AcQ:Ao Tryz.prog 28:=fun args w=>by kernel_rfl
end
def fP (l:List (Int×Int)):L.Sq L.Pt:=⟨l.length,fun i=>⟨(l.getD i (0,0)).1,(l.getD i (0,0)).2⟩⟩
def C0:Ah:=⟨1,1,0,fP [(0,0),(8,0),(8,4),(4,3),(0,4)]⟩
def Da:Ah:=⟨2,1,0,fP [(0,0),(6,0),(6,2),(0,2)]⟩
def fQ :Prop:=True
def fR :SV:=(.agg [.int .i64 C0.id,.int .i64 C0.colour,.int .i64 C0.grain,.sl 2 C0.ol.n (fun i=>[.int .i64 ((C0.ol.g i).x),.int .i64 ((C0.ol.g i).y)])])
def fS:List EV->Option (Prop×SV)
 |[]=>some (fQ , fR )
 |_=>none
abbrev fT:SE.Spec:=(AM fS)
def AcR:Aj:={ cC with muts:=[0] }
theorem AcS  (hp:fQ):vc Tryz.prog (AcR) (Af Tryz.f24) (Ar Tryz.f24 []) (AL Tryz.prog Tryz.f24 (fR )):=
 @Eq.mpr _ (let I:=SV.int .i64;let A1:=(0:Int);(1:Int)=C0.id/\(1:Int)=C0.colour/\A1=C0.grain/\nat_lit 5=nat_lit 5/\∀(i:Nat),i<nat_lit 5->Bb [I A1,I A1,I (8:Int),I A1,I (8:Int),I (4:Int),I (4:Int),I (3:Int),I A1,I (4:Int)] (nat_lit 2) i = [I (C0.ol.g i).x,I (C0.ol.g i).y]) (by kernel_rfl) (by
 conv=>zeta
 refine⟨rfl,rfl,rfl,rfl,fun i hi=>?_⟩
 match i,hi with
 |0,_=>rfl
 |1,_=>rfl
 |2,_=>rfl
 |3,_=>rfl
 |4,_=>rfl)
theorem AcT:AB Tryz.prog 24 fT:=AP Tryz.func24 (c:=Af Tryz.f24) (by kernel_rfl) mixed (fun args p r hs hp=>by
 unfold fS at hs;split at hs
 ·cases hs;exact⟨_,_,AcS  hp,.nil,⟨show Aa Tryz.prog _ from Aa.nil,rfl,⟨show Ae Tryz.prog _ from Ae.nil,(AC.none (fun _=>rfl))⟩⟩⟩
 ·cases hs)
theorem AcU:Ao Tryz.prog 24:=fun args w=>by kernel_rfl
def fU :Prop:=True
def fV :SV:=(.agg [.int .i64 Da.id,.int .i64 Da.colour,.int .i64 Da.grain,.sl 2 Da.ol.n (fun i=>[.int .i64 ((Da.ol.g i).x),.int .i64 ((Da.ol.g i).y)])])
def fW:List EV->Option (Prop×SV)
 |[]=>some (fU , fV )
 |_=>none
abbrev fX:SE.Spec:=(AM fW)
def AcV:Aj:={ cC with muts:=[0] }
theorem AcW  (hp:fU):vc Tryz.prog (AcV) (Af Tryz.f25) (Ar Tryz.f25 []) (AL Tryz.prog Tryz.f25 (fV )):=
 @Eq.mpr _ (let I:=SV.int .i64;let A1:=(0:Int);(2:Int)=Da.id/\(1:Int)=Da.colour/\A1=Da.grain/\nat_lit 4=nat_lit 4/\∀(i:Nat),i<nat_lit 4->Bb [I A1,I A1,I (6:Int),I A1,I (6:Int),I (2:Int),I A1,I (2:Int)] (nat_lit 2) i = [I (Da.ol.g i).x,I (Da.ol.g i).y]) (by kernel_rfl) (by
 conv=>zeta
 refine⟨rfl,rfl,rfl,rfl,fun i hi=>?_⟩
 match i,hi with
 |0,_=>rfl
 |1,_=>rfl
 |2,_=>rfl
 |3,_=>rfl)
theorem AcX:AB Tryz.prog 25 fX:=AP Tryz.func25 (c:=Af Tryz.f25) (by kernel_rfl) mixed (fun args p r hs hp=>by
 unfold fW at hs;split at hs
 ·cases hs;exact⟨_,_,AcW  hp,.nil,⟨show Aa Tryz.prog _ from Aa.nil,rfl,⟨show Ae Tryz.prog _ from Ae.nil,(AC.none (fun _=>rfl))⟩⟩⟩
 ·cases hs)
theorem AcY:Ao Tryz.prog 25:=fun args w=>by kernel_rfl
def fY :Prop:=True
def fZ :SV:=.bool true
def gB:List EV->Option (Prop×SV)
 |[]=>some (fY , fZ )
 |_=>none
abbrev gC:SE.Spec:=(AM gB)
def AcZ:Aj:={ cC with specs:=AF [(24,fT),(25,fX),(26,dA),(27,eO),(28,fO),(10,Qr)] }
theorem Ada  (hp:fY):vc Tryz.prog (AcZ) (Af Tryz.f6) (Ar Tryz.f6 []) (AL Tryz.prog Tryz.f6 (fZ )):=
 @Eq.mpr _ (let I:=SV.int .i64;let A10:=(1:Int);let A9:=(nat_lit 4);let A7:=(L.Sq.mk (nat_lit 5) fun(i:Nat)=>C0.ol.g i);let A6:=(nat_lit 2);let A5:=(0:Int);let A4:=[I (9:Int),I A10,I (10:Int),I (6:Int),I A5];let A3:=(∀(i:Nat),i<nat_lit 2->G9 (Bb [I C0.id,I C0.colour,I C0.grain,SV.sl A6 (nat_lit 5) fun(i:Nat)=>[I (C0.ol.g i).x,I (C0.ol.g i).y],I Da.id,I Da.colour,I Da.grain,SV.sl A6 A9 fun(i:Nat)=>[I (Da.ol.g i).x,I (Da.ol.g i).y]] A9 i));let A2:=(L.Sq.mk A6 fun(i:Nat)=>CK (Bb [I C0.id,I C0.colour,I C0.grain,SV.sl A6 (nat_lit 5) fun(i:Nat)=>[I (C0.ol.g i).x,I (C0.ol.g i).y],I Da.id,I Da.colour,I Da.grain,SV.sl A6 A9 fun(i:Nat)=>[I (Da.ol.g i).x,I (Da.ol.g i).y]] A9 i));let A1:=(A3/\FK A2);True/\True/\A1/\A1/\(A3/\(∀(i:Nat),i<nat_lit 1->A4=A4)/\FK A2/\QY (L.Sq.mk (nat_lit 1) fun(i:Nat)=>Az.mk (9:Int) A10 (10:Int) (6:Int) A5))/\(A5<=A5/\A5<(↑A6:Int))/\((∀(i:Nat),let A8:=[I (C0.ol.g i).x,I (C0.ol.g i).y];i<nat_lit 5->A8=A8)/\nat_lit 5<=(1000000:Nat)/\(AA A7=true->Kk A7))/\(true=true->A5<=A10/\A10<(↑A9:Int))/\(false=true->false=true)/\(false=false->(A5<=A10/\A10<(↑A6:Int))/\(true=true->A5<=A5/\A5<(↑(nat_lit 1):Int))/\true=true)) (by kernel_rfl) (by
 conv=>zeta
 have ok:∀(g:Nat->List SV),g 0 = [.int .i64 C0.id,.int .i64 C0.colour,.int .i64 C0.grain,.sl 2 5 fun(i:Nat)=>[.int .i64 (C0.ol.g i).x,.int .i64 (C0.ol.g i).y]]->g 1 = [.int .i64 Da.id,.int .i64 Da.colour,.int .i64 Da.grain,.sl 2 4 fun(i:Nat)=>[.int .i64 (Da.ol.g i).x,.int .i64 (Da.ol.g i).y]]->(∀i,i<2->G9 (g i))/\FK ⟨2,fun i=>CK (g i)⟩:=fun g h0 h1=>by
  have two:∀i:Nat,i<2->i=0\/i=1:=fun i hi=>by omega
  refine⟨fun i hi=>?_,.inl (show 2<=4 by decide),show 2<=1000000 by decide,fun i hi=>?_⟩
  ·rcases two i hi with rfl|rfl
   ·rw[h0];exact fun _ _=>rfl
   ·rw[h1];exact fun _ _=>rfl
  ·rcases two i hi with rfl|rfl
   ·show(CK (g 0)).ol.n<=1000000;rw[h0];show 5<=1000000;decide
   ·show(CK (g 1)).ol.n<=1000000;rw[h1];show 4<=1000000;decide
 have e1:(Cg C0.ol).n=1:=by kernel_rfl
 have e2:(Cg C0.ol).g 0=⟨2,4,8⟩:=by kernel_rfl
 have pk:Kk C0.ol:=fun i hi=>by
  rw[e1]at hi;obtain rfl:i=0:=by omega
  rw[e2];show(((0:Int)<=2/\(2:Int)<5)/\((0:Int)<=4/\(4:Int)<5)/\(2:Int)≠4);decide
 refine⟨trivial,trivial,ok _ rfl rfl,ok _ rfl rfl,⟨(ok _ rfl rfl).1,fun _ _=>rfl,(ok _ rfl rfl).2,.inl (show 1<=4 by decide),show 1<=1000000 by decide⟩,by decide,⟨fun _ _=>rfl,by decide,fun _=>pk⟩,fun _=>(by decide),fun h=>(by cases h),fun _=>⟨by decide,fun _=>(by decide),rfl⟩⟩)
theorem Adb:AB Tryz.prog 6 gC:=AP Tryz.func6 (c:=Af Tryz.f6) (by kernel_rfl) mixed (fun args p r hs hp=>by
 unfold gB at hs;split at hs
 ·cases hs;exact⟨_,_,Ada  hp,.nil,⟨show Aa Tryz.prog _ from(Aa.cons AcT AcU (Aa.cons AcX AcY (Aa.cons Ab5 Ab6 (Aa.cons Ac0 Ac1 (Aa.cons AcP AcQ (Aa.cons Z7 Z8 Aa.nil)))))),rfl,⟨show Ae Tryz.prog _ from Ae.nil,(AC.none (fun _=>rfl))⟩⟩⟩
 ·cases hs)
theorem Adc:Ao Tryz.prog 6:=fun args w=>by kernel_rfl
def Fl (l:L.Sq L.Pt) (t:L.Sq BA):Nat->Int
 |0=>0
 |k+1=>Fl l t k+Ax (l.g (t.g k).a.toNat) (l.g (t.g k).c.toNat) (l.g (t.g k).b.toNat)
theorem gD (l:L.Sq L.Pt) (x:List BA):∀k,k<=x.length->Fl l (AN (some x)) k=Gl l (x.take k)
 |0,_=>rfl
 |k+1,h=>by
   have e:(AN (some x)).g k=x[k]:=by
    show x.getD k ⟨0,0,0⟩=_;rw[AS,rH (by omega)];rfl
   rw[Fl,gD l x k (by omega),e,List.take_add_one,rH (by omega),Qx];show _+Qw l x[k]=Gl l (x.take k)+(Qw l x[k]+0);omega
theorem QZ {l:L.Sq L.Pt} {b:Int} (hv:AA l=true) (h0:0<=b) (h1:b<=4096) {i:Nat} (hi:i<(AK l).n):CO l ((AK l).g i) b=bif !BJ (Ca l ((AK l).g i) b)then 51 else 0:=by
 unfold CO AG;rw[hv,zO hv hi,decide_eq_true h0,decide_eq_true h1];rfl
theorem Ade {l:L.Sq L.Pt} {b c:Int} (h0:0<=b) (h1:b<=c) (h:Dp l b=true):Dp l c=true:=by
 unfold Dp at *;exact Dk.2 fun i hi=>ZJ h0 h1 (Dk.1 h i hi)
def Hi (l:L.Sq L.Pt) (b:Int) (k:Nat):Bool:=CG k fun i=>decide (CO l ((AK l).g i) b=0)
theorem Adf {l:L.Sq L.Pt} {b:Int} (hv:AA l=true) (h0:0<=b) (h1:b<=4096):Hi l b (AK l).n=Dp l b:=by
 unfold Hi Dp;rw[Bool.eq_iff_iff,Dk,Dk];have k:∀i,i<(AK l).n->(decide (CO l ((AK l).g i) b=0)=true↔BJ (Ca l ((AK l).g i) b)=true):=fun i hi=>by
  rw[QZ hv h0 h1 hi];cases BJ (Ca l ((AK l).g i) b)<;>simp
 exact⟨fun h i hi=>(k i hi).1 (h i hi),fun h i hi=>(k i hi).2 (h i hi)⟩
theorem Adg {a b c:L.Pt} (ha:Ei a) (hb:Ei b) (hc:Ei c): -33554432<=Ax a b c/\Ax a b c<=33554432:=by
 unfold Ei at *;unfold Ax;have m1:=D4 (a:=b.x-a.x) (b:=c.y-a.y) (m:=4096) (n:=4096) (by omega) (by omega) (by omega) (by omega);have m2:=D4 (a:=b.y-a.y) (b:=c.x-a.x) (m:=4096) (n:=4096) (by omega) (by omega) (by omega) (by omega);omega
theorem gE {l:L.Sq L.Pt} {t:L.Sq BA} (hb:∀i,i<l.n->Ei (l.g i)) (ht:∀i,i<t.n->(t.g i).a.toNat<l.n/\(t.g i).b.toNat<l.n/\(t.g i).c.toNat<l.n):∀k,k<=t.n -> -(33554432*(k:Int))<=Fl l t k/\Fl l t k<=33554432*(k:Int)
 |0,_=>⟨by show _<=(0:Int);omega,by show(0:Int)<=_;omega⟩
 |k+1,h=>by
   have ih:=gE hb ht k (by omega);obtain⟨a,b,c⟩:=ht k (by omega);have:=Adg (hb _ a) (hb _ c) (hb _ b);rw[Fl];omega
def gF (l:(L.Sq L.Pt)) (bite:Int) (more:Int):Prop:=l.n<=9223372036854775807
def gG (l:(L.Sq L.Pt)) (bite:Int) (more:Int):SV:=.bool true
def NN:List EV->Option (Prop×SV)
 |[.p (.sl 2 l_n l_g),.p (.int .i64 bite),.p (.int .i64 more)]=>some ((∀i,i<l_n->l_g i = [.int .i64 ((Ai (l_g i)).x),.int .i64 ((Ai (l_g i)).y)])/\gF (⟨l_n,fun i=>Ai (l_g i)⟩:(L.Sq L.Pt)) bite more,gG (⟨l_n,fun i=>Ai (l_g i)⟩:(L.Sq L.Pt)) bite more)
 |_=>none
abbrev Adh:SE.Spec:=(AM NN)
def Adi:Aj:={ cC with muts:=[22,23,24],specs:=AF [(6,gC),(7,PV),(8,Yt),(9,aC),(10,Qr),(11,ZQ),(12,Kd)] }
theorem Adj (l:(L.Sq L.Pt)) (bite:Int) (more:Int) (hp:gF l bite more):vc Tryz.prog ({ Adi with loops:=AY [(9,{ T:=Nat,keep:=[0,1,2,7,8,9,10,11,12,13],keepO:=[],chg:=fun i=>[(14,.p (.bool (Hi l bite i))),(15,.p (.int .i64 (i:Int)))],own:=fun _=>[],inv:=fun i=>i<=(AK l).n,mu:=fun i=>(AK l).n-i }),(18,{ T:=Nat×Nat,keep:=[0,1,2,7,8,9,10,11,12,13,14,15,16,17],keepO:=[],tie:=fun g=>[(15,.int .i64 (g.1:Int))],chg:=fun g=>[(20,.p (.int .i64 (Fl l (CP l ((AK l).g g.1) bite) g.2))),(21,.p (.int .i64 (g.2:Int)))],own:=fun _=>[],inv:=fun g=>g.1<(AK l).n/\g.2<=(CP l ((AK l).g g.1) bite).n,mu:=fun g=>(CP l ((AK l).g g.1) bite).n-g.2 })],rfs:=AU [] }) (Af Tryz.f3) (Ar Tryz.f3 [.p (.sl 2 l.n (fun i=>[.int .i64 ((l.g i).x),.int .i64 ((l.g i).y)])),.p (.int .i64 bite),.p (.int .i64 more)]) (AL Tryz.prog Tryz.f3 (gG l bite more)):=
 @Eq.mpr _ (let I:=SV.int .i64;let T:=Ad6;let A29:=(↑l.n:Int);let A23:=(l.n=l.n/\∀(i:Nat),let A46:=[I (l.g i).x,I (l.g i).y];i<l.n->A46=A46);let A22:=(AK l);let A16:=(1:Int);let A8:=(∀(i:Nat),let A47:=[I (l.g i).x,I (l.g i).y];i<l.n->A47=A47);let A36:=(A8/\l.n<=(1000000:Nat));let A7:=(0:Int);let A2:=(L.Sq.mk l.n fun(i:Nat)=>l.g i);let A41:=(bif DN A2 more then A16 else A7);let A40:=(bif DN A2 bite then A16 else A7);let A39:=(bif AA A2 then A7 else A16);let A35:=(bif DN A2 bite then false else Dp A2 bite);let A30:=(↑(G8 A2):Int);let A28:=(A8/\l.n<=(1000000:Nat)/\(AA A2=true->Kk A2));let A27:=(A40=bif DN A2 bite then A16 else A7);let A26:=(A41=bif DN A2 more then A16 else A7);let A25:=(A39=bif AA A2 then A7 else A16);let A18:=(A35=bif DN A2 bite then false else Dp A2 bite);let A17:=((bif DN A2 more then false else Dp A2 more)=bif DN A2 more then false else Dp A2 more);let A14:=(bif bif bif !AA A2 then true else decide (bite<A7)then true else decide (more<bite)then true else decide ((4096:Int)<more));True/\(A8/\True)/\(A14=true->true=true)/\(A14=false->A36/\A36/\A36/\(∃(g:Nat),true=Hi l bite g/\A7=(↑g:Int)/\g<=A22.n)/\∀(g:Nat),let A20:=(↑g:Int);let A48:=(A7<=A20/\A20<A30);let A6:=(G8 A2=G8 A2/\∀(i:Nat),let A42:=(L.Sq.mk l.n fun(i:Nat)=>l.g i);let A13:=((AK A42).g i);let A44:=[I A13.fr,I A13.to_,I A13.area];i<G8 A42->A44=A44);let A5:=((AK A2).g (T A20));let A24:=(bif Hi l bite g then decide (CO A2 A5 bite=A7)else false);let A11:=(bif bif !decide (CO A2 A5 bite=A7)then !decide (CO A2 A5 bite=(51:Int))else false then true else bif decide (CO A2 A5 bite=A7)then !decide (CO A2 A5 more=A7)else false);let A1:=(CP A2 A5 bite);let A21:=(↑A1.n:Int);g<=A22.n->(decide (A20<A30)=true->A48/\A28/\A48/\A28/\(A11=true->false=true)/\(A11=false->(∃(g_1:Nat×Nat),let A45:=(CP l (A22.g g_1.1) bite);A7=Fl l A45 g_1.2/\A7=(↑g_1.2:Int)/\A20=(↑g_1.1:Int)/\g_1.1<A22.n/\g_1.2<=A45.n)/\∀(g_1:Nat×Nat),let A15:=(CP l (A22.g g_1.1) bite);let A19:=(bif decide (CO A2 A5 bite=A7)then !decide (Fl l A15 g_1.2=A5.area)else false);let A12:=(↑g_1.2:Int);let A31:=(A7<=A12/\A12<A21);let A3:=(A1.g (T A12));let A34:=(l.g (T A3.c));let A33:=(l.g (T A3.b));let A32:=(l.g (T A3.a));let A10:=(bif !bif FJ A32 A33 A34 bite then false else Fx A32 A33 A34 bite then true else !decide ((bif FJ A32 A33 A34 bite then A16 else A7)=A7));let A9:=(bif bif bif bif bif decide (A3.a<A7)then true else decide (A3.b<A7)then true else decide (A3.c<A7)then true else decide (A29<=A3.a)then true else decide (A29<=A3.b)then true else decide (A29<=A3.c));A20=(↑g_1.1:Int)/\g_1.1<A22.n/\g_1.2<=A15.n->(decide (A12<A21)=true->A31/\((!decide (A3.a<A7))=true->A7<=A12/\A12<A21)/\((!bif decide (A3.a<A7)then true else decide (A3.b<A7))=true->A7<=A12/\A12<A21)/\((!bif bif decide (A3.a<A7)then true else decide (A3.b<A7)then true else decide (A3.c<A7))=true->A7<=A12/\A12<A21)/\((!bif bif bif decide (A3.a<A7)then true else decide (A3.b<A7)then true else decide (A3.c<A7)then true else decide (A29<=A3.a))=true->A7<=A12/\A12<A21)/\((!bif bif bif bif decide (A3.a<A7)then true else decide (A3.b<A7)then true else decide (A3.c<A7)then true else decide (A29<=A3.a)then true else decide (A29<=A3.b))=true->A7<=A12/\A12<A21)/\(A9=true->false=true)/\(A9=false->A31/\(A7<=A3.a/\A3.a<A29)/\A31/\(A7<=A3.b/\A3.b<A29)/\A31/\(A7<=A3.c/\A3.c<A29)/\True/\(A10=true->false=true)/\(A10=false->(Au A32/\Au A34/\Au A33)/\Ac .i64 (Fl l A15 g_1.2+Ax A32 A34 A33)/\Ac .i64 (A12+A16)/\∃(g':Nat×Nat),let A37:=(CP l (A22.g g'.1) bite);Fl l A15 g_1.2+Ax A32 A34 A33=Fl l A37 g'.2/\A12+A16=(↑g'.2:Int)/\(A24=bif Hi l bite g then decide (CO A2 A5 bite=A7)else false)/\CO A2 A5 bite=CO A2 A5 bite/\(A1.n=A1.n/\∀(i:Nat),let A43:=(L.Sq.mk l.n fun(i:Nat)=>l.g i);let A4:=(CP A43 ((AK A43).g (T A20)) bite);let A38:=[I (A4.g i).a,I (A4.g i).b,I (A4.g i).c];i<A4.n->A38=A38)/\A20=A20/\A26/\A17/\A27/\A18/\A25/\A6/\true=true/\A23/\bite=bite/\more=more/\(A20=(↑g'.1:Int)/\g'.1<A22.n/\g'.2<=A37.n)/\A37.n-g'.2<A15.n-g_1.2)))/\(decide (A12<A21)=false->(decide (CO A2 A5 bite=A7)=true->A7<=A20/\A20<A30)/\(A19=true->false=true)/\(A19=false->Ac .i64 (A20+A16)/\∃(g':Nat),A24=Hi l bite g'/\A20+A16=(↑g':Int)/\A26/\A17/\A27/\A18/\A25/\A6/\true=true/\A23/\bite=bite/\more=more/\g'<=A22.n/\A22.n-g'<A22.n-g))))/\(decide (A20<A30)=false->(bif bif bif bif bif true then decide (A39=A7)else false then decide (A40=A7)else false then decide (A41=A7)else false then A35 == Hi l bite g else false then bif bif DN A2 more then false else Dp A2 more then true else !bif DN A2 bite then false else Dp A2 bite else false)=true))) (by kernel_rfl) (by
 conv=>zeta
 refine⟨trivial,⟨fun _ _=>rfl,trivial⟩,fun _=>rfl,fun h=>?_⟩;rw[Dl,Dl,Dl,AdD,AdD,AdD]at h;obtain⟨⟨⟨h1,h2⟩,h3⟩,h4⟩:=h;have hv:AA l=true:=Cl h1;have h2:=of_decide_eq_false h2;have h3:=of_decide_eq_false h3;have h4:=of_decide_eq_false h4;have b0:0<=bite:=by omega
 have bm:bite<=more:=by omega
 have m0:0<=more:=by omega
 have m1:more<=4096:=by omega
 have b1:bite<=4096:=by omega
 obtain⟨n3,n24,hsm,hbd⟩:=Dw hv;have ln:l.n<=1000000:=by omega
 have pO:=fun _:AA l=true=>ZF hv;have rl:=ZM hv;have eN:G8 l=(AK l).n:=by unfold G8;rw[hv];rfl
 have cb:∀c,0<=c->c<=4096->DN l c=false:=fun c c0 c1=>by
  unfold DN AG;rw[hv,decide_eq_true c0,decide_eq_true c1];rfl
 rw[cb bite b0 b1,cb more m0 m1,eN];refine⟨⟨fun _ _=>rfl,ln⟩,⟨fun _ _=>rfl,ln⟩,⟨fun _ _=>rfl,ln⟩,⟨0,rfl,rfl,Ads _⟩,fun g hg=>⟨fun hlt=>?_,fun hge=>?_⟩⟩;rotate_left
 ·have hge:¬ (g:Int)<((AK l).n:Int):=of_decide_eq_false hge;obtain rfl:g=(AK l).n:=by omega
  rw[Adf hv b0 b1,hv];cases hc:Dp l bite with
  |false=>cases Dp l more<;>rfl
  |true=>rw[Ade b0 bm hc];rfl
 have hlt:g<(AK l).n:=by have:=of_decide_eq_true hlt;omega
 have e0:((g:Int)).toNat=g:=Ad3 g;rw[e0];have nx:(bif Hi l bite g then decide (CO l ((AK l).g g) bite=0)else false)=Hi l bite (g+1):=by rw[FE];rfl
 have bd:0<=(g:Int)/\(g:Int)<((AK l).n:Int):=by omega
 have p1:=QZ hv b0 b1 hlt;have p2:=QZ hv m0 m1 hlt;have hk:=Qv hv hlt;rw[nx];have mu1:(AK l).n-(g+1)<(AK l).n-g:=by omega
 cases ho:BJ (Ca l ((AK l).g g) bite)with
 |false =>
   have e1:CO l ((AK l).g g) bite=51:=by rw[p1,ho];rfl
   have e2:(CP l ((AK l).g g) bite).n=0:=by unfold CP;rw[e1];rfl
   rw[e1];refine⟨bd,⟨fun _ _=>rfl,ln,pO⟩,bd,⟨fun _ _=>rfl,ln,pO⟩,fun h=>h,fun _=>⟨⟨(g,0),rfl,rfl,rfl,hlt,Ads _⟩,fun g1 hg1=>⟨fun hl=>?_,fun hl=>⟨fun h=>(by cases h),fun h=>h,fun _=>⟨jK,g+1,?_⟩⟩⟩⟩⟩
   ·have hl:=of_decide_eq_true hl;rw[e2]at hl;omega
   ·exact(by(try dsimp only);(repeat' with_reducible apply And.intro)<;>first|with_reducible rfl|with_reducible assumption|with_reducible exact fun _=>rfl|with_reducible exact fun _ _=>rfl|with_reducible exact trivial|exact rfl|(intro _;exact rfl)|(intro _ _;exact rfl)|exact hlt|exact mu1|exact(by omega)|exact trivial|(intro _ h_;exact absurd h_ (oE _)))
 |true =>
   obtain⟨x,hx⟩:∃x,Ca l ((AK l).g g) bite=some x:=Option.isSome_iff_exists.1 ho;have e1:CO l ((AK l).g g) bite=0:=by rw[p1,ho];rfl
   have e2:CO l ((AK l).g g) more=0:=by rw[p2,ZJ b0 bm ho];rfl
   have eR:CP l ((AK l).g g) bite=AN (some x):=by unfold CP;rw[e1,hx];rfl
   obtain⟨hx1,hx2⟩:=zS (by omega) hk hx;have xn:(AN (some x)).n=x.length:=rfl;have xl:x.length<=1000:=by
    have:=Q3 hv (b:=bite) hlt;unfold CQ at this;rw[hx]at this;exact this
   have hm:∀j,j<x.length->(AN (some x)).g j∈x:=fun j hj=>by
    show x.getD j ⟨0,0,0⟩∈x;rw[AS,rH hj];exact AdC hj
   rw[e1,e2,eR];refine⟨bd,⟨fun _ _=>rfl,ln,pO⟩,bd,⟨fun _ _=>rfl,ln,pO⟩,fun h=>h,fun _=>⟨⟨(g,0),rfl,rfl,rfl,hlt,Ads _⟩,fun g1 hg1=>?_⟩⟩;obtain⟨k,j⟩:=g1;obtain⟨q1,q2,q3⟩:=hg1;have q1:(g:Int)=(k:Int):=q1;obtain rfl:g=k:=by omega
   have q3:j<=(CP l ((AK l).g g) bite).n:=q3;rw[eR,xn]at q3;dsimp only;rw[eR,xn];have e3:((j:Int)).toNat=j:=Ad3 j;rw[e3];refine⟨fun hl=>?_,fun hl=>?_⟩
   ·have hj:j<x.length:=by have:=of_decide_eq_true hl;omega
    have bj:0<=(j:Int)/\(j:Int)<(x.length:Int):=by omega
    obtain⟨⟨⟨a0,a1⟩,⟨c0,c1⟩,d0,d1⟩,lw⟩:=hx1 _ (hm j hj);have sb:=gE (l:=l) (t:=AN (some x)) (fun i hi=>FI.1 ((Ii hv).1 i hi)) (fun i hi=>by
     obtain⟨⟨⟨a0,a1⟩,⟨c0,c1⟩,d0,d1⟩,_⟩:=hx1 _ (hm i hi);omega) (j+1) hj
    have st:Fl l (AN (some x)) (j+1)=Fl l (AN (some x)) j+Ax (l.g ((AN (some x)).g j).a.toNat) (l.g ((AN (some x)).g j).c.toNat) (l.g ((AN (some x)).g j).b.toNat):=rfl;rw[<- st];have va:=(Ii hv).1 ((AN (some x)).g j).a.toNat (by omega);have vb:=(Ii hv).1 ((AN (some x)).g j).b.toNat (by omega);have vc:=(Ii hv).1 ((AN (some x)).g j).c.toNat (by omega);have da:=hbd.2 ((AN (some x)).g j).a.toNat (by omega);have db:=hbd.2 ((AN (some x)).g j).b.toNat (by omega);have dc:=hbd.2 ((AN (some x)).g j).c.toNat (by omega);have lb:FJ (l.g ((AN (some x)).g j).a.toNat) (l.g ((AN (some x)).g j).b.toNat) (l.g ((AN (some x)).g j).c.toNat) bite=false:=by
     unfold FJ AG;rw[va,vb,vc,decide_eq_true b0,decide_eq_true b1];rfl
    rw[decide_eq_false (show ¬ ((AN (some x)).g j).a<0 by omega),decide_eq_false (show ¬ ((AN (some x)).g j).b<0 by omega),decide_eq_false (show ¬ ((AN (some x)).g j).c<0 by omega),decide_eq_false (show ¬ (l.n:Int)<=((AN (some x)).g j).a by omega),decide_eq_false (show ¬ (l.n:Int)<=((AN (some x)).g j).b by omega),decide_eq_false (show ¬ (l.n:Int)<=((AN (some x)).g j).c by omega),lb,lw];refine⟨bj,fun _=>bj,fun _=>bj,fun _=>bj,fun _=>bj,fun _=>bj,fun h=>h,fun _=>⟨bj,⟨a0,a1⟩,bj,⟨c0,c1⟩,bj,⟨d0,d1⟩,trivial,fun h=>h,fun _=>⟨⟨da,dc,db⟩,jK,jK,(g,j+1),?_⟩⟩⟩;have mu2:(CP l ((AK l).g g) bite).n-(j+1)<(CP l ((AK l).g g) bite).n-j:=by rw[eR,xn];omega
    have le2:j+1<=(CP l ((AK l).g g) bite).n:=by rw[eR,xn];omega
    dsimp only;rw[eR,xn];rw[eR,xn]at mu2 le2;exact(by(try dsimp only);(repeat' with_reducible apply And.intro)<;>first|with_reducible rfl|with_reducible assumption|with_reducible exact fun _=>rfl|with_reducible exact fun _ _=>rfl|with_reducible exact trivial|exact rfl|(intro _;exact rfl)|(intro _ _;exact rfl)|exact hlt|exact mu2|exact le2|exact(by omega)|exact trivial|(intro _ h_;exact absurd h_ (oE _)))
   ·have hj:j=x.length:=by have:=of_decide_eq_false hl;omega
    subst hj;have sm:Fl l (AN (some x)) x.length=((AK l).g g).area:=by
     rw[gD _ _ _ (Nat.le_refl _),List.take_length,hx2];rfl
    rw[sm,decide_eq_true (rfl:((AK l).g g).area=((AK l).g g).area)];refine⟨fun _=>bd,fun h=>h,fun _=>⟨jK,g+1,?_⟩⟩;exact(by(try dsimp only);(repeat' with_reducible apply And.intro)<;>first|with_reducible rfl|with_reducible assumption|with_reducible exact fun _=>rfl|with_reducible exact fun _ _=>rfl|with_reducible exact trivial|exact rfl|(intro _;exact rfl)|(intro _ _;exact rfl)|exact hlt|exact mu1|exact(by omega)|exact trivial|(intro _ h_;exact absurd h_ (oE _))))
theorem Adk:AB Tryz.prog 3 Adh:=AP Tryz.func3 (c:=Af Tryz.f3) (by kernel_rfl) mixed (fun args p r hs hp=>by
 unfold NN at hs;split at hs
 ·cases hs;exact⟨_,_,Adj _ _ _ hp.2,(.p (.sl hp.1) (.same _ (.same _ .nil))),⟨show Aa Tryz.prog _ from(Aa.cons Adb Adc (Aa.cons Xx Xy (Aa.cons wM wN (Aa.cons Aap Aaq (Aa.cons Z7 Z8 (Aa.cons Aad Aae (Aa.cons L8 L9 Aa.nil))))))),rfl,⟨show Ae Tryz.prog _ from Ae.nil,(AC.none (fun _=>rfl))⟩⟩⟩
 ·cases hs)
end Go.Proofs.YtdkpcdlnfobnnaaGreat
