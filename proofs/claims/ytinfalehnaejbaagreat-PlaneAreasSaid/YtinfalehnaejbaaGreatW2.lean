/- A symbolic walk over the model, and what it shows of functions of the program: parts of the proof that the text of the row joins. -/
import Derived.Test.YtinfalehnaejbaaGreatW1
import Derived.Test.YtinfalehnaejbaaGreatE4
import Derived.KernelRfl
namespace Go.Proofs.YtinfalehnaejbaaGreat
open Go.SE Go.RowKit
set_option maxRecDepth 100000
set_option maxHeartbeats 4000000
set_option linter.unusedVariables false
attribute [local irreducible] vc
def L.gcd (a b:Int):Int:=((Nat.gcd a.natAbs b.natAbs:Nat):Int)
def L.ng (x y:Nat):Nat:=Nat.gcd x y
def L.nabs (a:Int):Nat:=a.natAbs
def L.hit (d n:L.Pt):Bool:=decide (0 < d.x * n.x+d.y * n.y)
def L.free (d:L.Pt) (N:L.Sq L.Pt):Bool:=!L.anyB N.n (fun i=>L.hit d (N.g i))
def L.isNrm (p:L.Pt):Bool:=!(decide (p.x=0) && decide (p.y=0)) && (L.within p.x (-4096) 4096 && L.within p.y (-4096) 4096)
def L.nrms (N:L.Sq L.Pt):Prop:=N.n <= 1000000 /\ ∀ i,i < N.n -> L.isNrm (N.g i)=true
def L.dir (p:L.Pt) (s:Nat):L.Pt:=bif decide (s=0) then ⟨Int.tdiv (0 - p.y) (L.gcd p.x p.y),Int.tdiv p.x (L.gcd p.x p.y)⟩ else ⟨Int.tdiv p.y (L.gcd p.x p.y),Int.tdiv (0 - p.x) (L.gcd p.x p.y)⟩
def L.cand (N:L.Sq L.Pt) (c:Nat):L.Pt:=L.dir (N.g (c / 2)) (c % 2)
def L.wayI (N:L.Sq L.Pt):Int:=L.idx (2 * N.n) (fun c=>L.free (L.cand N c) N)
def L.wayOk (N:L.Sq L.Pt):Bool:=decide (N.n=0) || decide (0 <= L.wayI N)
def L.wayD (N:L.Sq L.Pt):L.Pt:=bif decide (N.n=0) then ⟨1,0⟩ else bif decide (0 <= L.wayI N) then L.cand N (L.wayI N).toNat else ⟨0,0⟩
theorem isNrm_of {p:L.Pt} (h:L.isNrm p=true):((-4096 <= p.x /\ p.x <= 4096) /\ (-4096 <= p.y /\ p.y <= 4096)) /\ 1 <= L.gcd p.x p.y /\ L.bd p:=by
 unfold L.isNrm L.within at h
 simp only [Bool.and_eq_true,Bool.not_eq_true',Bool.and_eq_false_iff,decide_eq_true_eq,decide_eq_false_iff_not] at h
 obtain ⟨h1,h2,h3⟩:=h
 have hg:0 < Nat.gcd p.x.natAbs p.y.natAbs:=by
   rcases h1 with h1 | h1
   · exact Nat.gcd_pos_of_pos_left _ (by omega)
   · exact Nat.gcd_pos_of_pos_right _ (by omega)
 refine ⟨⟨h2,h3⟩,?_,?_⟩
 · unfold L.gcd;omega
 · unfold L.bd;omega
theorem tdiv_bd {a g:Int} (h0 : -4096 <= a) (h1:a <= 4096) (hg:1 <= g) : -4096 <= Int.tdiv a g /\ Int.tdiv a g <= 4096:=by
 have h:(Int.tdiv a g).natAbs=a.natAbs / g.natAbs:=Int.natAbs_tdiv a g
 have h2:a.natAbs / g.natAbs <= a.natAbs:=Nat.div_le_self _ _
 omega
theorem cand_eq (N:L.Sq L.Pt) (g:Nat) {s:Nat} (h:s < 2):L.cand N (2 * g+s)=L.dir (N.g g) s:=by
 unfold L.cand
 rw [show (2 * g+s) / 2=g by omega,show (2 * g+s) % 2=s by omega]
theorem way_at {N:L.Sq L.Pt} {c:Nat} (h0:∀ j,j < c -> L.free (L.cand N j) N=false) (hi:L.free (L.cand N c) N=true) (hc:c < 2 * N.n):L.wayD N=L.cand N c /\ L.wayOk N=true:=by
 have e:L.wayI N=(c:Int):=idx_at (f:=fun c=>L.free (L.cand N c) N) h0 hi hc
 have hd:decide (N.n=0)=false:=decide_eq_false (by omega)
 unfold L.wayD L.wayOk
 rw [e,hd,decide_eq_true (show (0:Int) <= (c:Int) by omega)]
 exact ⟨by show L.cand N (c:Int).toNat=_;rw [Int.toNat_natCast],rfl⟩
theorem way_no {N:L.Sq L.Pt} (h1:0 < N.n) (h0:∀ j,j < 2 * N.n -> L.free (L.cand N j) N=false):L.wayD N=⟨0,0⟩ /\ L.wayOk N=false:=by
 have e:L.wayI N = -1:=idx_none (f:=fun c=>L.free (L.cand N c) N) h0
 have hd:decide (N.n=0)=false:=decide_eq_false (by omega)
 unfold L.wayD L.wayOk
 rw [e,hd]
 exact ⟨rfl,rfl⟩
theorem way_0 {N:L.Sq L.Pt} (h:N.n=0):L.wayD N=⟨1,0⟩ /\ L.wayOk N=true:=by
 unfold L.wayD L.wayOk
 rw [decide_eq_true h]
 exact ⟨rfl,rfl⟩
theorem dir_bd {p:L.Pt} (h:L.isNrm p=true) (s:Nat):L.bd (L.dir p s):=by
 obtain ⟨⟨⟨a1,a2⟩,b1,b2⟩,hg,_⟩:=isNrm_of h
 have t1:=tdiv_bd (a:=p.x) (g:=L.gcd p.x p.y) a1 a2 hg
 have t2:=tdiv_bd (a:=p.y) (g:=L.gcd p.x p.y) b1 b2 hg
 have t3:=tdiv_bd (a:=0 - p.x) (g:=L.gcd p.x p.y) (by omega) (by omega) hg
 have t4:=tdiv_bd (a:=0 - p.y) (g:=L.gcd p.x p.y) (by omega) (by omega) hg
 unfold L.dir
 cases decide (s=0)
 · unfold L.bd;simp only [cond_false];omega
 · unfold L.bd;simp only [cond_true];omega
def p_gcd_p (a:Int) (b:Int):Prop:=(-4611686018427387904 <= a /\ a <= 4611686018427387904) /\ -4611686018427387904 <= b /\ b <= 4611686018427387904
def p_gcd_r (a:Int) (b:Int):SV:=.int .i64 (L.gcd a b)
def p_gcd_s:List EV -> Option (Prop × SV)
 | [.p (.int .i64 a),.p (.int .i64 b)]=>some (p_gcd_p a b,p_gcd_r a b)
 | _=>none
abbrev p_gcd_S:SE.Spec:=(specO p_gcd_s)
def p_gcd_C:Cfg:={ muts:=[],frz:=lookN [],specs:=lookS [],loops:=fun _=>none,iters:=lookI [],rfs:=lookR [],nils:=lookM [] }
theorem p_gcd_vc (a:Int) (b:Int) (hp:p_gcd_p a b):vc Tryz.prog ({ p_gcd_C with loops:=lookL [(2,{ T:=Nat × Nat,keep:=[],keepO:=[],chg:=fun g=>[(0,.p (.int .i64 (g.1:Int))),(1,.p (.int .i64 (g.2:Int)))],own:=fun _=>[],inv:=fun g=>L.ng g.1 g.2=L.ng (L.nabs a) (L.nabs b) /\ g.1 <= 4611686018427387904 /\ g.2 <= 4611686018427387904,mu:=fun g=>g.2 })],rfs:=lookR [] }) (bodyOf Tryz.f65) (st0 Tryz.f65 [.p (.int .i64 a),.p (.int .i64 b)]) (retFn Tryz.prog Tryz.f65 (p_gcd_r a b)) :=
 @Eq.mpr _ (let A2:=(0:Int);let A1:=(4611686018427387904:Nat);InK .i64 (A2 - a) /\ InK .i64 (A2 - b) /\ (∃ (g:Nat × Nat),Max.max a (A2 - a)=(↑g.1:Int) /\ Max.max b (A2 - b)=(↑g.2:Int) /\ L.ng g.1 g.2=L.ng (L.nabs a) (L.nabs b) /\ g.1 <= A1 /\ g.2 <= A1) /\ ∀ (g:Nat × Nat),let A3:=(↑g.2:Int);L.ng g.1 g.2=L.ng (L.nabs a) (L.nabs b) /\ g.1 <= A1 /\ g.2 <= A1 -> (decide (A2 < A3)=true -> A3 ≠ A2 /\ ∃ (g':Nat × Nat),A3=(↑g'.1:Int) /\ Int.tmod (↑g.1:Int) A3=(↑g'.2:Int) /\ (L.ng g'.1 g'.2=L.ng (L.nabs a) (L.nabs b) /\ g'.1 <= A1 /\ g'.2 <= A1) /\ g'.2 < g.2) /\ (decide (A2 < A3)=false -> (↑g.1:Int)=L.gcd a b)) (by kernel_rfl) (by
 conv=>zeta
 obtain ⟨⟨a1,a2⟩,b1,b2⟩:=hp
 refine ⟨iK,iK,⟨(a.natAbs,b.natAbs),by show max a (0 - a)=((a.natAbs:Nat):Int);omega,by show max b (0 - b)=((b.natAbs:Nat):Int);omega,rfl,by show a.natAbs <= 4611686018427387904;omega,by show b.natAbs <= 4611686018427387904;omega⟩,?_⟩
 rintro ⟨x,y⟩ ⟨h1,h2,h3⟩
 have h1:Nat.gcd x y=Nat.gcd a.natAbs b.natAbs:=h1
 have h2:x <= 4611686018427387904:=h2
 have h3:y <= 4611686018427387904:=h3
 refine ⟨fun hd=>?_,fun hd=>?_⟩
 · have hd:(0:Int) < (y:Int):=of_decide_eq_true hd
   have hm:x % y < y:=Nat.mod_lt _ (by omega)
   refine ⟨by show (y:Int) ≠ 0;omega,(y,x % y),rfl,rfl,⟨?_,h3,by show x % y <= 4611686018427387904;omega⟩,hm⟩
   show Nat.gcd y (x % y)=Nat.gcd a.natAbs b.natAbs
   rw [<- h1,Nat.gcd_comm y (x % y),<- Nat.gcd_rec y x,Nat.gcd_comm y x]
 · have hd:¬ (0:Int) < (y:Int):=of_decide_eq_false hd
   obtain rfl:y=0:=by omega
   rw [Nat.gcd_zero_right] at h1
   show (x:Int)=L.gcd a b
   unfold L.gcd
   rw [h1])
theorem p_gcd_ok:SpecOk Tryz.prog 65 p_gcd_S:=fnX Tryz.func65 (c:=bodyOf Tryz.f65) (by kernel_rfl) mixed (fun args p r hs hp=>by
 unfold p_gcd_s at hs
 split at hs
 · cases hs;exact ⟨_,_,p_gcd_vc _ _ hp,(.same _ (.same _ .nil)),⟨show SpecsL Tryz.prog _ from SpecsL.nil,rfl,⟨show ItersL Tryz.prog _ from ItersL.nil,(TrsOk.none (fun _=>rfl))⟩⟩⟩
 · cases hs)
theorem p_gcd_en:Enters Tryz.prog 65:=fun args w=>by kernel_rfl
def p_free1_p (n:L.Pt) (d:L.Pt):Prop:=L.bd n /\ L.bd d
def p_free1_r (n:L.Pt) (d:L.Pt):SV:=.bool (L.hit d n)
def p_free1_s:List EV -> Option (Prop × SV)
 | [.p (.agg [.int .i64 n_x,.int .i64 n_y]),.p (.ref [.int .i64 d_x,.int .i64 d_y] 0)]=>some (p_free1_p (⟨n_x,n_y⟩:L.Pt) (⟨d_x,d_y⟩:L.Pt),p_free1_r (⟨n_x,n_y⟩:L.Pt) (⟨d_x,d_y⟩:L.Pt))
 | _=>none
abbrev p_free1_S:SE.Spec:=(specO p_free1_s)
def p_free1_C:Cfg:={ muts:=[],frz:=lookN [],specs:=lookS [],loops:=lookL [],iters:=lookI [],rfs:=lookR [],nils:=lookM [] }
theorem p_free1_vc (n:L.Pt) (d:L.Pt) (hp:p_free1_p n d):vc Tryz.prog (p_free1_C) (bodyOf Tryz.f92) (st0 Tryz.f92 [.p (.agg [.int .i64 n.x,.int .i64 n.y]),.p (.ref [.int .i64 d.x,.int .i64 d.y] 0)]) (retFn Tryz.prog Tryz.f92 (p_free1_r n d)) :=
 @Eq.mpr _ (InK .i64 (d.x * n.x) /\ InK .i64 (d.y * n.y) /\ InK .i64 (d.x * n.x+d.y * n.y) /\ decide ((0:Int) < d.x * n.x+d.y * n.y)=L.hit d n) (by kernel_rfl) (by
 obtain ⟨h1,h2⟩:=hp
 unfold L.bd at h1 h2
 have m1:=mul_bd (a:=d.x) (b:=n.x) (m:=4000000) (n:=4000000) (by omega) (by omega) (by omega) (by omega)
 have m2:=mul_bd (a:=d.y) (b:=n.y) (m:=4000000) (n:=4000000) (by omega) (by omega) (by omega) (by omega)
 exact ⟨iK,iK,iK,rfl⟩)
theorem p_free1_ok:SpecOk Tryz.prog 92 p_free1_S:=fnX Tryz.func92 (c:=bodyOf Tryz.f92) (by kernel_rfl) mixed (fun args p r hs hp=>by
 unfold p_free1_s at hs
 split at hs
 · cases hs;exact ⟨_,_,p_free1_vc _ _ hp,(.same _ (.same _ .nil)),⟨show SpecsL Tryz.prog _ from SpecsL.nil,rfl,⟨show ItersL Tryz.prog _ from ItersL.nil,(TrsOk.none (fun _=>rfl))⟩⟩⟩
 · cases hs)
theorem p_free1_en:Enters Tryz.prog 92:=fun args w=>by kernel_rfl
theorem p_free1_B:∀ args p r,p_free1_s args=some (p,r) -> ∃ b,r=.bool b:=by
 intro args p r h
 unfold p_free1_s at h
 split at h
 · cases h;exact ⟨_,rfl⟩
 · cases h
def p_free_p (d:L.Pt) (l:(L.Sq L.Pt)):Prop:=l.n <= 1000000 /\ L.bd d /\ ∀ i,i < l.n -> L.bd (l.g i)
def p_free_r (d:L.Pt) (l:(L.Sq L.Pt)):SV:=.bool (L.free d l)
def p_free_s:List EV -> Option (Prop × SV)
 | [.p (.agg [.int .i64 d_x,.int .i64 d_y]),.p (.sl 2 l_n l_g)]=>some ((∀ i,i < l_n -> l_g i = [.int .i64 ((ofPt (l_g i)).x),.int .i64 ((ofPt (l_g i)).y)]) /\ p_free_p (⟨d_x,d_y⟩:L.Pt) (⟨l_n,fun i=>ofPt (l_g i)⟩:(L.Sq L.Pt)),p_free_r (⟨d_x,d_y⟩:L.Pt) (⟨l_n,fun i=>ofPt (l_g i)⟩:(L.Sq L.Pt)))
 | _=>none
abbrev p_free_S:SE.Spec:=(specO p_free_s)
def p_free_C:Cfg:={ cC with specs:=lookS [(38,s_conFP_S),(92,p_free1_S)] }
theorem p_free_vc (d:L.Pt) (l:(L.Sq L.Pt)) (hp:p_free_p d l):vc Tryz.prog (p_free_C) (bodyOf Tryz.f66) (st0 Tryz.f66 [.p (.agg [.int .i64 d.x,.int .i64 d.y]),.p (.sl 2 l.n (fun i=>[.int .i64 ((l.g i).x),.int .i64 ((l.g i).y)]))]) (retFn Tryz.prog Tryz.f66 (p_free_r d l)) :=
 @Eq.mpr _ (let I:=SV.int .i64;let A2:=[SV.ref [I d.x,I d.y] (nat_lit 0)];let A1:=(FSpec.mk (fun («as»:List SV)=>preO p_free1_s (List.map EV.p «as» ++ List.map EV.p A2)) fun («as»:List SV)=>resO p_free1_s (List.map EV.p «as» ++ List.map EV.p A2));((∀ (i:Nat),let A3:=[I (l.g i).x,I (l.g i).y];i < l.n -> A3=A3) /\ isB A1 /\ l.n <= (1000000:Nat) /\ ∀ (i:Nat),i < l.n -> L.bd (l.g i) /\ L.bd d) /\ (!L.anyB l.n fun (i:Nat)=>L.fbl A1 [SV.agg [I (l.g i).x,I (l.g i).y]])=L.free d l) (by kernel_rfl) (by
 conv=>zeta
 obtain ⟨h1,h2,h3⟩:=hp
 exact ⟨⟨fun _ _=>rfl,isB_of p_free1_B _,h1,fun i hi=>⟨h3 i hi,h2⟩⟩,rfl⟩)
theorem p_free_ok:SpecOk Tryz.prog 66 p_free_S:=fnX Tryz.func66 (c:=bodyOf Tryz.f66) (by kernel_rfl) mixed (fun args p r hs hp=>by
 unfold p_free_s at hs
 split at hs
 · cases hs;exact ⟨_,_,p_free_vc _ _ hp.2,(.same _ (.p (.sl hp.1) .nil)),⟨show SpecsL Tryz.prog _ from (SpecsL.cons s_conFP_ok s_conFP_en (SpecsL.cons p_free1_ok p_free1_en SpecsL.nil)),rfl,⟨show ItersL Tryz.prog _ from ItersL.nil,(TrsOk.none (fun _=>rfl))⟩⟩⟩
 · cases hs)
theorem p_free_en:Enters Tryz.prog 66:=fun args w=>by kernel_rfl
def p_way_p (l:(L.Sq L.Pt)):Prop:=L.nrms l
def p_way_r (l:(L.Sq L.Pt)):SV:=.tup [.agg [.int .i64 (L.wayD l).x,.int .i64 (L.wayD l).y],.bool (L.wayOk l)]
def p_way_s:List EV -> Option (Prop × SV)
 | [.p (.sl 2 l_n l_g)]=>some ((∀ i,i < l_n -> l_g i = [.int .i64 ((ofPt (l_g i)).x),.int .i64 ((ofPt (l_g i)).y)]) /\ p_way_p (⟨l_n,fun i=>ofPt (l_g i)⟩:(L.Sq L.Pt)),p_way_r (⟨l_n,fun i=>ofPt (l_g i)⟩:(L.Sq L.Pt)))
 | _=>none
abbrev p_way_S:SE.Spec:=(specO p_way_s)
def p_way_C:Cfg:={ cC with muts:=[2,5,8],specs:=lookS [(65,p_gcd_S),(66,p_free_S)] }
theorem p_way_vc (l:(L.Sq L.Pt)) (hp:p_way_p l):vc Tryz.prog ({ p_way_C with loops:=lookL [(4,{ T:=Nat,keep:=[0,2,13,14],keepO:=[2],chg:=fun i=>[(15,.p (.int .i64 (i:Int)))],own:=fun _=>[],inv:=fun i=>i <= l.n /\ ∀ c,c < 2 * i -> L.free (L.cand l c) l=false,mu:=fun i=>l.n - i }),(8,{ T:=Nat × Nat,keep:=[0,2,5,13,14,15,45],keepO:=[2,5],tie:=fun g=>[(15,.int .i64 (g.1:Int))],chg:=fun g=>[(46,.p (.int .i64 (g.2:Int))),(44,.p (.sl 2 2 (fun s=>[.int .i64 ((L.dir (l.g g.1) s).x),.int .i64 ((L.dir (l.g g.1) s).y)])))],own:=fun _=>[],inv:=fun g=>g.1 < l.n /\ g.2 <= 2 /\ ∀ c,c < 2 * g.1+g.2 -> L.free (L.cand l c) l=false,mu:=fun g=>2 - g.2 })],rfs:=lookR [] }) (bodyOf Tryz.f39) (st0 Tryz.f39 [.p (.sl 2 l.n (fun i=>[.int .i64 ((l.g i).x),.int .i64 ((l.g i).y)]))]) (retFn Tryz.prog Tryz.f39 (p_way_r l)) :=
 @Eq.mpr _ (let I:=SV.int .i64;let T:=Int.toNat;let A14:=(4611686018427387904:Int);let A13:=(1:Int);let A12:=(-4611686018427387904:Int);let A11:=(L.Sq.mk l.n fun (i:Nat)=>l.g i);let A10:=[I (L.wayD l).x,I (L.wayD l).y];let A8:=(↑l.n:Int);let A6:=(2:Nat);let A15:=(↑A6:Int);let A3:=(0:Int);let A2:=(l.n=l.n /\ ∀ (i:Nat),let A16:=[I (l.g i).x,I (l.g i).y];i < l.n -> A16=A16);(decide (A8=A3)=true -> SV.agg [I A13,I A3]=SV.agg A10 /\ true=L.wayOk l) /\ (decide (A8=A3)=false -> (∃ (g:Nat),A3=(↑g:Int) /\ g <= l.n /\ ∀ (c:Nat),c < A6 * g -> L.free (L.cand l c) l=false) /\ ∀ (g:Nat),let A7:=(↑g:Int);let A1:=(l.g (T A7));let A5:=(L.gcd A1.x A1.y);let A19:=(Int.tdiv (A3 - A1.x) A5);let A18:=(Int.tdiv (A3 - A1.y) A5);(g <= l.n /\ ∀ (c:Nat),c < A6 * g -> L.free (L.cand l c) l=false) -> (decide (A7 < A8)=true -> (A3 <= A7 /\ A7 < A8) /\ ((A12 <= A1.x /\ A1.x <= A14) /\ A12 <= A1.y /\ A1.y <= A14) /\ InK .i64 (A3 - A1.y) /\ L.gcd A1.x A1.y ≠ A3 /\ InK .i64 A18 /\ L.gcd A1.x A1.y ≠ A3 /\ InK .i64 (Int.tdiv A1.x A5) /\ L.gcd A1.x A1.y ≠ A3 /\ InK .i64 (Int.tdiv A1.y A5) /\ InK .i64 (A3 - A1.x) /\ L.gcd A1.x A1.y ≠ A3 /\ InK .i64 A19 /\ (∃ (g_1:Nat × Nat),A3=(↑g_1.2:Int) /\ (nat_lit 2=A6 /\ ∀ (i:Nat),let A20:=(L.dir (l.g g_1.1) i);i < nat_lit 2 -> rowsOf [I A18,I (Int.tdiv A1.x A5),I (Int.tdiv A1.y A5),I A19] (nat_lit 2) i = [I A20.x,I A20.y]) /\ A7=(↑g_1.1:Int) /\ g_1.1 < l.n /\ g_1.2 <= A6 /\ ∀ (c:Nat),c < A6 * g_1.1+g_1.2 -> L.free (L.cand l c) l=false) /\ ∀ (g_1:Nat × Nat),let A9:=(↑g_1.2:Int);let A4:=(L.dir (l.g g_1.1) (T A9));(A7=(↑g_1.1:Int) /\ g_1.1 < l.n /\ g_1.2 <= A6 /\ ∀ (c:Nat),c < A6 * g_1.1+g_1.2 -> L.free (L.cand l c) l=false) -> (decide (A9 < A15)=true -> (A3 <= A9 /\ A9 < (↑(nat_lit 2):Int)) /\ ((∀ (i:Nat),let A17:=[I (l.g i).x,I (l.g i).y];i < l.n -> A17=A17) /\ l.n <= (1000000:Nat) /\ L.bd A4 /\ ∀ (i:Nat),i < l.n -> L.bd (l.g i)) /\ (L.free A4 A11=true -> SV.agg [I A4.x,I A4.y]=SV.agg A10 /\ true=L.wayOk l) /\ (L.free A4 A11=false -> InK .i64 (A9+A13) /\ ∃ (g':Nat × Nat),A9+A13=(↑g'.2:Int) /\ (nat_lit 2=A6 /\ ∀ (i:Nat),let A21:=(L.dir (l.g g_1.1) i);i < nat_lit 2 -> [I A21.x,I A21.y] = [I (L.dir (l.g g'.1) i).x,I (L.dir (l.g g'.1) i).y]) /\ A15=A15 /\ nat_lit 0=nat_lit 0 /\ A7=A7 /\ A8=A8 /\ A2 /\ nat_lit 0=nat_lit 0 /\ A2 /\ A1.x=A1.x /\ A1.y=A1.y /\ A3=A3 /\ A3=A3 /\ (A7=(↑g'.1:Int) /\ g'.1 < l.n /\ g'.2 <= A6 /\ ∀ (c:Nat),c < A6 * g'.1+g'.2 -> L.free (L.cand l c) l=false) /\ A6 - g'.2 < A6 - g_1.2)) /\ (decide (A9 < A15)=false -> InK .i64 (A7+A13) /\ ∃ (g':Nat),A7+A13=(↑g':Int) /\ A8=A8 /\ A2 /\ nat_lit 0=nat_lit 0 /\ A2 /\ A3=A3 /\ A3=A3 /\ (g' <= l.n /\ ∀ (c:Nat),c < A6 * g' -> L.free (L.cand l c) l=false) /\ l.n - g' < l.n - g)) /\ (decide (A7 < A8)=false -> SV.agg [I A3,I A3]=SV.agg A10 /\ false=L.wayOk l))) (by kernel_rfl) (by
 conv=>zeta
 obtain ⟨hn,hN⟩:=hp
 refine ⟨fun h0=>?_,fun h0=>?_⟩
 · have h0:((l.n:Nat):Int)=0:=of_decide_eq_true h0
   obtain ⟨e1,e2⟩:=way_0 (N:=l) (by omega)
   rw [e1,e2];exact ⟨rfl,rfl⟩
 have h0:¬ ((l.n:Nat):Int)=0:=of_decide_eq_false h0
 refine ⟨⟨(0:Nat),rfl,Nat.zero_le _,fun c hc=>absurd hc (Nat.not_lt_zero _)⟩,fun g hg=>⟨fun hlt=>?_,fun hge=>?_⟩⟩
 · obtain ⟨hg1,hg2⟩:=hg
   have hb:(g:Int) < (l.n:Int):=of_decide_eq_true hlt
   have e0:((g:Int)).toNat=g:=by omega
   have hgl:g < l.n:=by omega
   obtain ⟨⟨⟨a1,a2⟩,b1,b2⟩,hgc,_⟩:=isNrm_of (hN g hgl)
   have t1:=tdiv_bd (a:=(l.g g).x) (g:=L.gcd (l.g g).x (l.g g).y) a1 a2 hgc
   have t2:=tdiv_bd (a:=(l.g g).y) (g:=L.gcd (l.g g).x (l.g g).y) b1 b2 hgc
   have t3:=tdiv_bd (a:=0 - (l.g g).x) (g:=L.gcd (l.g g).x (l.g g).y) (by omega) (by omega) hgc
   have t4:=tdiv_bd (a:=0 - (l.g g).y) (g:=L.gcd (l.g g).x (l.g g).y) (by omega) (by omega) hgc
   rw [e0]
   refine ⟨⟨by omega,hb⟩,⟨⟨by omega,by omega⟩,by omega,by omega⟩,iK,by omega,iK,by omega,iK,by omega,iK,iK,by omega,iK,⟨(g,0),rfl,⟨rfl,fun i hi=>?_⟩,rfl,hgl,Nat.zero_le _,hg2⟩,fun h hh=>?_⟩
   · match i,hi with
     | 0,_=>rfl
     | 1,_=>rfl
   obtain ⟨g0,s⟩:=h
   obtain ⟨e1,q1,q2,q3⟩:=hh
   have e1:(g:Int)=(g0:Int):=e1
   obtain rfl:g=g0:=by omega
   have q2:s <= 2:=q2
   have q3:∀ c,c < 2 * g+s -> L.free (L.cand l c) l=false:=q3
   have es:((s:Int)).toNat=s:=by omega
   dsimp only
   rw [es]
   refine ⟨fun hs=>?_,fun hs=>?_⟩
   · have hs:(s:Int) < (2:Int):=of_decide_eq_true hs
     have hs2:s < 2:=by omega
     have hc:=cand_eq l g hs2
     refine ⟨⟨by omega,hs⟩,⟨fun _ _=>rfl,hn,dir_bd (hN g hgl) s,fun i hi=>(isNrm_of (hN i hi)).2.2⟩,fun hf=>?_,fun hf=>?_⟩
     · rw [<- hc] at hf
       obtain ⟨w1,w2⟩:=way_at q3 hf (by omega)
       rw [w1,w2,hc];exact ⟨rfl,rfl⟩
     · rw [<- hc] at hf
       refine ⟨iK,(g,s+1),by show (s:Int)+1=((s+1:Nat):Int);omega,⟨rfl,fun _ _=>rfl⟩,rfl,rfl,rfl,rfl,⟨rfl,fun _ _=>rfl⟩,rfl,⟨rfl,fun _ _=>rfl⟩,rfl,rfl,rfl,rfl,⟨rfl,q1,by show s+1 <= 2;omega,fun c hc'=>?_⟩,by show 2 - (s+1) < 2 - s;omega⟩
       have hc':c < 2 * g+s+1:=hc'
       rcases Nat.lt_succ_iff_lt_or_eq.1 hc' with h | rfl
       · exact q3 c h
       · exact hf
   · have hs:¬ (s:Int) < (2:Int):=of_decide_eq_false hs
     obtain rfl:s=2:=by omega
     exact ⟨iK,g+1,by omega,rfl,⟨rfl,fun _ _=>rfl⟩,rfl,⟨rfl,fun _ _=>rfl⟩,rfl,rfl,⟨by omega,fun c hc=>q3 c (by omega)⟩,by omega⟩
 · obtain ⟨hg1,hg2⟩:=hg
   have hb:¬ (g:Int) < (l.n:Int):=of_decide_eq_false hge
   obtain rfl:g=l.n:=by omega
   obtain ⟨w1,w2⟩:=way_no (N:=l) (by omega) hg2
   rw [w1,w2];exact ⟨rfl,rfl⟩)
theorem p_way_ok:SpecOk Tryz.prog 39 p_way_S:=fnX Tryz.func39 (c:=bodyOf Tryz.f39) (by kernel_rfl) mixed (fun args p r hs hp=>by
 unfold p_way_s at hs
 split at hs
 · cases hs;exact ⟨_,_,p_way_vc _ hp.2,(.p (.sl hp.1) .nil),⟨show SpecsL Tryz.prog _ from (SpecsL.cons p_gcd_ok p_gcd_en (SpecsL.cons p_free_ok p_free_en SpecsL.nil)),rfl,⟨show ItersL Tryz.prog _ from ItersL.nil,(TrsOk.none (fun _=>rfl))⟩⟩⟩
 · cases hs)
theorem p_way_en:Enters Tryz.prog 39:=fun args w=>by kernel_rfl
def p_bad_p (n:L.Pt):Prop:=True
def p_bad_r (n:L.Pt):SV:=.bool (!L.isNrm n)
def p_bad_s:List EV -> Option (Prop × SV)
 | [.p (.agg [.int .i64 n_x,.int .i64 n_y])]=>some (p_bad_p (⟨n_x,n_y⟩:L.Pt),p_bad_r (⟨n_x,n_y⟩:L.Pt))
 | _=>none
abbrev p_bad_S:SE.Spec:=(specO p_bad_s)
def p_bad_C:Cfg:={ cC with specs:=lookS [(37,p_within_S)] }
theorem p_bad_vc (n:L.Pt) (hp:p_bad_p n):vc Tryz.prog (p_bad_C) (bodyOf Tryz.f36) (st0 Tryz.f36 [.p (.agg [.int .i64 n.x,.int .i64 n.y])]) (retFn Tryz.prog Tryz.f36 (p_bad_r n)) :=
 @Eq.mpr _ (let A3:=(4096:Int);let A2:=(-4096:Int);let A1:=(0:Int);((!(decide (n.x=A1) && decide (n.y=A1)))=true -> True) /\ ((!bif decide (n.x=A1) && decide (n.y=A1) then true else !L.within n.x A2 A3)=true -> True) /\ (bif bif decide (n.x=A1) && decide (n.y=A1) then true else !L.within n.x A2 A3 then true else !L.within n.y A2 A3) = !L.isNrm n) (by kernel_rfl) (by
 conv=>zeta
 refine ⟨fun _=>trivial,fun _=>trivial,?_⟩
 unfold L.isNrm
 cases (decide (n.x=0) && decide (n.y=0)) <;> cases L.within n.x (-4096) 4096 <;> cases L.within n.y (-4096) 4096 <;> rfl)
theorem p_bad_ok:SpecOk Tryz.prog 36 p_bad_S:=fnX Tryz.func36 (c:=bodyOf Tryz.f36) (by kernel_rfl) mixed (fun args p r hs hp=>by
 unfold p_bad_s at hs
 split at hs
 · cases hs;exact ⟨_,_,p_bad_vc _ hp,(.same _ .nil),⟨show SpecsL Tryz.prog _ from (SpecsL.cons p_within_ok p_within_en SpecsL.nil),rfl,⟨show ItersL Tryz.prog _ from ItersL.nil,(TrsOk.none (fun _=>rfl))⟩⟩⟩
 · cases hs)
theorem p_bad_en:Enters Tryz.prog 36:=fun args w=>by kernel_rfl
theorem p_bad_B:∀ args p r,p_bad_s args=some (p,r) -> ∃ b,r=.bool b:=by
 intro args p r h
 unfold p_bad_s at h
 split at h
 · cases h;exact ⟨_,rfl⟩
 · cases h
end Go.Proofs.YtinfalehnaejbaaGreat
namespace Go.Proofs.YtinfalehnaejbaaGreat
open Go.SE Go.RowKit
set_option maxRecDepth 100000
set_option maxHeartbeats 4000000
set_option linter.unusedVariables false
attribute [local irreducible] vc
def L.pck (N:L.Sq L.Pt) (l:L.Sq Int):L.Sq L.Pt:=⟨l.n,fun i=>N.g (l.g i).toNat⟩
def L.snoc (l:L.Sq Int) (x:Int):L.Sq Int:=⟨l.n+1,fun i=>bif decide (i < l.n) then l.g i else x⟩
def L.nilI:L.Sq Int:=⟨0,fun _=>0⟩
def L.first (f:Nat -> Option (L.Sq Int)):Nat -> Option (L.Sq Int)
 | 0=>none
 | c+1=>match L.first f c with
   | some x=>some x
   | none=>f c
def L.grp (N:L.Sq L.Pt):Nat -> L.Sq Int -> Nat -> Option (L.Sq Int)
 | 0,l,_=>bif L.wayOk (L.pck N l) then none else some l
 | d+1,l,fr=>L.first (fun j=>L.grp N d (L.snoc l ((fr+j:Nat):Int)) (fr+j+1)) (N.n - fr)
def L.orB (o:Option (L.Sq Int)) (b:L.Sq Int):L.Sq Int:=match o with
 | some x=>x
 | none=>b
def L.isNo (o:Option (L.Sq Int)):Bool:=match o with
 | some _=>false
 | none=>true
def L.aft (N:L.Sq L.Pt) (l b:L.Sq Int):L.Sq Int:=bif L.wayOk (L.pck N l) then b else l
def L.within0 (l:L.Sq Int) (n:Nat):Prop:=∀ i,i < l.n -> 0 <= l.g i /\ l.g i < (n:Int)
def L.exF (N:L.Sq L.Pt) (j:Nat):Option (L.Sq Int):=L.grp N (3+j) L.nilI 0
def L.exL (N:L.Sq L.Pt):L.Sq Int:=L.orB (L.first (L.exF N) 22) L.nilI
def L.exBad (N:L.Sq L.Pt):Bool:=bif decide (24 < (N.n:Int)) then true else L.anyB N.n (fun i=>!L.isNrm (N.g i))
def L.exE (N:L.Sq L.Pt):Int:=bif L.exBad N then 1 else bif L.wayOk N then 0 else 13
def L.exD (N:L.Sq L.Pt):L.Pt:=bif L.exBad N then ⟨0,0⟩ else L.wayD N
def L.exN (N:L.Sq L.Pt):Nat:=bif L.exBad N then 0 else bif L.wayOk N then 0 else (L.exL N).n
theorem first_none {f:Nat -> Option (L.Sq Int)}:∀ {c:Nat},(∀ j,j < c -> f j=none) -> L.first f c=none
 | 0,_=>rfl
 | c+1,h=>by rw [L.first,first_none (c:=c) (fun j hj=>h j (by omega))];exact h c (by omega)
theorem first_none_of {f:Nat -> Option (L.Sq Int)}:∀ {c:Nat},L.first f c=none -> ∀ j,j < c -> f j=none
 | 0,_,j,hj=>absurd hj (Nat.not_lt_zero _)
 | c+1,h,j,hj=>by
   rw [L.first] at h
   cases hf:L.first f c with
   | some x=>rw [hf] at h;cases h
   | none =>
     rw [hf] at h
     rcases Nat.lt_succ_iff_lt_or_eq.1 hj with hj | rfl
     · exact first_none_of hf j hj
     · exact h
theorem first_at {f:Nat -> Option (L.Sq Int)} {j:Nat} {x:L.Sq Int} (h0:∀ i,i < j -> f i=none) (h:f j=some x):∀ {c:Nat},j < c -> L.first f c=some x
 | c+1,hc=>by
   rw [L.first]
   rcases Nat.lt_succ_iff_lt_or_eq.1 hc with hc | rfl
   · rw [first_at h0 h hc]
   · rw [first_none h0];exact h
theorem first_some {f:Nat -> Option (L.Sq Int)} {x:L.Sq Int}:∀ {c:Nat},L.first f c=some x -> ∃ j,j < c /\ f j=some x /\ ∀ i,i < j -> f i=none
 | 0,h=>by cases h
 | c+1,h=>by
   rw [L.first] at h
   cases hf:L.first f c with
   | some y =>
     rw [hf] at h
     cases h
     obtain ⟨j,h1,h2,h3⟩:=first_some hf
     exact ⟨j,by omega,h2,h3⟩
   | none =>
     rw [hf] at h
     exact ⟨c,Nat.lt_succ_self c,h,first_none_of hf⟩
theorem first_mono {f:Nat -> Option (L.Sq Int)} {x:L.Sq Int} {c m:Nat} (h:L.first f c=some x) (hm:c <= m):L.first f m=some x:=by
 obtain ⟨j,h1,h2,h3⟩:=first_some h
 exact first_at h3 h2 (by omega)
theorem grp_len {N:L.Sq L.Pt}:∀ {d:Nat} {l:L.Sq Int} {fr:Nat} {x:L.Sq Int},L.grp N d l fr=some x -> x.n=l.n+d
 | 0,l,fr,x,h=>by
   rw [L.grp] at h
   cases hw:L.wayOk (L.pck N l) with
   | true=>rw [hw] at h;cases h
   | false=>rw [hw] at h;cases h;rfl
 | d+1,l,fr,x,h=>by
   rw [L.grp] at h
   obtain ⟨j,_,h2,_⟩:=first_some h
   have:=grp_len h2
   rw [this]
   show l.n+1+d=l.n+(d+1)
   omega
theorem snoc_within {l:L.Sq Int} {n:Nat} (h:L.within0 l n) {x:Int} (h0:0 <= x) (h1:x < (n:Int)):L.within0 (L.snoc l x) n:=fun i hi=>by
 have hi:i < l.n+1:=hi
 show 0 <= (bif decide (i < l.n) then l.g i else x) /\ (bif decide (i < l.n) then l.g i else x) < (n:Int)
 by_cases h':i < l.n
 · rw [decide_eq_true h'];exact h i h'
 · rw [decide_eq_false h'];exact ⟨h0,h1⟩
theorem pick_nrms {N:L.Sq L.Pt} {l:L.Sq Int} (hN:L.nrms N) (h:L.within0 l N.n) (hn:l.n <= 1000000):L.nrms (L.pck N l):=⟨hn,fun i hi=>hN.2 _ (by have:=h i hi;omega)⟩
theorem isNo_none {o:Option (L.Sq Int)} (h:L.isNo o=true):o=none:=by
 cases o with
 | none=>rfl
 | some x=>cases h
theorem isNo_some {o:Option (L.Sq Int)} (h:L.isNo o=false):∃ x,o=some x:=by
 cases o with
 | none=>cases h
 | some x=>exact ⟨x,rfl⟩
theorem exBad_false {N:L.Sq L.Pt} (h:L.exBad N=false):N.n <= 24 /\ L.nrms N:=by
 unfold L.exBad at h
 cases hd:decide (24 < (N.n:Int)) with
 | true=>rw [hd] at h;cases h
 | false =>
   have hd:=of_decide_eq_false hd
   rw [decide_eq_false hd] at h
   refine ⟨by omega,by omega,fun i hi=>?_⟩
   cases hn:L.isNrm (N.g i) with
   | true=>rfl
   | false =>
     have:L.anyB N.n (fun i=>!L.isNrm (N.g i))=true:=anyB_iff.2 ⟨i,hi,by rw [hn];rfl⟩
     rw [this] at h;cases h
theorem wayD_no {N:L.Sq L.Pt} (h:L.wayOk N=false):L.wayD N=⟨0,0⟩:=by
 unfold L.wayOk at h
 obtain ⟨h1,h2⟩:=Bool.or_eq_false_iff.1 h
 unfold L.wayD
 rw [h1,h2];rfl
abbrev p_exit2_tr:Tr:={ T:=(L.Sq Int) × (L.Sq L.Pt) × (L.Sq Int),U:=Nat,args:=fun t=>(fun l N b=>[.p (.sl 1 l.n (fun i=>[.int .i64 (l.g i)])),.p (.ref [(.sl 2 N.n (fun i=>[.int .i64 ((N.g i).x),.int .i64 ((N.g i).y)]))] 0),.loc 1003 0]) t.1 t.2.1 t.2.2,own:=fun t=>(fun l N b=>[(1003,.blk 42 [.full false 1 (b).n (fun i=>[.int .i64 ((b).g i)])])]) t.1 t.2.1 t.2.2,pre:=fun t=>(fun l N b=>1 <= l.n /\ l.n <= 1000 /\ L.nrms N /\ L.within0 l N.n) t.1 t.2.1 t.2.2,post:=fun t u=>(fun l N b=>fun u=>True) t.1 t.2.1 t.2.2 u,own':=fun t u=>(fun l N b=>fun u=>[(1003,.blk 42 [.full false 1 (L.aft N l b).n (fun i=>[.int .i64 ((L.aft N l b).g i)])])]) t.1 t.2.1 t.2.2 u,res:=fun t u=>(fun l N b=>fun u=>.p (.bool (L.wayOk (L.pck N l)))) t.1 t.2.1 t.2.2 u }
theorem p_exit2_vc (l:L.Sq Int) (N:L.Sq L.Pt) (b:L.Sq Int) (hp:p_exit2_tr.pre (l,N,b)):vc Tryz.prog ({ muts:=[8],frz:=lookN [],specs:=lookS [(39,p_way_S)],loops:=lookL [(3,{ T:=Nat,keep:=[0,1,2,5,10,11],keepO:=[1003],chg:=fun i=>[(12,.p (.int .i64 (i:Int)))],own:=fun i=>[(20,.row 34 2 i (fun j=>[.int .i64 ((N.g (l.g j).toNat).x),.int .i64 ((N.g (l.g j).toNat).y)]))],inv:=fun i=>i <= l.n,mu:=fun i=>l.n - i })],iters:=lookI [],rfs:=lookR [],nils:=lookM [(2,[(5,20,34,2)])] }) (bodyOf Tryz.f41) (stTr Tryz.f41 (p_exit2_tr.args (l,N,b)) (p_exit2_tr.own (l,N,b))) (retTr Tryz.prog Tryz.f41 p_exit2_tr (l,N,b)) :=
 @Eq.mpr _ (let I:=SV.int .i64;let T:=Int.toNat;let A7:=(L.aft N l b);let A6:=(↑l.n:Int);let A4:=(l.n=l.n /\ ∀ (i:Nat),i < l.n -> [I (l.g i)] = [I (l.g i)]);let A2:=[SV.sl (nat_lit 2) N.n fun (i:Nat)=>[I (N.g i).x,I (N.g i).y]];(∃ (g:Nat),(0:Int)=(↑g:Int) /\ (nat_lit 0=g /\ ∀ (i:Nat),i < nat_lit 0 -> [] = [I (N.g (T (l.g i))).x,I (N.g (T (l.g i))).y]) /\ g <= l.n) /\ ∀ (g:Nat),let A3:=(↑g:Int);let A8:=(N.g (T (l.g (T A3))));let A1:=(L.Sq.mk g fun (i:Nat)=>N.g (T (l.g i)));g <= l.n -> (decide (A3 < A6)=true -> ((0:Int) <= A3 /\ A3 < A6) /\ ((0:Int) <= l.g (T A3) /\ l.g (T A3) < (↑N.n:Int)) /\ (g+nat_lit 1) * nat_lit 16 <= (140737488355328:Nat) /\ InK .i64 (A3+(1:Int)) /\ ∃ (g':Nat),A3+(1:Int)=(↑g':Int) /\ A6=A6 /\ A4 /\ A4 /\ SV.ref A2 (nat_lit 0)=SV.ref A2 (nat_lit 0) /\ nat_lit 0=nat_lit 0 /\ (g+nat_lit 1=g' /\ ∀ (i:Nat),i < g+nat_lit 1 -> appGet g (fun (j:Nat)=>[I (N.g (T (l.g j))).x,I (N.g (T (l.g j))).y]) (fun (x:Nat)=>[I A8.x,I A8.y]) i = [I (N.g (T (l.g i))).x,I (N.g (T (l.g i))).y]) /\ (b.n=b.n /\ ∀ (i:Nat),i < b.n -> [I (b.g i)] = [I (b.g i)]) /\ g' <= l.n /\ l.n - g' < l.n - g) /\ (decide (A3 < A6)=false -> ((∀ (i:Nat),let A5:=[I (N.g (T (l.g i))).x,I (N.g (T (l.g i))).y];i < g -> A5=A5) /\ L.nrms A1) /\ ((!L.wayOk A1)=true -> ∃ (u:Nat),false=L.wayOk (L.pck N l) /\ (l.n=A7.n /\ (0:Nat) < l.n /\ ∀ (i:Nat),i < l.n -> [I (l.g i)] = [I (A7.g i)]) /\ True) /\ ((!L.wayOk A1)=false -> ∃ (u:Nat),true=L.wayOk (L.pck N l) /\ (b.n=A7.n /\ ∀ (i:Nat),i < b.n -> [I (b.g i)] = [I (A7.g i)]) /\ True))) (by kernel_rfl) (by
 conv=>zeta
 have hp:1 <= l.n /\ l.n <= 1000 /\ L.nrms N /\ L.within0 l N.n:=hp
 obtain ⟨h1,h2,hN,hw⟩:=hp
 refine ⟨⟨(0:Nat),rfl,⟨rfl,fun i hi=>absurd hi (Nat.not_lt_zero _)⟩,Nat.zero_le _⟩,fun g hg=>⟨fun hlt=>?_,fun hge=>?_⟩⟩
 · have hb:(g:Int) < (l.n:Int):=of_decide_eq_true hlt
   have e0:((g:Int)).toNat=g:=by omega
   have hx:=hw g (by omega)
   rw [e0]
   refine ⟨⟨by omega,hb⟩,hx,show (g+1) * 16 <= 140737488355328 by omega,iK,g+1,by omega,rfl,⟨rfl,fun _ _=>rfl⟩,⟨rfl,fun _ _=>rfl⟩,rfl,rfl,⟨rfl,fun i hi=>?_⟩,⟨rfl,fun _ _=>rfl⟩,by omega,by omega⟩
   have hi:i < g+1:=hi
   unfold appGet
   by_cases h':i < g
   · rw [if_pos h']
   · rw [if_neg h']
     obtain rfl:i=g:=by omega
     rfl
 · have hb:¬ (g:Int) < (l.n:Int):=of_decide_eq_false hge
   obtain rfl:g=l.n:=by omega
   have e:(L.Sq.mk l.n fun (i:Nat)=>N.g (l.g i).toNat)=L.pck N l:=rfl
   rw [e]
   refine ⟨⟨fun _ _=>rfl,pick_nrms hN hw (by omega)⟩,fun hc=>?_,fun hc=>?_⟩
   · have hc:L.wayOk (L.pck N l)=false:=by simpa using (show (!L.wayOk (L.pck N l))=true from hc)
     unfold L.aft
     rw [hc];exact ⟨(0:Nat),rfl,⟨rfl,h1,fun _ _=>rfl⟩,trivial⟩
   · have hc:L.wayOk (L.pck N l)=true:=by simpa using (show (!L.wayOk (L.pck N l))=false from hc)
     unfold L.aft
     rw [hc];exact ⟨(0:Nat),rfl,⟨rfl,fun _ _=>rfl⟩,trivial⟩)
theorem p_exit2_en:Enters Tryz.prog 41:=fun args w=>by kernel_rfl
theorem p_exit2_tok:TrOk Tryz.prog 41 p_exit2_tr:=tr_ok (ks:=[1003]) (n:=3) Tryz.func41 (c:=bodyOf Tryz.f41) (by kernel_rfl) mixed ⟨fun t=>rfl,fun t=>rfl,fun t u=>rfl,fun t u=>rfl,fun t u=>rfl,by kernel_rfl⟩ (fun ⟨l,N,b⟩ hp=>⟨_,p_exit2_vc l N b hp,⟨show SpecsL Tryz.prog _ from (SpecsL.cons p_way_ok p_way_en SpecsL.nil),rfl,⟨show ItersL Tryz.prog _ from ItersL.nil,(TrsOk.none (fun _=>rfl))⟩⟩⟩)
abbrev p_more_tr:Tr:={ T:=(L.Sq Int) × (Nat) × (Nat) × (L.Sq L.Pt) × (L.Sq Int),U:=Nat,args:=fun t=>(fun l fr k N b=>[.p (.sl 1 l.n (fun i=>[.int .i64 (l.g i)])),.p (.int .i64 (fr:Int)),.p (.ref [.int .i64 (k:Int)] 0),.loc 1005 0,.p (.ref [.int .i64 (N.n:Int)] 0),.loc 1007 0]) t.1 t.2.1 t.2.2.1 t.2.2.2.1 t.2.2.2.2,own:=fun t=>(fun l fr k N b=>[(1003,.blk 42 [.full false 1 (b).n (fun i=>[.int .i64 ((b).g i)])]),(1005,.blk 79 [.cl 41 [.p (.ref [(.sl 2 N.n (fun i=>[.int .i64 ((N.g i).x),.int .i64 ((N.g i).y)]))] 0),.loc 1003 0]]),(1007,.blk 99 [.cl 67 [.p (.ref [.int .i64 (k:Int)] 0),.loc 1005 0,.p (.ref [.int .i64 (N.n:Int)] 0),.loc 1007 0]])]) t.1 t.2.1 t.2.2.1 t.2.2.2.1 t.2.2.2.2,pre:=fun t=>(fun l fr k N b=>(l.n <= k /\ 1 <= k /\ k <= 1000) /\ (fr <= N.n /\ N.n <= 1000) /\ L.nrms N /\ L.within0 l N.n) t.1 t.2.1 t.2.2.1 t.2.2.2.1 t.2.2.2.2,post:=fun t u=>(fun l fr k N b=>fun u=>True) t.1 t.2.1 t.2.2.1 t.2.2.2.1 t.2.2.2.2 u,own':=fun t u=>(fun l fr k N b=>fun u=>[(1003,.blk 42 [.full false 1 (L.orB (L.grp N (k - l.n) l fr) b).n (fun i=>[.int .i64 ((L.orB (L.grp N (k - l.n) l fr) b).g i)])]),(1005,.blk 79 [.cl 41 [.p (.ref [(.sl 2 N.n (fun i=>[.int .i64 ((N.g i).x),.int .i64 ((N.g i).y)]))] 0),.loc 1003 0]]),(1007,.blk 99 [.cl 67 [.p (.ref [.int .i64 (k:Int)] 0),.loc 1005 0,.p (.ref [.int .i64 (N.n:Int)] 0),.loc 1007 0]])]) t.1 t.2.1 t.2.2.1 t.2.2.2.1 t.2.2.2.2 u,res:=fun t u=>(fun l fr k N b=>fun u=>.p (.bool (L.isNo (L.grp N (k - l.n) l fr)))) t.1 t.2.1 t.2.2.1 t.2.2.2.1 t.2.2.2.2 u }
abbrev p_more_mu:p_more_tr.T -> Nat:=fun t=>(fun l fr k N b=>k - l.n) t.1 t.2.1 t.2.2.1 t.2.2.2.1 t.2.2.2.2
theorem p_more_vc (rn:Nat) (l:L.Sq Int) (fr:Nat) (k:Nat) (N:L.Sq L.Pt) (b:L.Sq Int) (hp:p_more_tr.pre (l,fr,k,N,b)) (hmu:k - l.n < rn+1):vc Tryz.prog ({ muts:=[],frz:=lookN [],specs:=lookS [],loops:=lookL [(4,{ T:=Nat,keep:=[0,1,2,3,4,5,8],keepO:=[1003,1005,1007],chg:=fun j=>[(9,.p (.int .i64 ((fr+j:Nat):Int)))],own:=fun _=>[],inv:=fun j=>fr+j <= N.n /\ ∀ c,c < j -> L.isNo (L.grp N (k - l.n - 1) (L.snoc l ((fr+c:Nat):Int)) (fr+c+1))=true,mu:=fun j=>N.n - (fr+j) })],iters:=lookI [],rfs:=lookR [],nils:=lookM [],trs:=lookT [(41,p_exit2_tr),(67,Tr.lt p_more_tr p_more_mu rn)],ren:=fun k=>k }) (bodyOf Tryz.f67) (stTr Tryz.f67 (p_more_tr.args (l,fr,k,N,b)) (p_more_tr.own (l,fr,k,N,b))) (retTr Tryz.prog Tryz.f67 p_more_tr (l,fr,k,N,b)) :=
  @Eq.mpr _ (let I:=SV.int .i64;let T:=Int.toNat;let A29:=(1:Int);let A28:=(1000:Nat);let A27:=(67:Nat);let A26:=(41:Nat);let A21:=[I (↑k:Int)];let A20:=(nat_lit 67);let A19:=(nat_lit 41);let A16:=(↑N.n:Int);let A15:=(1:Nat);let A25:=(k - l.n - A15);let A14:=[SV.sl (nat_lit 2) N.n fun (i:Nat)=>[I (N.g i).x,I (N.g i).y]];let A13 :=
 (0:Nat);let A11:=(↑l.n:Int);let A9:=(L.grp N (k - l.n) l fr);let A18:=(L.orB A9 b);let A7:=(nat_lit 0);let A5:=[EV.p (SV.ref [SV.sl (2:Nat) N.n fun (i:Nat)=>[I (N.g i).x,I (N.g i).y]] A13),EV.loc (1003:Nat) A13];let A3:=[EV.p (SV.ref A21 A13),EV.loc (1005:Nat) A13,EV.p (SV.ref [I A16] A13),EV.loc (1007
:Nat) A13];let A2:=[EV.p (SV.ref A14 A7),EV.loc (nat_lit 1003) A7];let A1:=[EV.p (SV.ref A21 A7),EV.loc (nat_lit 1005) A7,EV.p (SV.ref [I A16] A7),EV.loc (nat_lit 1007) A7];(decide (A11=(↑k:Int))=true -> ∃ (t:L.Sq Int × L.Sq L.Pt × L.Sq Int),let A23:=(L.aft t.2.1 t.1 t.2.2);(l.n=t.1.n /\ ∀ (i:Nat),i <
 l.n -> [I (l.g i)] = [I (t.1.g i)]) /\ SV.ref A14 A7=SV.ref [SV.sl (2:Nat) t.2.1.n fun (i:Nat)=>[I (t.2.1.g i).x,I (t.2.1.g i).y]] A13 /\ nat_lit 0=A13 /\ (b.n=t.2.2.n /\ ∀ (i:Nat),i < b.n -> [I (b.g i)] = [I (t.2.2.g i)]) /\ (A15 <= t.1.n /\ t.1.n <= A28 /\ L.nrms t.2.1 /\ L.within0 t.1 t.2.1.n) /\ ∀ (u:Nat),True -> ∃ (u:Nat),L.wayOk (L.pck t.2.1 t.1)=L.isNo A9 /\ (A23.n
 = A18.n /\ ∀ (i:Nat),i < A23.n -> [I (A23.g i)] = [I (A18.g i)]) /\ EV.cl A19 A2=EV.cl A26 A5 /\ EV.cl A20 A1=EV.cl A27 A3 /\ True) /\ (decide (A11=(↑k:Int))=false -> (∃ (g:Nat),(↑fr:Int)=(↑(fr+g):Int) /\ fr+g <= N.n /\ ∀ (c:Nat),c < g -> L.isNo (L.grp N A25 (L.snoc l (↑(fr+c):Int)) (fr+c+A15))=true) /\ ∀ (g:Nat),let A12 :=
 (↑(fr+g):Int);(fr+g <= N.n /\ ∀ (c:Nat),c < g -> L.isNo (L.grp N A25 (L.snoc l (↑(fr+c):Int)) (fr+c+A15))=true) -> (decide (A12 < A16)=true -> ((0:Int) <= A11 /\ A11 <= A11 /\ A11=A11) /\ (A13 < A15 /\ (T A11+A15) * nat_lit 8 <= (140737488355328:Nat)) /\ InK .i64 (A12+A29) /\ ∃ (t:L.Sq Int × Nat × Nat × L.Sq L.Pt × L.Sq Int),let A24:=[I
 (↑t.snd.2.1:Int)];let A30:=(SV.ref A24 A7);let A17:=[I (↑t.snd.snd.2.1.n:Int)];let A31:=(SV.ref A17 A7);let A10:=(L.grp t.snd.snd.2.1 (t.snd.2.1 - t.1.n) t.1 t.2.1);let A8:=[EV.p A30,EV.loc (1005:Nat) A7,EV.p A31,EV.loc (1007:Nat) A7];let A6:=(SV.ref [SV.sl (nat_lit 2) t.snd.snd.2.1.n fun (i:Nat)=>[I (t.snd.snd.2.1.g
 i).x,I (t.snd.snd.2.1.g i).y]] A7);let A22:=[EV.p A6,EV.loc (1003:Nat) A7];let A4:=(L.orB A10 t.snd.snd.2.2);(T A11+A15=t.1.n /\ ∀ (i:Nat),i < T A11+A15 -> appGet (T A11) (fun (i:Nat)=>[I (l.g i)]) (fun (x:Nat)=>[I A12]) i = [I (t.1.g i)]) /\ A12+A29=(↑t.2.1:Int) /\ SV.ref A21 A7=SV.ref A24 A13 /\ nat_lit 0=A13 /\ SV.ref [I A16] A7
 = SV.ref A17 A13 /\ nat_lit 0=A13 /\ (b.n=t.snd.snd.2.2.n /\ ∀ (i:Nat),i < b.n -> [I (b.g i)] = [I (t.snd.snd.2.2.g i)]) /\ EV.cl A19 A2=EV.cl A26 [EV.p A6,EV.loc (nat_lit 1003) A7] /\ EV.cl A20 A1=EV.cl A27 [EV.p A30,EV.loc (nat_lit 1005) A7,EV.p A31,EV.loc (nat_lit 1007) A7] /\ (((t.1.n <= t.snd.2.1 /\ A15 <= t.snd.2.1 /\
 t.snd.2.1 <= A28) /\ (t.2.1 <= t.snd.snd.2.1.n /\ t.snd.snd.2.1.n <= A28) /\ L.nrms t.snd.snd.2.1 /\ L.within0 t.1 t.snd.snd.2.1.n) /\ t.snd.2.1 - t.1.n < rn) /\ ∀ (u:Nat),True -> ((!L.isNo A10)=true -> ∃ (u:Nat),false=L.isNo A9 /\ (A4.n=A18.n /\ ∀ (i:Nat),i < A4.n -> [I (A4.g i)] = [I (A18.g i)]) /\ EV.cl A19 A22=EV.cl A26 A5 /\ EV.cl A20 A8=EV.cl A27 A3 /\
 True) /\ ((!L.isNo A10)=false -> InK .i64 (A12+A29) /\ ∃ (g':Nat),A12+A29=(↑(fr+g'):Int) /\ false=false /\ (l.n=l.n /\ ∀ (i:Nat),i < l.n -> [I (l.g i)] = [I (l.g i)]) /\ (↑fr:Int)=(↑fr:Int) /\ SV.ref A21 A7=SV.ref A21 A7 /\ nat_lit 0=nat_lit 0 /\ SV.ref [I A16] A7=SV.ref [I A16] A7 /\ nat_lit 0=nat_lit 0 /\ (A4.n=b.n /\
 ∀ (i:Nat),i < A4.n -> [I (A4.g i)] = [I (b.g i)]) /\ EV.cl A19 A22=EV.cl A19 A2 /\ EV.cl A20 A8=EV.cl A20 A1 /\ (fr+g' <= N.n /\ ∀ (c:Nat),c < g' -> L.isNo (L.grp N A25 (L.snoc l (↑(fr+c):Int)) (fr+c+A15))=true) /\ N.n - (fr+g') < N.n - (fr+g))) /\ (decide (A12 < A16)=false -> ∃ (u:Nat),true=L.isNo A9 /\ (b.n=A18.n /\ ∀ (i :
 Nat),i < b.n -> [I (b.g i)] = [I (A18.g i)]) /\ EV.cl A19 A2=EV.cl A26 A5 /\ EV.cl A20 A1=EV.cl A27 A3 /\ True))) (by kernel_rfl) (by
    conv=>zeta
    have hp:(l.n <= k /\ 1 <= k /\ k <= 1000) /\ (fr <= N.n /\ N.n <= 1000) /\ L.nrms N /\ L.within0 l N.n:=hp
    obtain ⟨⟨k1,k2,k3⟩,⟨f1,f2⟩,hN,hw⟩:=hp
    have hmu:k - l.n < rn+1:=hmu
    refine ⟨fun he=>?_,fun hne=>?_⟩
    · have he:((l.n:Nat):Int)=(k:Int):=of_decide_eq_true he
      have e0:k - l.n=0:=by omega
      have hR:L.isNo (L.grp N (k - l.n) l fr)=L.wayOk (L.pck N l):=by
        rw [e0,L.grp];cases L.wayOk (L.pck N l) <;> rfl
      have hA:L.orB (L.grp N (k - l.n) l fr) b=L.aft N l b:=by
        rw [e0,L.grp];unfold L.aft;cases L.wayOk (L.pck N l) <;> rfl
      rw [hR,hA]
      exact ⟨(l,N,b),⟨rfl,fun _ _=>rfl⟩,rfl,rfl,⟨rfl,fun _ _=>rfl⟩,⟨by show 1 <= l.n;omega,by show l.n <= 1000;omega,hN,hw⟩,fun u _=>⟨(0:Nat),rfl,⟨rfl,fun _ _=>rfl⟩,rfl,rfl,trivial⟩⟩
    · have hne:¬ ((l.n:Nat):Int)=(k:Int):=of_decide_eq_false hne
      have hG:L.grp N (k - l.n) l fr=L.first (fun j=>L.grp N (k - l.n - 1) (L.snoc l ((fr+j:Nat):Int)) (fr+j+1)) (N.n - fr):=by
        obtain ⟨d,hd⟩:∃ d,k - l.n=d+1:=⟨k - l.n - 1,by omega⟩
        rw [hd];rfl
      rw [hG]
      refine ⟨⟨(0:Nat),rfl,f1,fun c hc=>absurd hc (Nat.not_lt_zero _)⟩,fun g hg=>⟨fun hlt=>?_,fun hge=>?_⟩⟩
      · obtain ⟨g1,g2⟩:=hg
        have hb:((fr+g:Nat):Int) < (N.n:Int):=of_decide_eq_true hlt
        have e1:((l.n:Nat):Int).toNat=l.n:=by omega
        have none:∀ c,c < g -> L.grp N (k - l.n - 1) (L.snoc l ((fr+c:Nat):Int)) (fr+c+1)=none:=fun c hc=>isNo_none (g2 c hc)
        rw [e1]
        refine ⟨⟨by omega,by omega,rfl⟩,⟨by decide,show (l.n+1) * 8 <= 140737488355328 by omega⟩,iK,(L.snoc l ((fr+g:Nat):Int),fr+g+1,k,N,b),⟨rfl,fun i hi=>?_⟩,by show ((fr+g:Nat):Int)+1=((fr+g+1:Nat):Int);omega,rfl,rfl,rfl,rfl,⟨rfl,fun _ _=>rfl⟩,rfl,rfl,⟨⟨⟨by show l.n+1 <= k;omega,k2,k3⟩,⟨by show fr+g+1 <= N.n;omega,f2⟩,hN,snoc_within hw (by omega) hb⟩,by show k - (l.n+1) < rn;omega⟩,fun u _=>?_⟩
        · have hi:i < l.n+1:=hi
          show appGet l.n _ _ i = [SV.int .i64 (bif decide (i < l.n) then l.g i else ((fr+g:Nat):Int))]
          unfold appGet
          by_cases h':i < l.n
          · rw [if_pos h',decide_eq_true h'];rfl
          · rw [if_neg h',decide_eq_false h'];rfl
        · have hF:L.grp N (k - (L.snoc l ((fr+g:Nat):Int)).n) (L.snoc l ((fr+g:Nat):Int)) (fr+g+1)=L.grp N (k - l.n - 1) (L.snoc l ((fr+g:Nat):Int)) (fr+g+1):=rfl
          dsimp only
          rw [hF]
          refine ⟨fun hc=>?_,fun hc=>?_⟩
          · have hc:L.isNo (L.grp N (k - l.n - 1) (L.snoc l ((fr+g:Nat):Int)) (fr+g+1))=false:=by simpa using (show (!L.isNo (L.grp N (k - l.n - 1) (L.snoc l ((fr+g:Nat):Int)) (fr+g+1)))=true from hc)
            obtain ⟨x,hx⟩:=isNo_some hc
            have hf:=first_at (f:=fun j=>L.grp N (k - l.n - 1) (L.snoc l ((fr+j:Nat):Int)) (fr+j+1)) none hx (c:=N.n - fr) (by omega)
            rw [hf,hx]
            exact ⟨(0:Nat),rfl,⟨rfl,fun _ _=>rfl⟩,rfl,rfl,trivial⟩
          · have hc:L.isNo (L.grp N (k - l.n - 1) (L.snoc l ((fr+g:Nat):Int)) (fr+g+1))=true:=by simpa using (show (!L.isNo (L.grp N (k - l.n - 1) (L.snoc l ((fr+g:Nat):Int)) (fr+g+1)))=false from hc)
            have hx:=isNo_none hc
            rw [hx]
            refine ⟨iK,g+1,by omega,rfl,⟨rfl,fun _ _=>rfl⟩,rfl,rfl,rfl,rfl,rfl,⟨rfl,fun _ _=>rfl⟩,rfl,rfl,⟨by omega,fun c hcc=>?_⟩,by omega⟩
            rcases Nat.lt_succ_iff_lt_or_eq.1 hcc with h | rfl
            · exact g2 c h
            · exact hc
      · obtain ⟨g1,g2⟩:=hg
        have hb:¬ ((fr+g:Nat):Int) < (N.n:Int):=of_decide_eq_false hge
        have hf:L.first (fun j=>L.grp N (k - l.n - 1) (L.snoc l ((fr+j:Nat):Int)) (fr+j+1)) (N.n - fr)=none:=first_none (fun j hj=>isNo_none (g2 j (by omega)))
        rw [hf]
        exact ⟨(0:Nat),rfl,⟨rfl,fun _ _=>rfl⟩,rfl,rfl,trivial⟩)
theorem p_more_en:Enters Tryz.prog 67:=fun args w=>by kernel_rfl
theorem p_more_tok:TrOk Tryz.prog 67 p_more_tr:=tr_rec p_more_mu (fun t u=>rfl) (fun rn ih=>tr_ok (ks:=[1003,1005,1007]) (n:=6) Tryz.func67 (c:=bodyOf Tryz.f67) (by kernel_rfl) mixed ⟨fun t=>rfl,fun t=>rfl,fun t u=>rfl,fun t u=>rfl,fun t u=>rfl,by kernel_rfl⟩ (fun ⟨l,fr,k,N,b⟩ hp=>⟨_,p_more_vc rn l fr k N b hp.1 hp.2,⟨show SpecsL Tryz.prog _ from SpecsL.nil,rfl,⟨show ItersL Tryz.prog _ from ItersL.nil,(show TrsL Tryz.prog _ from (TrsL.cons p_exit2_tok p_exit2_en (TrsL.cons ih p_more_en TrsL.nil)))⟩⟩⟩))
abbrev p_groups_tr:Tr:={ T:=(Nat) × (L.Sq L.Pt) × (L.Sq Int),U:=Nat,args:=fun t=>(fun k N b=>[.p (.int .i64 (N.n:Int)),.p (.int .i64 (k:Int)),.cl 41 [.p (.ref [(.sl 2 N.n (fun i=>[.int .i64 ((N.g i).x),.int .i64 ((N.g i).y)]))] 0),.loc 1003 0]]) t.1 t.2.1 t.2.2,own:=fun t=>(fun k N b=>[(1003,.blk 42 [.full false 1 (b).n (fun i=>[.int .i64 ((b).g i)])])]) t.1 t.2.1 t.2.2,pre:=fun t=>(fun k N b=>(1 <= k /\ k <= 1000) /\ N.n <= 1000 /\ L.nrms N) t.1 t.2.1 t.2.2,post:=fun t u=>(fun k N b=>fun u=>True) t.1 t.2.1 t.2.2 u,own':=fun t u=>(fun k N b=>fun u=>[(1003,.blk 42 [.full false 1 (L.orB (L.grp N k L.nilI 0) b).n (fun i=>[.int .i64 ((L.orB (L.grp N k L.nilI 0) b).g i)])])]) t.1 t.2.1 t.2.2 u,res:=fun t u=>(fun k N b=>fun u=>.p (.bool (L.isNo (L.grp N k L.nilI 0)))) t.1 t.2.1 t.2.2 u }
theorem p_groups_vc (k:Nat) (N:L.Sq L.Pt) (b:L.Sq Int) (hp:p_groups_tr.pre (k,N,b)):vc Tryz.prog ({ cC with muts:=[5,7],trs:=lookT [(67,p_more_tr)],ren:=fun k=>bif k == 1003 then 1003 else k - 1000 }) (bodyOf Tryz.f40) (stTr Tryz.f40 (p_groups_tr.args (k,N,b)) (p_groups_tr.own (k,N,b))) (retTr Tryz.prog Tryz.f40 p_groups_tr (k,N,b)) :=
 @Eq.mpr _ (let I:=SV.int .i64;let A7:=(0:Nat);let A6:=(1000:Nat);let A4:=(1003:Nat);let A3:=(L.grp N k L.nilI A7);let A2:=(nat_lit 0);∃ (t:L.Sq Int × Nat × Nat × L.Sq L.Pt × L.Sq Int),let A9:=[I (↑t.snd.2.1:Int)];let A8:=[I (↑t.snd.snd.2.1.n:Int)];let A1:=(L.grp t.snd.snd.2.1 (t.snd.2.1 - t.1.n) t.1 t.2.1);let A5:=(L.orB A1 t.snd.snd.2.2);t.1.n=A7 /\ (0:Int)=(↑t.2.1:Int) /\ SV.ref [I (↑k:Int)] A2=SV.ref A9 A7 /\ nat_lit 0=A7 /\ SV.ref [I (↑N.n:Int)] A2=SV.ref A8 A7 /\ nat_lit 0=A7 /\ (b.n=t.snd.snd.2.2.n /\ ∀ (i:Nat),i < b.n -> [I (b.g i)] = [I (t.snd.snd.2.2.g i)]) /\ EV.cl (nat_lit 41) [EV.p (SV.ref [SV.sl (nat_lit 2) N.n fun (i:Nat)=>[I (N.g i).x,I (N.g i).y]] A2),EV.loc (nat_lit 1003) A2]=EV.cl (41:Nat) [EV.p (SV.ref [SV.sl (nat_lit 2) t.snd.snd.2.1.n fun (i:Nat)=>[I (t.snd.snd.2.1.g i).x,I (t.snd.snd.2.1.g i).y]] A2),EV.loc (bif nat_lit 1003 == A4 then A4 else nat_lit 1003 - A6) A2] /\ EV.cl (nat_lit 67) [EV.p (SV.ref [I (↑k:Int)] A2),EV.loc (nat_lit 5) A2,EV.p (SV.ref [I (↑N.n:Int)] A2),EV.loc (nat_lit 7) A2]=EV.cl (67:Nat) [EV.p (SV.ref A9 A2),EV.loc (bif nat_lit 1005 == A4 then A4 else nat_lit 1005 - A6) A2,EV.p (SV.ref A8 A2),EV.loc (bif nat_lit 1007 == A4 then A4 else nat_lit 1007 - A6) A2] /\ ((t.1.n <= t.snd.2.1 /\ (1:Nat) <= t.snd.2.1 /\ t.snd.2.1 <= A6) /\ (t.2.1 <= t.snd.snd.2.1.n /\ t.snd.snd.2.1.n <= A6) /\ L.nrms t.snd.snd.2.1 /\ L.within0 t.1 t.snd.snd.2.1.n) /\ ∀ (u:Nat),True -> ∃ (u:Nat),L.isNo A1=L.isNo A3 /\ (A5.n=(L.orB A3 b).n /\ ∀ (i:Nat),i < A5.n -> [I (A5.g i)] = [I ((L.orB A3 b).g i)]) /\ True) (by kernel_rfl) (by
 conv=>zeta
 have hp:(1 <= k /\ k <= 1000) /\ N.n <= 1000 /\ L.nrms N:=hp
 obtain ⟨⟨k1,k2⟩,hn,hN⟩:=hp
 exact ⟨(L.nilI,0,k,N,b),rfl,rfl,rfl,rfl,rfl,rfl,⟨rfl,fun _ _=>rfl⟩,rfl,rfl,⟨⟨Nat.zero_le _,k1,k2⟩,⟨Nat.zero_le _,hn⟩,hN,fun i hi=>absurd hi (Nat.not_lt_zero _)⟩,fun u _=>⟨(0:Nat),rfl,⟨rfl,fun _ _=>rfl⟩,trivial⟩⟩)
theorem p_groups_en:Enters Tryz.prog 40:=fun args w=>by kernel_rfl
theorem p_groups_tok:TrOk Tryz.prog 40 p_groups_tr:=tr_ok (ks:=[1003]) (n:=3) Tryz.func40 (c:=bodyOf Tryz.f40) (by kernel_rfl) mixed ⟨fun t=>rfl,fun t=>rfl,fun t u=>rfl,fun t u=>rfl,fun t u=>rfl,by kernel_rfl⟩ (fun ⟨k,N,b⟩ hp=>⟨_,p_groups_vc k N b hp,⟨show SpecsL Tryz.prog _ from SpecsL.nil,rfl,⟨show ItersL Tryz.prog _ from ItersL.nil,(show TrsL Tryz.prog _ from (TrsL.cons p_more_tok p_more_en TrsL.nil))⟩⟩⟩)
def p_Exit_p (l:(L.Sq L.Pt)):Prop:=l.n <= 9223372036854775807 /\ (L.exBad l=false -> L.wayOk l=false -> L.isNo (L.first (L.exF l) 22)=false)
def p_Exit_r (l:(L.Sq L.Pt)):SV:=.tup [.agg [.int .i64 (L.exD l).x,.int .i64 (L.exD l).y],.sl 1 (L.exN l) (fun i=>[.int .i64 ((L.exL l).g i)]),.int .i64 (L.exE l)]
def p_Exit_s:List EV -> Option (Prop × SV)
 | [.p (.sl 2 l_n l_g)]=>some ((∀ i,i < l_n -> l_g i = [.int .i64 ((ofPt (l_g i)).x),.int .i64 ((ofPt (l_g i)).y)]) /\ p_Exit_p (⟨l_n,fun i=>ofPt (l_g i)⟩:(L.Sq L.Pt)),p_Exit_r (⟨l_n,fun i=>ofPt (l_g i)⟩:(L.Sq L.Pt)))
 | _=>none
abbrev p_Exit_S:SE.Spec:=(specO p_Exit_s)
def p_Exit_C:Cfg:={ cC with muts:=[2,3,6],specs:=lookS [(38,s_conFP_S),(36,p_bad_S),(39,p_way_S)],anys:=[11],trs:=lookT [(40,p_groups_tr)],ren:=fun k=>k - 1000 }
theorem p_Exit_vc (l:(L.Sq L.Pt)) (hp:p_Exit_p l):vc Tryz.prog ({ p_Exit_C with loops:=lookL [(8,{ T:=Nat,keep:=[1,2,3],keepO:=[2],chg:=fun j=>[(8,.p (.int .i64 ((3+j:Nat):Int)))],own:=fun j=>[(3,.blk 42 [.full false 1 (L.orB (L.first (L.exF l) j) L.nilI).n (fun i=>[.int .i64 ((L.orB (L.first (L.exF l) j) L.nilI).g i)])])],inv:=fun j=>j <= 22,mu:=fun j=>23 - j })],rfs:=lookR [] }) (bodyOf Tryz.f14) (st0 Tryz.f14 [.p (.sl 2 l.n (fun i=>[.int .i64 ((l.g i).x),.int .i64 ((l.g i).y)]))]) (retFn Tryz.prog Tryz.f14 (p_Exit_r l)) :=
  @Eq.mpr _ (let I:=SV.int .i64;let A19:=(1000:Nat);let A18:=(↑l.n:Int);let A16:=(0:Nat);let A13:=(nat_lit 0);let A11:=(0:Int);let A15:=[I A11,I A11];let A10:=(∀ (i:Nat),let A17:=[I (l.g i).x,I (l.g i).y];i < l.n -> A17=A17);let A7:=[I (L.exD l).x,I (L.exD l).y];let A6:=(L.Sq.mk l.n fun (i:Nat)=>l.g i);let A5:=[SV.sl (nat_lit 2) l.n fun
 (i:Nat)=>[I (l.g i).x,I (l.g i).y]];let A2:=(FSpec.mk (fun («as»:List SV)=>preO p_bad_s (List.map EV.p «as» ++ List.map EV.p [])) fun («as»:List SV)=>resO p_bad_s (List.map EV.p «as» ++ List.map EV.p []));let A4:=(bif decide ((24:Int) < A18) then true else L.anyB l.n fun (i:Nat)=>L.fbl A2 [SV.agg [I
 (l.g i).x,I (l.g i).y]]);((!decide ((24:Int) < A18))=true -> A10 /\ isB A2 /\ l.n <= (1000000:Nat) /\ ∀ (i:Nat),i < l.n -> True) /\ (A4=true -> SV.agg A15=SV.agg A7 /\ L.exN l=A16 /\ (1:Int)=L.exE l) /\ (A4=false -> (A10 /\ L.nrms A6) /\ (L.wayOk A6=true -> SV.agg [I (L.wayD A6).x,I (L.wayD A6).y]=SV.agg A7 /\ L.exN l=A16 /\
 A11=L.exE l) /\ (L.wayOk A6=false -> (∃ (g:Nat),(3:Int)=(↑((3:Nat)+g):Int) /\ (L.orB (L.first (L.exF l) g) L.nilI).n=A16 /\ g <= (22:Nat)) /\ ∀ (g:Nat),let A12:=(↑((3:Nat)+g):Int);let A1:=(L.orB (L.first (L.exF l) g) L.nilI);let A8:=(bif false then !decide (A1.n=A16) else decide (A1.n=A16));let A3:=(A1.n=L.exN l /\ ∀ (i:Nat),
 i < A1.n -> [I (A1.g i)] = [I ((L.exL l).g i)]);g <= (22:Nat) -> (A8=true -> ∃ (t:Nat × L.Sq L.Pt × L.Sq Int),let A9:=(L.orB (L.grp t.2.1 t.1 L.nilI A16) t.2.2);A18=(↑t.2.1.n:Int) /\ A12=(↑t.1:Int) /\ EV.cl (nat_lit 41) [EV.p (SV.ref A5 A13),EV.loc (nat_lit 3) A13]=EV.cl (41:Nat) [EV.p (SV.ref [SV.sl (nat_lit 2) t.2.1.n fun (i
:Nat)=>[I (t.2.1.g i).x,I (t.2.1.g i).y]] A13),EV.loc (nat_lit 1003 - A19) A13] /\ (A1.n=t.2.2.n /\ ∀ (i:Nat),i < A1.n -> [I (A1.g i)] = [I (t.2.2.g i)]) /\ (((1:Nat) <= t.1 /\ t.1 <= A19) /\ t.2.1.n <= A19 /\ L.nrms t.2.1) /\ ∀ (u:Nat),True -> InK .i64 (A12+(1:Int)) /\ ∃ (g':Nat),let A14:=(L.orB (L.first (L.exF l) g') L.nilI);A12+(1:Int)=(↑((3:Nat)+g') :
 Int) /\ nat_lit 0=nat_lit 0 /\ nat_lit 0=nat_lit 0 /\ SV.ref A5 A13=SV.ref A5 A13 /\ (A9.n=A14.n /\ ∀ (i:Nat),i < A9.n -> [I (A9.g i)] = [I (A14.g i)]) /\ A11=A11 /\ A11=A11 /\ g' <= (22:Nat) /\ (23:Nat) - g' < (23:Nat) - g) /\ (A8=false -> ((SV.agg A15=SV.agg A7 /\ A3 /\ (13:Int)=L.exE l) /\ SV.agg A15=SV.agg A7 /\ A3 /\ (13:Int)=L.exE l)
 /\ SV.agg A15=SV.agg A7 /\ A3 /\ (13:Int)=L.exE l)))) (by kernel_rfl) (by
    conv=>zeta
    obtain ⟨hn,hex⟩:=hp
    refine ⟨fun h0=>⟨fun _ _=>rfl,isB_of p_bad_B _,by have:=of_decide_eq_false (notT h0);omega,fun _ _=>trivial⟩,fun h=>?_,fun h=>?_⟩
    · have hb:L.exBad l=true:=h
      unfold L.exD L.exN L.exE
      rw [hb];exact ⟨rfl,rfl,rfl⟩
    have hb:L.exBad l=false:=h
    obtain ⟨h24,hN⟩:=exBad_false hb
    refine ⟨⟨fun _ _=>rfl,hN⟩,fun hw=>?_,fun hw=>?_⟩
    · unfold L.exD L.exN L.exE
      rw [hb,hw];exact ⟨rfl,rfl,rfl⟩
    have hsm:=hex hb hw
    have hD:L.exD l=⟨0,0⟩:=by unfold L.exD;rw [hb];exact wayD_no hw
    have hE:L.exE l=13:=by unfold L.exE;rw [hb,hw];rfl
    have hNn:L.exN l=(L.exL l).n:=by unfold L.exN;rw [hb,hw];rfl
    refine ⟨⟨(0:Nat),rfl,rfl,Nat.zero_le _⟩,fun g hg=>⟨fun hc=>?_,fun hc=>?_⟩⟩
    · have hc:(L.orB (L.first (L.exF l) g) L.nilI).n=0:=of_decide_eq_true hc
      have hno:L.first (L.exF l) g=none:=by
        cases hf:L.first (L.exF l) g with
        | none=>rfl
        | some x =>
          rw [hf] at hc
          have hc:x.n=0:=hc
          obtain ⟨j,_,hj,_⟩:=first_some hf
          have:x.n=0+(3+j):=grp_len hj
          omega
      have hg22:g ≠ 22:=fun e=>by
        rw [e] at hno;rw [hno] at hsm;cases hsm
      have e1:L.first (L.exF l) (g+1)=L.exF l g:=by rw [L.first,hno]
      refine ⟨(3+g,l,L.orB (L.first (L.exF l) g) L.nilI),rfl,rfl,rfl,⟨rfl,fun _ _=>rfl⟩,⟨⟨by show 1 <= 3+g;omega,by show 3+g <= 1000;omega⟩,by show l.n <= 1000;omega,hN⟩,fun u _=>⟨iK,g+1,by omega,rfl,rfl,rfl,?_,rfl,rfl,by omega,by omega⟩⟩
      rw [e1,hno]
      exact ⟨rfl,fun _ _=>rfl⟩
    · have hc:¬ (L.orB (L.first (L.exF l) g) L.nilI).n=0:=of_decide_eq_false hc
      have hsom:L.orB (L.first (L.exF l) g) L.nilI=L.exL l:=by
        cases hf:L.first (L.exF l) g with
        | none=>rw [hf] at hc;exact absurd rfl hc
        | some x =>
          unfold L.exL
          rw [first_mono hf hg]
      rw [hsom,hD,hE,hNn]
      exact ⟨⟨⟨rfl,⟨rfl,fun _ _=>rfl⟩,rfl⟩,⟨rfl,⟨rfl,fun _ _=>rfl⟩,rfl⟩⟩,⟨rfl,⟨rfl,fun _ _=>rfl⟩,rfl⟩⟩)
theorem p_Exit_ok:SpecOk Tryz.prog 14 p_Exit_S:=fnX Tryz.func14 (c:=bodyOf Tryz.f14) (by kernel_rfl) mixed (fun args p r hs hp=>by
 unfold p_Exit_s at hs
 split at hs
 · cases hs;exact ⟨_,_,p_Exit_vc _ hp.2,(.p (.sl hp.1) .nil),⟨show SpecsL Tryz.prog _ from (SpecsL.cons s_conFP_ok s_conFP_en (SpecsL.cons p_bad_ok p_bad_en (SpecsL.cons p_way_ok p_way_en SpecsL.nil))),rfl,⟨show ItersL Tryz.prog _ from ItersL.nil,(show TrsL Tryz.prog _ from (TrsL.cons p_groups_tok p_groups_en TrsL.nil))⟩⟩⟩
 · cases hs)
theorem p_Exit_en:Enters Tryz.prog 14:=fun args w=>by kernel_rfl
end Go.Proofs.YtinfalehnaejbaaGreat
namespace Go.Proofs.YtinfalehnaejbaaGreat
open Go.SE Go.RowKit
set_option maxRecDepth 100000
set_option maxHeartbeats 4000000
set_option linter.unusedVariables false
attribute [local irreducible] vc
def p_Area_p (l:(L.Sq L.Pt)):Prop:=l.n <= 1000000
def p_Area_r (l:(L.Sq L.Pt)):SV:=.tup [.int .i64 (bif L.validOutline l then L.areaTo l l.n else 0),.int .i64 (bif L.validOutline l then 0 else 1)]
def p_Area_s:List EV -> Option (Prop × SV)
 | [.p (.sl 2 l_n l_g)]=>some ((∀ i,i < l_n -> l_g i = [.int .i64 ((ofPt (l_g i)).x),.int .i64 ((ofPt (l_g i)).y)]) /\ p_Area_p (⟨l_n,fun i=>ofPt (l_g i)⟩:(L.Sq L.Pt)),p_Area_r (⟨l_n,fun i=>ofPt (l_g i)⟩:(L.Sq L.Pt)))
 | _=>none
abbrev p_Area_S:SE.Spec:=(specO p_Area_s)
def p_Area_C:Cfg:={ cC with specs:=lookS [(15,p_ValidOutline_S),(16,p_area_S)] }
theorem p_Area_vc (l:(L.Sq L.Pt)) (hp:p_Area_p l):vc Tryz.prog (p_Area_C) (bodyOf Tryz.f5) (st0 Tryz.f5 [.p (.sl 2 l.n (fun i=>[.int .i64 ((l.g i).x),.int .i64 ((l.g i).y)]))]) (retFn Tryz.prog Tryz.f5 (p_Area_r l)) :=
 @Eq.mpr _ (let I:=SV.int .i64;let A3:=(0:Int);let A2:=(∀ (i:Nat),let A4:=[I (l.g i).x,I (l.g i).y];i < l.n -> A4=A4);let A1:=(L.Sq.mk l.n fun (i:Nat)=>l.g i);(A2 /\ l.n <= (1000000:Nat)) /\ ((!L.validOutline A1)=true -> (A3=bif L.validOutline l then L.areaTo l l.n else A3) /\ (1:Int)=bif L.validOutline l then A3 else (1:Int)) /\ ((!L.validOutline A1)=false -> (A2 /\ L.small A1) /\ (L.areaTo A1 l.n=bif L.validOutline l then L.areaTo l l.n else A3) /\ A3=bif L.validOutline l then A3 else (1:Int))) (by kernel_rfl) (by
 conv=>zeta
 have hn:l.n <= 1000000:=hp
 refine ⟨⟨fun _ _=>rfl,hn⟩,fun h=>?_,fun h=>?_⟩
 · have hv:L.validOutline l=false:=by simpa using (show (!L.validOutline l)=true from h)
   rw [hv];exact ⟨rfl,rfl⟩
 · have hv:L.validOutline l=true:=by simpa using (show (!L.validOutline l)=false from h)
   rw [hv];exact ⟨⟨fun _ _=>rfl,(validOutline_of hv).2.2.1⟩,rfl,rfl⟩)
theorem p_Area_ok:SpecOk Tryz.prog 5 p_Area_S:=fnX Tryz.func5 (c:=bodyOf Tryz.f5) (by kernel_rfl) mixed (fun args p r hs hp=>by
 unfold p_Area_s at hs
 split at hs
 · cases hs;exact ⟨_,_,p_Area_vc _ hp.2,(.p (.sl hp.1) .nil),⟨show SpecsL Tryz.prog _ from (SpecsL.cons p_ValidOutline_ok p_ValidOutline_en (SpecsL.cons p_area_ok p_area_en SpecsL.nil)),rfl,⟨show ItersL Tryz.prog _ from ItersL.nil,(TrsOk.none (fun _=>rfl))⟩⟩⟩
 · cases hs)
theorem p_Area_en:Enters Tryz.prog 5:=fun args w=>by kernel_rfl
def p_Turn_p (a:L.Pt) (b:L.Pt) (c:L.Pt):Prop:=True
def p_Turn_r (a:L.Pt) (b:L.Pt) (c:L.Pt):SV:=.tup [.int .i64 (bif L.validPt a && L.validPt b && L.validPt c then L.cmp (L.cross a b c) 0 else 0),.int .i64 (bif L.validPt a && L.validPt b && L.validPt c then 0 else 1)]
def p_Turn_s:List EV -> Option (Prop × SV)
 | [.p (.agg [.int .i64 a_x,.int .i64 a_y]),.p (.agg [.int .i64 b_x,.int .i64 b_y]),.p (.agg [.int .i64 c_x,.int .i64 c_y])]=>some (p_Turn_p (⟨a_x,a_y⟩:L.Pt) (⟨b_x,b_y⟩:L.Pt) (⟨c_x,c_y⟩:L.Pt),p_Turn_r (⟨a_x,a_y⟩:L.Pt) (⟨b_x,b_y⟩:L.Pt) (⟨c_x,c_y⟩:L.Pt))
 | _=>none
abbrev p_Turn_S:SE.Spec:=(specO p_Turn_s)
def p_Turn_C:Cfg:={ cC with specs:=lookS [(19,p_valid_S),(31,p_cross_S),(30,c_cmp_S)] }
theorem p_Turn_vc (a:L.Pt) (b:L.Pt) (c:L.Pt) (hp:p_Turn_p a b c):vc Tryz.prog (p_Turn_C) (bodyOf Tryz.f13) (st0 Tryz.f13 [.p (.agg [.int .i64 a.x,.int .i64 a.y]),.p (.agg [.int .i64 b.x,.int .i64 b.y]),.p (.agg [.int .i64 c.x,.int .i64 c.y])]) (retFn Tryz.prog Tryz.f13 (p_Turn_r a b c)) :=
 @Eq.mpr _ (let I:=SV.int .i64;let A5:=(L.cross a b c);let A3:=(0:Int);let A1:=[I a.x,I a.y,I b.x,I b.y,I c.x,I c.y];let A2:=(!L.allB (nat_lit 3) fun (i:Nat)=>L.validPt (ofPt (rowsOf A1 (nat_lit 2) i)));((∀ (i:Nat),let A4:=(ofPt (rowsOf A1 (nat_lit 2) i));i < nat_lit 3 -> rowsOf A1 (nat_lit 2) i = [I A4.x,I A4.y]) /\ nat_lit 3 <= (1000000:Nat)) /\ (A2=true -> (A3=bif L.validPt a && L.validPt b && L.validPt c then L.cmp A5 A3 else A3) /\ (1:Int)=bif L.validPt a && L.validPt b && L.validPt c then A3 else (1:Int)) /\ (A2=false -> (L.bd a /\ L.bd b /\ L.bd c) /\ True /\ (L.cmp A5 A3=bif L.validPt a && L.validPt b && L.validPt c then L.cmp A5 A3 else A3) /\ A3=bif L.validPt a && L.validPt b && L.validPt c then A3 else (1:Int))) (by kernel_rfl) (by
 conv=>zeta
 refine ⟨⟨fun i hi=>by match i,hi with | 0,_=>rfl | 1,_=>rfl | 2,_=>rfl,by decide⟩,fun h=>?_,fun h=>?_⟩
 · have h':(L.validPt a && L.validPt b && L.validPt c)=false:=by simpa only [Bool.not_eq_true',Bool.not_eq_false'] using (show (!(L.validPt a && L.validPt b && L.validPt c))=true from h)
   rw [h'];exact ⟨rfl,rfl⟩
 · have h':(L.validPt a && L.validPt b && L.validPt c)=true:=by simpa only [Bool.not_eq_true',Bool.not_eq_false'] using (show (!(L.validPt a && L.validPt b && L.validPt c))=false from h)
   obtain ⟨vab,vc⟩:=Bool.and_eq_true_iff.1 h'
   obtain ⟨va,vb⟩:=Bool.and_eq_true_iff.1 vab
   rw [h'];exact ⟨⟨validPt_bd va,validPt_bd vb,validPt_bd vc⟩,trivial,rfl,rfl⟩)
theorem p_Turn_ok:SpecOk Tryz.prog 13 p_Turn_S:=fnX Tryz.func13 (c:=bodyOf Tryz.f13) (by kernel_rfl) mixed (fun args p r hs hp=>by
 unfold p_Turn_s at hs
 split at hs
 · cases hs;exact ⟨_,_,p_Turn_vc _ _ _ hp,(.same _ (.same _ (.same _ .nil))),⟨show SpecsL Tryz.prog _ from (SpecsL.cons p_valid_ok p_valid_en (SpecsL.cons p_cross_ok p_cross_en (SpecsL.cons c_cmp_ok c_cmp_en SpecsL.nil))),rfl,⟨show ItersL Tryz.prog _ from ItersL.nil,(TrsOk.none (fun _=>rfl))⟩⟩⟩
 · cases hs)
theorem p_Turn_en:Enters Tryz.prog 13:=fun args w=>by kernel_rfl
def w_awake_p :Prop:=True
def w_awake_r :SV:=.bool true
def w_awake_s:List EV -> Option (Prop × SV)
 | []=>some (w_awake_p , w_awake_r )
 | _=>none
abbrev w_awake_S:SE.Spec:=(specO w_awake_s)
def w_awake_C:Cfg:={ cC with muts:=[8],specs:=lookS [(5,p_Area_S),(9,p_Pockets_S),(13,p_Turn_S),(14,p_Exit_S)] }
theorem w_awake_vc  (hp:w_awake_p):vc Tryz.prog (w_awake_C) (bodyOf Tryz.f4) (st0 Tryz.f4 []) (retFn Tryz.prog Tryz.f4 (w_awake_r )) :=
 @Eq.mpr _ (let I:=SV.int .i64;let A14:=(2:Int);let A13:=(4:Int);let A12:=(1:Int);let A8:=(↑(nat_lit 5):Int);let A7:=(nat_lit 2);let A6:=(0:Int);let A2:=[I A12,I A6,I (-1:Int),I A12,I (-1:Int),I (-1:Int)];let A5:=(L.Sq.mk (nat_lit 3) fun (i:Nat)=>ofPt (rowsOf A2 A7 i));let A1:=[I A6,I A6,I A13,I A6,I A13,I A13,I A14,I A12,I A6,I A13];let A4:=(L.Sq.mk (nat_lit 5) fun (i:Nat)=>ofPt (rowsOf A1 A7 i));let A3:=((∀ (i:Nat),let A10:=(ofPt (rowsOf A1 A7 i));i < nat_lit 5 -> rowsOf A1 A7 i = [I A10.x,I A10.y]) /\ nat_lit 5 <= (1000000:Nat));A3 /\ A3 /\ ∀ (t:Nat -> L.Pocket),let A9:=(t (Int.toNat A6));(L.validOutline A4=true -> SortedBy L.cmpFr (L.pks A4).n (L.pks A4).g t) -> (A6 <= A6 /\ A6 < A8) /\ (A6 <= A12 /\ A12 < A8) /\ (A6 <= A14 /\ A14 < A8) /\ True /\ ((∀ (i:Nat),let A11:=(ofPt (rowsOf A2 A7 i));i < nat_lit 3 -> rowsOf A2 A7 i = [I A11.x,I A11.y]) /\ nat_lit 3 <= (9223372036854775807:Nat) /\ (L.exBad A5=false -> L.wayOk A5=false -> L.isNo (L.first (L.exF A5) (22:Nat))=false)) /\ (true=true -> A6 <= A6 /\ A6 < (↑(nat_lit 1):Int)) /\ (bif bif bif bif bif true then decide (A9.fr=A14) && (decide (A9.to_=A13) && decide (A9.area=(12:Int))) else false then true else false then true else false then true else false then true else false)=true) (by kernel_rfl) (by
 conv=>zeta
 refine ⟨⟨fun i hi=>by match i,hi with | 0,_=>rfl | 1,_=>rfl | 2,_=>rfl | 3,_=>rfl | 4,_=>rfl,by decide⟩,⟨fun i hi=>by match i,hi with | 0,_=>rfl | 1,_=>rfl | 2,_=>rfl | 3,_=>rfl | 4,_=>rfl,by decide⟩,fun t ht=>⟨⟨by decide,by decide⟩,⟨by decide,by decide⟩,⟨by decide,by decide⟩,trivial,⟨fun i hi=>by match i,hi with | 0,_=>rfl | 1,_=>rfl | 2,_=>rfl,by decide,fun _ _=>by kernel_rfl⟩,fun _=>⟨by decide,by decide⟩,?_⟩⟩
 have h:=ht (by kernel_rfl)
 have hn:(L.pks (L.Sq.mk 5 fun (i:Nat)=>ofPt (rowsOf [SV.int .i64 0,SV.int .i64 0,SV.int .i64 4,SV.int .i64 0,SV.int .i64 4,SV.int .i64 4,SV.int .i64 2,SV.int .i64 1,SV.int .i64 0,SV.int .i64 4] 2 i))).n=1:=by kernel_rfl
 have hg:(L.pks (L.Sq.mk 5 fun (i:Nat)=>ofPt (rowsOf [SV.int .i64 0,SV.int .i64 0,SV.int .i64 4,SV.int .i64 0,SV.int .i64 4,SV.int .i64 4,SV.int .i64 2,SV.int .i64 1,SV.int .i64 0,SV.int .i64 4] 2 i))).g 0=⟨2,4,12⟩:=by kernel_rfl
 have h1:=h.perm
 rw [hn] at h1
 have h2 : [t 0].Perm [(L.pks (L.Sq.mk 5 fun (i:Nat)=>ofPt (rowsOf [SV.int .i64 0,SV.int .i64 0,SV.int .i64 4,SV.int .i64 0,SV.int .i64 4,SV.int .i64 4,SV.int .i64 2,SV.int .i64 1,SV.int .i64 0,SV.int .i64 4] 2 i))).g 0]:=h1
 have h3:=List.singleton_perm_singleton.1 h2
 rw [hg] at h3
 have h4:t (Int.toNat 0)=⟨2,4,12⟩:=h3
 rw [h4];rfl)
theorem w_awake_ok:SpecOk Tryz.prog 4 w_awake_S:=fnX Tryz.func4 (c:=bodyOf Tryz.f4) (by kernel_rfl) mixed (fun args p r hs hp=>by
 unfold w_awake_s at hs
 split at hs
 · cases hs;exact ⟨_,_,w_awake_vc  hp,.nil,⟨show SpecsL Tryz.prog _ from (SpecsL.cons p_Area_ok p_Area_en (SpecsL.cons p_Pockets_ok p_Pockets_en (SpecsL.cons p_Turn_ok p_Turn_en (SpecsL.cons p_Exit_ok p_Exit_en SpecsL.nil)))),rfl,⟨show ItersL Tryz.prog _ from ItersL.nil,(TrsOk.none (fun _=>rfl))⟩⟩⟩
 · cases hs)
theorem w_awake_en:Enters Tryz.prog 4:=fun args w=>by kernel_rfl
end Go.Proofs.YtinfalehnaejbaaGreat
namespace Go.Proofs.YtinfalehnaejbaaGreat
open Go.SE Go.RowKit
set_option maxRecDepth 100000
set_option maxHeartbeats 4000000
set_option linter.unusedVariables false
attribute [local irreducible] vc
end Go.Proofs.YtinfalehnaejbaaGreat
namespace Go.Proofs.YtinfalehnaejbaaGreat
open Go.SE Go.RowKit
set_option maxRecDepth 100000
set_option maxHeartbeats 4000000
set_option linter.unusedVariables false
attribute [local irreducible] vc
def L.ix (n:Nat) (i:Int):Nat:=(Int.tmod (Int.tmod i (n:Int)+(n:Int)) (n:Int)).toNat
theorem tmod_add {m n:Int} (h0:0 <= m) (h1:m < n):Int.tmod (m+n) n=m:=by
 rw [Int.tmod_eq_emod_of_nonneg (by omega),Int.add_emod_right,Int.emod_eq_of_lt h0 h1]
theorem ix_self {n k:Nat} (h:k < n):L.ix n (k:Int)=k:=by
 unfold L.ix
 rw [Int.tmod_eq_of_lt (show 0 <= (k:Int) by omega) (show (k:Int) < n by omega),tmod_add (by omega) (by omega)]
 omega
theorem ix_next {n k:Nat} (h:k < n):L.ix n ((k:Int)+1)=L.next n k:=by
 unfold L.ix L.next
 by_cases e:k+1 < n
 · rw [Int.tmod_eq_of_lt (show 0 <= (k:Int)+1 by omega) (show (k:Int)+1 < n by omega),tmod_add (by omega) (by omega)]
 · rw [show (k:Int)+1=(n:Int) by omega,Int.tmod_self,Int.zero_add,Int.tmod_self]
theorem ix_prev {n k:Nat} (h:k < n):L.ix n ((k:Int) - 1)=L.prev n k:=by
 unfold L.ix L.prev
 by_cases e:1 <= k
 · rw [Int.tmod_eq_of_lt (show 0 <= (k:Int) - 1 by omega) (show (k:Int) - 1 < n by omega),show (k:Int)+(n:Int) - 1=(k:Int) - 1+n by omega]
 · obtain rfl:k=0:=by omega
   by_cases e1:n=1
   · subst e1;rfl
   · rw [show ((0:Nat):Int) - 1 = -(1:Int) by omega,Int.neg_tmod,Int.tmod_eq_of_lt (show 0 <= (1:Int) by omega) (show (1:Int) < n by omega),show -(1:Int)+(n:Int)=((0:Nat):Int)+(n:Int) - 1 by omega]
theorem ix_bd {n:Nat} {i:Int} (h:0 < n):0 <= Int.tmod i (n:Int)+(n:Int) /\ Int.tmod i (n:Int)+(n:Int) <= 2 * (n:Int) /\ 0 <= Int.tmod (Int.tmod i (n:Int)+(n:Int)) (n:Int) /\ Int.tmod (Int.tmod i (n:Int)+(n:Int)) (n:Int) < (n:Int):=by
 have h1:=Int.lt_tmod_of_pos i (show 0 < (n:Int) by omega)
 have h2:=Int.tmod_lt_of_pos i (show 0 < (n:Int) by omega)
 exact ⟨by omega,by omega,Int.tmod_nonneg _ (by omega),Int.tmod_lt_of_pos _ (by omega)⟩
theorem ix_lt {n:Nat} {i:Int} (h:0 < n):L.ix n i < n:=by
 have:=ix_bd (i:=i) h
 unfold L.ix;omega
theorem ix_emod {n:Nat} {a:Int} (h:0 < n):((L.ix n a:Nat):Int)=a % (n:Int):=by
 obtain ⟨q1,q2,q3,q4⟩:=ix_bd (i:=a) h
 unfold L.ix
 rw [Int.toNat_of_nonneg q3,Int.tmod_eq_emod_of_nonneg q1,Int.add_emod_right]
 have:=Int.tmod_add_mul_tdiv a (n:Int)
 conv=>rhs;rw [<- this]
 rw [Int.add_mul_emod_self_left]
theorem ix_congr {n:Nat} {a b:Int} (hn:0 < n) (h:a % (n:Int)=b % (n:Int)) (c:Int):L.ix n (a+c)=L.ix n (b+c):=by
 have h1:=ix_emod (a:=a+c) hn
 have h2:=ix_emod (a:=b+c) hn
 rw [<- Int.emod_add_emod,h,Int.emod_add_emod] at h1
 omega
theorem ix_ix {n:Nat} {a:Int} (hn:0 < n) (c:Int):L.ix n (((L.ix n a:Nat):Int)+c)=L.ix n (a+c) :=
 ix_congr hn (by rw [ix_emod hn,Int.emod_emod]) c
theorem outline_all {l:L.Sq L.Pt} (hv:L.validOutline l=true):(∀ i,i < l.n -> L.validPt (l.g i)=true) /\ ∀ i,i < l.n -> L.cross (l.g (L.prev l.n i)) (l.g i) (l.g (L.next l.n i)) ≠ 0:=by
 unfold L.validOutline at hv
 rw [Bool.and_eq_true,Bool.and_eq_true] at hv
 constructor
 · have h:=hv.1
   unfold L.valid3 at h
   cases h2:L.validPts l with
   | true=>exact allB_iff.1 h2
   | false =>
     rw [h2] at h
     revert h
     cases L.within (l.n:Int) 3 24 <;> intro h <;> cases h
 · intro i hi e
   have h:=allB_iff.1 hv.2.1 i hi
   unfold L.corner at h
   rw [decide_eq_true e] at h
   cases h
def r1_Cross_p (a:L.Pt) (b:L.Pt) (c:L.Pt):Prop:=L.bd a /\ L.bd b /\ L.bd c
def r1_Cross_r (a:L.Pt) (b:L.Pt) (c:L.Pt):SV:=.int .i64 (L.cross a b c)
def r1_Cross_s:List EV -> Option (Prop × SV)
 | [.p (.agg [.int .i64 a_x,.int .i64 a_y]),.p (.agg [.int .i64 b_x,.int .i64 b_y]),.p (.agg [.int .i64 c_x,.int .i64 c_y])]=>some (r1_Cross_p (⟨a_x,a_y⟩:L.Pt) (⟨b_x,b_y⟩:L.Pt) (⟨c_x,c_y⟩:L.Pt),r1_Cross_r (⟨a_x,a_y⟩:L.Pt) (⟨b_x,b_y⟩:L.Pt) (⟨c_x,c_y⟩:L.Pt))
 | _=>none
abbrev r1_Cross_S:SE.Spec:=(specO r1_Cross_s)
def r1_Cross_C:Cfg:={ muts:=[],frz:=lookN [],specs:=lookS [],loops:=lookL [],iters:=lookI [],rfs:=lookR [],nils:=lookM [] }
theorem r1_Cross_vc (a:L.Pt) (b:L.Pt) (c:L.Pt) (hp:r1_Cross_p a b c):vc Tryz.prog (r1_Cross_C) (bodyOf Tryz.f7) (st0 Tryz.f7 [.p (.agg [.int .i64 a.x,.int .i64 a.y]),.p (.agg [.int .i64 b.x,.int .i64 b.y]),.p (.agg [.int .i64 c.x,.int .i64 c.y])]) (retFn Tryz.prog Tryz.f7 (r1_Cross_r a b c)) :=
 @Eq.mpr _ (let A4:=(c.x - a.x);let A3:=(b.y - a.y);let A2:=(c.y - a.y);let A1:=(b.x - a.x);InK .i64 A1 /\ InK .i64 A2 /\ InK .i64 (A1 * A2) /\ InK .i64 A3 /\ InK .i64 A4 /\ InK .i64 (A3 * A4) /\ InK .i64 (A1 * A2 - A3 * A4) /\ A1 * A2 - A3 * A4=L.cross a b c) (by kernel_rfl) (by
 conv=>zeta
 obtain ⟨h1,h2,h3⟩:=hp
 unfold L.bd at h1 h2 h3
 have m1:=mul_bd (a:=b.x - a.x) (b:=c.y - a.y) (m:=8000000) (n:=8000000) (by omega) (by omega) (by omega) (by omega)
 have m2:=mul_bd (a:=b.y - a.y) (b:=c.x - a.x) (m:=8000000) (n:=8000000) (by omega) (by omega) (by omega) (by omega)
 exact ⟨iK,iK,iK,iK,iK,iK,iK,rfl⟩)
theorem r1_Cross_ok:SpecOk Tryz.prog 7 r1_Cross_S:=fnX Tryz.func7 (c:=bodyOf Tryz.f7) (by kernel_rfl) mixed (fun args p r hs hp=>by
 unfold r1_Cross_s at hs
 split at hs
 · cases hs;exact ⟨_,_,r1_Cross_vc _ _ _ hp,(.same _ (.same _ (.same _ .nil))),⟨show SpecsL Tryz.prog _ from SpecsL.nil,rfl,⟨show ItersL Tryz.prog _ from ItersL.nil,(TrsOk.none (fun _=>rfl))⟩⟩⟩
 · cases hs)
theorem r1_Cross_en:Enters Tryz.prog 7:=fun args w=>by kernel_rfl
end Go.Proofs.YtinfalehnaejbaaGreat
namespace Go.Proofs.YtinfalehnaejbaaGreat
open Go.SE Go.RowKit
set_option maxRecDepth 100000
set_option maxHeartbeats 4000000
set_option linter.unusedVariables false
attribute [local irreducible] vc
theorem on_left {a b:L.Pt}:L.on a b a=true:=by
 unfold L.on
 rw [Bool.and_eq_true,Bool.and_eq_true,within_iff,within_iff]
 refine ⟨⟨decide_eq_true ?_,by omega⟩,by omega⟩
 unfold L.cross;simp
theorem on_right {a b:L.Pt}:L.on a b b=true:=by
 unfold L.on
 rw [Bool.and_eq_true,Bool.and_eq_true,within_iff,within_iff]
 refine ⟨⟨decide_eq_true ?_,by omega⟩,by omega⟩
 unfold L.cross;rw [Int.mul_comm];omega
end Go.Proofs.YtinfalehnaejbaaGreat
namespace Go.Proofs.YtinfalehnaejbaaGreat
open Go.SE Go.RowKit
set_option maxRecDepth 100000
set_option maxHeartbeats 4000000
set_option linter.unusedVariables false
attribute [local irreducible] vc
theorem minTo_mem (l:L.Sq L.Pt):∀ i,∃ j,j <= i /\ L.minTo l i=l.g j
 | 0=>⟨0,Nat.le_refl _,rfl⟩
 | i+1=>by
   obtain ⟨j,h1,h2⟩:=minTo_mem l i
   cases h:decide (L.cmpPt (l.g (i+1)) (L.minTo l i) < 0) with
   | true=>exact ⟨i+1,Nat.le_refl _,by rw [L.minTo,h];rfl⟩
   | false=>exact ⟨j,by omega,by rw [L.minTo,h];exact h2⟩
theorem minIdx {l:L.Sq L.Pt} (h:1 <= l.n):∃ i,i < l.n /\ L.ptIdx l (L.minTo l (l.n - 1))=(i:Int) /\ l.g i=L.minTo l (l.n - 1):=by
 obtain ⟨j,h1,h2⟩:=minTo_mem l (l.n - 1)
 obtain ⟨i,h3,h4,h5,_⟩:=ptIdx_of (l:=l) (j:=j) (by omega)
 rw [h2]
 exact ⟨i,by omega,h4,h5⟩
theorem norm_cat {t:L.Sq L.Pt} {K:Int} (h0:0 <= K) (h1:K <= (t.n:Int)) (hn:1 <= t.n) (hm:t.n <= 1000000) :
   (1 <= (L.two ⟨((t.n:Int) - K).toNat,fun i=>t.g (K.toNat+i)⟩ ⟨(K - 0).toNat,fun i=>t.g ((0:Int).toNat+i)⟩ 0).n+(L.two ⟨((t.n:Int) - K).toNat,fun i=>t.g (K.toNat+i)⟩ ⟨(K - 0).toNat,fun i=>t.g ((0:Int).toNat+i)⟩ 1).n /\
    (L.two ⟨((t.n:Int) - K).toNat,fun i=>t.g (K.toNat+i)⟩ ⟨(K - 0).toNat,fun i=>t.g ((0:Int).toNat+i)⟩ 0).n <= 1000000 /\ (L.two ⟨((t.n:Int) - K).toNat,fun i=>t.g (K.toNat+i)⟩ ⟨(K - 0).toNat,fun i=>t.g ((0:Int).toNat+i)⟩ 1).n <= 1000000) /\
   (L.catTo (L.two ⟨((t.n:Int) - K).toNat,fun i=>t.g (K.toNat+i)⟩ ⟨(K - 0).toNat,fun i=>t.g ((0:Int).toNat+i)⟩) 2).n=t.n /\
   ∀ i,(L.catTo (L.two ⟨((t.n:Int) - K).toNat,fun i=>t.g (K.toNat+i)⟩ ⟨(K - 0).toNat,fun i=>t.g ((0:Int).toNat+i)⟩) 2).g i=(L.rot t K.toNat).g i:=by
 refine ⟨⟨?_,?_,?_⟩,?_,fun i=>?_⟩
 · show 1 <= ((t.n:Int) - K).toNat+(K - 0).toNat
   omega
 · show ((t.n:Int) - K).toNat <= 1000000
   omega
 · show (K - 0).toNat <= 1000000
   omega
 · show 0+((t.n:Int) - K).toNat+(K - 0).toNat=t.n
   omega
 · show (bif decide (i < 0+((t.n:Int) - K).toNat) then (bif decide (i < 0) then (⟨0,0⟩:L.Pt) else t.g (K.toNat+(i - 0))) else t.g ((0:Int).toNat+(i - (0+((t.n:Int) - K).toNat))))=(bif decide (i < t.n - K.toNat) then t.g (K.toNat+i) else t.g (i - (t.n - K.toNat)))
   rw [decide_eq_false (Nat.not_lt_zero i),show 0+((t.n:Int) - K).toNat=t.n - K.toNat by omega,show (0:Int).toNat+(i - (t.n - K.toNat))=i - (t.n - K.toNat) by simp]
   rfl
theorem bd_of_valid {p:L.Pt} (h:L.validPt p=true):L.bd p:=by
 unfold L.validPt at h
 rw [Bool.and_eq_true,within_iff,within_iff] at h
 unfold L.bd
 omega
theorem small_of_valid {l:L.Sq L.Pt} (hn:l.n <= 1000) (h:L.validPts l=true):L.small l :=
 ⟨hn,fun i hi=>bd_of_valid (allB_iff.1 h i hi)⟩
theorem minTo_le {l:L.Sq L.Pt}:∀ {i j:Nat},j <= i -> ¬ L.cmpPt (l.g j) (L.minTo l i) < 0
 | 0,j,h=>by
   obtain rfl:j=0:=by omega
   rw [cmpPt_lt,L.minTo];omega
 | i+1,j,h=>by
   rw [L.minTo]
   cases hd:decide (L.cmpPt (l.g (i+1)) (L.minTo l i) < 0) with
   | false =>
     rw [cond_false]
     by_cases e:j=i+1
     · rw [e];exact of_decide_eq_false hd
     · exact minTo_le (by omega)
   | true =>
     rw [cond_true]
     have h1:=of_decide_eq_true hd
     by_cases e:j=i+1
     · rw [e,cmpPt_lt];omega
     · have h2:=minTo_le (l:=l) (i:=i) (j:=j) (by omega)
       rw [cmpPt_lt] at h1 h2 ⊢
       omega
def L.argTo (l:L.Sq L.Pt):Nat -> Nat
 | 0=>0
 | i+1=>bif decide (L.cmpPt (l.g i) (l.g (L.argTo l i)) < 0) then i else L.argTo l i
def L.fstK (l:L.Sq L.Pt):Nat:=L.argTo l l.n
def L.plc (l:L.Sq L.Pt) (k:Nat):L.Pt:=(L.rot l (L.fstK l)).g k
def L.sameP (a b:L.Sq L.Pt):Bool:=bif decide ((a.n:Int)=b.n) then L.allB a.n (fun i=>L.same (a.g i) (b.g i)) else false
def L.revG (l:L.Sq L.Pt):L.Sq L.Pt:=⟨l.n,fun k=>l.g (l.n - 1 - k)⟩
theorem argTo_min (l:L.Sq L.Pt):∀ i,l.g (L.argTo l (i+1))=L.minTo l i /\ L.argTo l (i+1) <= i /\ ∀ j,j < L.argTo l (i+1) -> l.g j ≠ L.minTo l i
 | 0=>by
   have h:L.argTo l 1=0:=by
     show (bif decide (L.cmpPt (l.g 0) (l.g 0) < 0) then 0 else 0)=0
     cases decide (L.cmpPt (l.g 0) (l.g 0) < 0) <;> rfl
   rw [h]
   exact ⟨rfl,Nat.le_refl _,fun j hj=>absurd hj (Nat.not_lt_zero _)⟩
 | i+1=>by
   obtain ⟨h1,h2,h3⟩:=argTo_min l i
   have ha:L.argTo l (i+1+1)=bif decide (L.cmpPt (l.g (i+1)) (l.g (L.argTo l (i+1))) < 0) then i+1 else L.argTo l (i+1):=rfl
   have hm:L.minTo l (i+1)=bif decide (L.cmpPt (l.g (i+1)) (L.minTo l i) < 0) then l.g (i+1) else L.minTo l i:=rfl
   rw [ha,hm,h1]
   cases hc:decide (L.cmpPt (l.g (i+1)) (L.minTo l i) < 0) with
   | false=>exact ⟨h1,by show L.argTo l (i+1) <= i+1;omega,h3⟩
   | true =>
     refine ⟨rfl,Nat.le_refl _,fun j hj e=>?_⟩
     have hj:j < i+1:=hj
     have e:l.g j=l.g (i+1):=e
     have:=minTo_le (l:=l) (i:=i) (j:=j) (by omega)
     rw [e] at this
     exact this (of_decide_eq_true hc)
def L.far (l:L.Sq L.Pt):Int:=L.idx l.n (fun i=>!L.same (l.g i) (l.g 0))
def L.flat (l:L.Sq L.Pt):Bool:=bif decide (L.far l < 0) then true else !L.anyB l.n (fun i=>!decide (L.cross (l.g 0) (l.g (L.far l).toNat) (l.g i)=0))
def L.two2 (l:L.Sq L.Pt):Prop:=∃ i j,i < l.n /\ j < l.n /\ l.g i ≠ l.g j
theorem thinF_ind {c:L.Pt -> L.Pt -> L.Pt -> Bool} {Q:L.Sq L.Pt -> Prop} (hs:∀ x i,Q x -> i < x.n -> L.outAt c x i=true -> Q ⟨x.n - 1,L.delF x.g i x.n⟩):∀ k x,Q x -> Q (L.thinF c k x)
 | 0,_,h=>h
 | k+1,x,h=>by
   show Q (bif decide (0 <= L.idx x.n (L.outAt c x)) then L.thinF c k ⟨x.n - 1,L.delF x.g (L.idx x.n (L.outAt c x)).toNat x.n⟩ else x)
   rcases idx_cases (f:=L.outAt c x) (n:=x.n) with ⟨h1,_⟩ | ⟨i,h1,h2,h3,_⟩
   · rw [h1];exact h
   · rw [h2,decide_eq_true (show (0:Int) <= (i:Int) by omega),cond_true,Int.toNat_natCast]
     exact thinF_ind hs k _ (hs x i h h1 h3)
theorem thin_ind {c:L.Pt -> L.Pt -> L.Pt -> Bool} {Q:L.Sq L.Pt -> Prop} (hs:∀ x i,Q x -> i < x.n -> L.outAt c x i=true -> Q ⟨x.n - 1,L.delF x.g i x.n⟩) {x:L.Sq L.Pt} (h:Q x):Q (L.thin c x):=thinF_ind hs _ x h
theorem far_at {l:L.Sq L.Pt} {k:Nat} (hk:k < l.n) (h0:∀ j,j < k -> l.g j=l.g 0) (h1:l.g k ≠ l.g 0):L.far l=(k:Int):=by
 refine idx_at (f:=fun i=>!L.same (l.g i) (l.g 0)) (fun j hj=>?_) ?_ hk
 · show (!L.same (l.g j) (l.g 0))=false
   rw [h0 j hj,same_refl];rfl
 · show (!L.same (l.g k) (l.g 0))=true
   cases e:L.same (l.g k) (l.g 0) with
   | true=>exact absurd (same_eq e) h1
   | false=>rfl
theorem flat_all {l:L.Sq L.Pt} (h:∀ j,j < l.n -> l.g j=l.g 0):L.flat l=true:=by
 unfold L.flat
 have e:L.far l = -1:=idx_none (f:=fun i=>!L.same (l.g i) (l.g 0)) fun j hj=>by
   show (!L.same (l.g j) (l.g 0))=false
   rw [h j hj,same_refl];rfl
 rw [e];rfl
theorem flat_two {l:L.Sq L.Pt} (h:L.flat l=false) (h1:1 <= l.n):L.two2 l:=by
 unfold L.flat L.far at h
 rcases idx_cases (f:=fun i=>!L.same (l.g i) (l.g 0)) (n:=l.n) with ⟨q1,_⟩ | ⟨i,q1,q2,q3,_⟩
 · rw [q1] at h;cases h
 · refine ⟨i,0,q1,h1,fun e=>?_⟩
   have q3:(!L.same (l.g i) (l.g 0))=true:=q3
   rw [e,same_refl] at q3;cases q3
theorem flip_n (x:L.Sq L.Pt):(L.flip x).n=x.n:=by
 unfold L.flip
 cases decide (L.areaTo x x.n < 0) <;> rfl
theorem flip_neg {x:L.Sq L.Pt} (h:decide (L.areaTo x x.n < 0)=true):L.flip x=L.revG x:=by unfold L.flip;rw [h];rfl
theorem flip_pos {x:L.Sq L.Pt} (h:decide (L.areaTo x x.n < 0)=false):L.flip x=x:=by unfold L.flip;rw [h];rfl
theorem far_lt {l:L.Sq L.Pt} (h:¬ L.far l < 0):0 <= L.far l /\ L.far l < (l.n:Int):=by
 unfold L.far at h ⊢
 rcases idx_cases (f:=fun i=>!L.same (l.g i) (l.g 0)) (n:=l.n) with ⟨q1,_⟩ | ⟨i,q1,q2,q3,_⟩
 · rw [q1] at h;exact absurd (by decide) h
 · rw [q2];omega
def p_normal_p (l:(L.Sq L.Pt)):Prop:=L.small l /\ 1 <= l.n
def p_normal_q (l:(L.Sq L.Pt)):Nat -> Prop:=fun _=>True
def p_normal_n (l:(L.Sq L.Pt)):Nat -> Nat:=fun _=>l.n
def p_normal_g (l:(L.Sq L.Pt)):Nat -> Nat -> List SV:=fun _ k=>[.int .i64 (((L.norm l).g k).x),.int .i64 (((L.norm l).g k).y)]
def p_normal_s:List EV -> Option (Prop × (Nat -> Prop) × (Nat -> Nat) × (Nat -> Nat -> List SV))
 | [.p (.sl 2 l_n l_g)]=>some ((∀ i,i < l_n -> l_g i = [.int .i64 ((ofPt (l_g i)).x),.int .i64 ((ofPt (l_g i)).y)]) /\ p_normal_p (⟨l_n,fun i=>ofPt (l_g i)⟩:(L.Sq L.Pt)),p_normal_q (⟨l_n,fun i=>ofPt (l_g i)⟩:(L.Sq L.Pt)),p_normal_n (⟨l_n,fun i=>ofPt (l_g i)⟩:(L.Sq L.Pt)),p_normal_g (⟨l_n,fun i=>ofPt (l_g i)⟩:(L.Sq L.Pt)))
 | _=>none
abbrev p_normal_S:SE.Spec:=(specF Nat 0 34 2 p_normal_s)
def p_normal_C:Cfg:={ cC with muts:=[5,22],frz:=lookN [(5,[5])],specs:=lookS [(89,s_cloneP_S),(16,p_area_S),(90,s_minP_S),(27,s_idxPt_S),(35,s_concat_S),(25,p_compare_S)],trs:=lookT [(51,s_revP_tr)],ren:=fun k=>k - 1000 }
theorem p_normal_vc (l:(L.Sq L.Pt)) (hp:p_normal_p l):vc Tryz.prog (p_normal_C) (bodyOf Tryz.f61) (st0 Tryz.f61 [.p (.sl 2 l.n (fun i=>[.int .i64 ((l.g i).x),.int .i64 ((l.g i).y)]))]) (retFresh Tryz.prog Tryz.f61 (Nat) (p_normal_q l) 34 2 (p_normal_n l) (p_normal_g l)) :=
  @Eq.mpr _ (let I:=SV.int .i64;let T:=Int.toNat;let A40:=(2:Nat);let A38:=(L.norm l);let A24:=(↑l.n:Int);let A18:=(1000000:Nat);let A14:=(0:Int);let A13:=(∀ (i:Nat),let A36:=[I (l.g i).x,I (l.g i).y];i < l.n -> A36=A36);let A8:=(1:Nat);let A27:=(l.n - A8);let A7:=(FSpec.mk (fun («as»:List SV)=>preO p_compare_s (List.map
 EV.p «as» ++ List.map EV.p [])) fun («as»:List SV)=>resO p_compare_s (List.map EV.p «as» ++ List.map EV.p []));let A6:=(L.Sq.mk l.n fun (i:Nat)=>l.g i);let A19:=(L.minTo A6 A27);let A11:=(L.Sq.mk (T (L.ptIdx A6 A19 - A14)) fun (i:Nat)=>l.g (T A14+i));let A3:=(L.Sq.mk (T (A24 - L.ptIdx A6 A19)) fun (i:Nat)=>let A33:=(L.Sq.mk l.n fun (i
:Nat)=>l.g i);l.g (T (L.ptIdx A33 (L.minTo A33 A27))+i));let A39:=(L.two A3 A11 (0:Nat));(A13 /\ l.n <= A18) /\ ∀ (t:Nat),True -> (A13 /\ L.small A6) /\ (decide (L.areaTo A6 l.n < A14)=true -> ∃ (t:L.Sq L.Pt),let A28:=(t.n - A8);let A25:=(↑t.n:Int);let A17:=(∀ (i:Nat),let A26:=(t.g (t.n - A8 - i));i < t.n -> [I A26.x,I A26.y] = [I A26.x,I A26.y]);let A4
:=(L.Sq.mk t.n fun (i:Nat)=>t.g (t.n - A8 - i));let A20:=(L.minTo A4 A28);let A10:=(L.Sq.mk (T (L.ptIdx A4 A20 - A14)) fun (i:Nat)=>t.g (t.n - A8 - (T A14+i)));let A1:=(L.Sq.mk (T (A25 - L.ptIdx A4 A20)) fun (i:Nat)=>let A29:=(L.Sq.mk t.n fun (i:Nat)=>t.g (t.n - A8 - i));t.g (t.n - A8 - (T (L.ptIdx A29 (L.minTo A29 A28))+i)));let A37:=(L.two A1 A10 (0:Nat));(l.n
 = t.n /\ ∀ (i:Nat),i < l.n -> [I (l.g i).x,I (l.g i).y] = [I (t.g i).x,I (t.g i).y]) /\ t.n <= A18 /\ ∀ (u:Nat),True -> (A17 /\ isI A7 /\ A8 <= t.n /\ t.n <= A18 /\ ∀ (a b:L.Pt),True /\ L.fil A7 [SV.agg [I a.x,I a.y],SV.agg [I b.x,I b.y]]=L.cmpPt a b) /\ (A17 /\ t.n <= A18) /\ (A14 <= L.ptIdx A4 A20 /\ L.ptIdx A4 A20 <= A25 /\ A25 <= A25) /\ (A14 <= A14 /\ A14 <= L.ptIdx A4 A20 /\ L.ptIdx
 A4 A20 <= A25) /\ (((∀ (i:Nat),let A15:=(L.Sq.mk t.n fun (i:Nat)=>t.g (t.n - A8 - i));let A9:=(t.g (t.n - A8 - (T (L.ptIdx A15 (L.minTo A15 A28))+i)));i < T (A25 - L.ptIdx A15 (L.minTo A15 A28)) -> [I A9.x,I A9.y] = [I A9.x,I A9.y]) /\ ∀ (i:Nat),let A30:=(L.Sq.mk t.n fun (i:Nat)=>t.g (t.n - A8 - i));let A23:=(t.g (t.n - A8 - (T A14+i)));i < T (L.ptIdx A30 (L.minTo A30
 A28) - A14) -> [I A23.x,I A23.y] = [I A23.x,I A23.y]) /\ A8 <= A37.n+(L.two A1 A10 A8).n /\ A37.n <= A18 /\ (L.two A1 A10 A8).n <= A18) /\ ∀ (t_1:Nat),True -> ∃ (t_2:Nat),((L.catTo (L.two A1 A10) A40).n=l.n /\ ∀ (i:Nat),let A16:=(L.Sq.mk t.n fun (i:Nat)=>t.g (t.n - A8 - i));let A2:=(L.catTo (L.two (L.Sq.mk (T (A25 - L.ptIdx A16 (L.minTo A16 A28))) fun (i:Nat)=>let A31:=(L.Sq.mk
 t.n fun (i:Nat)=>t.g (t.n - A8 - i));t.g (t.n - A8 - (T (L.ptIdx A31 (L.minTo A31 A28))+i))) (L.Sq.mk (T (L.ptIdx A16 (L.minTo A16 A28) - A14)) fun (i:Nat)=>t.g (t.n - A8 - (T A14+i)))) A40);i < A2.n -> [I (A2.g i).x,I (A2.g i).y] = [I (A38.g i).x,I (A38.g i).y]) /\ True) /\ (decide (L.areaTo A6 l.n < A14)=false -> (A13 /\ isI A7 /\ A8 <= l.n /\ l.n <= A18 /\ ∀ (a b :
 L.Pt),True /\ L.fil A7 [SV.agg [I a.x,I a.y],SV.agg [I b.x,I b.y]]=L.cmpPt a b) /\ (A13 /\ l.n <= A18) /\ (A14 <= L.ptIdx A6 A19 /\ L.ptIdx A6 A19 <= A24 /\ A24 <= A24) /\ (A14 <= A14 /\ A14 <= L.ptIdx A6 A19 /\ L.ptIdx A6 A19 <= A24) /\ (((∀ (i:Nat),let A21:=(L.Sq.mk l.n fun (i:Nat)=>l.g i);let A12:=(l.g (T (L.ptIdx A21 (L.minTo A21 A27))+i));i < T (A24 - L.ptIdx A21 (L.minTo A21
 A27)) -> [I A12.x,I A12.y] = [I A12.x,I A12.y]) /\ ∀ (i:Nat),let A34:=(L.Sq.mk l.n fun (i:Nat)=>l.g i);let A32:=[I (l.g (T A14+i)).x,I (l.g (T A14+i)).y];i < T (L.ptIdx A34 (L.minTo A34 A27) - A14) -> A32=A32) /\ A8 <= A39.n+(L.two A3 A11 A8).n /\ A39.n <= A18 /\ (L.two A3 A11 A8).n <= A18) /\ ∀ (t:Nat),True -> ∃ (t:Nat),((L.catTo (L.two A3 A11) A40).n=l.n /\ ∀ (i:Nat),let
 A22:=(L.Sq.mk l.n fun (i:Nat)=>l.g i);let A5:=(L.catTo (L.two (L.Sq.mk (T (A24 - L.ptIdx A22 (L.minTo A22 A27))) fun (i:Nat)=>let A35:=(L.Sq.mk l.n fun (i:Nat)=>l.g i);l.g (T (L.ptIdx A35 (L.minTo A35 A27))+i)) (L.Sq.mk (T (L.ptIdx A22 (L.minTo A22 A27) - A14)) fun (i:Nat)=>l.g (T A14+i))) A40);i < A5.n -> [I (A5.g i).x,I (A5.g i).y] = [I (A38.g i).x,I (A38.g i).y]) /\
 True)) (by kernel_rfl) (by
    conv=>zeta
    obtain ⟨hs,h1⟩:=hp
    have hn:=hs.1
    refine ⟨⟨fun _ _=>rfl,by omega⟩,fun _ _=>⟨⟨fun _ _=>rfl,hs⟩,fun hA=>?_,fun hA=>?_⟩⟩
    · have fl:L.flip l=⟨l.n,fun k=>l.g (l.n - 1 - k)⟩:=by unfold L.flip;rw [hA];rfl
      obtain ⟨i0,k1,k2,_⟩:=minIdx (l:=⟨l.n,fun k=>l.g (l.n - 1 - k)⟩) h1
      have k1:i0 < l.n:=k1
      obtain ⟨q,c1,c2⟩:=norm_cat (t:=⟨l.n,fun k=>l.g (l.n - 1 - k)⟩) (K:=L.ptIdx ⟨l.n,fun k=>l.g (l.n - 1 - k)⟩ (L.minTo ⟨l.n,fun k=>l.g (l.n - 1 - k)⟩ (l.n - 1))) (by rw [k2];omega) (by rw [k2];show (i0:Int) <= (l.n:Int);omega) h1 (by show l.n <= 1000000;omega)
      have a1:0 <= L.ptIdx ⟨l.n,fun k=>l.g (l.n - 1 - k)⟩ (L.minTo ⟨l.n,fun k=>l.g (l.n - 1 - k)⟩ (l.n - 1)):=by rw [k2];omega
      have a2:L.ptIdx ⟨l.n,fun k=>l.g (l.n - 1 - k)⟩ (L.minTo ⟨l.n,fun k=>l.g (l.n - 1 - k)⟩ (l.n - 1)) <= (l.n:Int):=by rw [k2];omega
      refine ⟨l,⟨rfl,fun _ _=>rfl⟩,by omega,fun _ _=>⟨⟨fun _ _=>rfl,isI_of p_compare_I _,h1,by omega,fun _ _=>⟨trivial,rfl⟩⟩,⟨fun _ _=>rfl,by omega⟩,⟨a1,a2,Int.le_refl _⟩,⟨Int.le_refl _,a1,a2⟩,⟨⟨fun _ _=>rfl,fun _ _=>rfl⟩,q⟩,fun _ _=>⟨(0:Nat),⟨c1,fun i _=>?_⟩,trivial⟩⟩⟩
      have w:(L.norm l).g i=(L.rot ⟨l.n,fun k=>l.g (l.n - 1 - k)⟩ (L.ptIdx ⟨l.n,fun k=>l.g (l.n - 1 - k)⟩ (L.minTo ⟨l.n,fun k=>l.g (l.n - 1 - k)⟩ (l.n - 1))).toNat).g i:=by
        show (L.rot (L.flip l) (L.minK (L.flip l))).g i=_
        unfold L.minK
        rw [fl]
      rw [w,<- c2 i]
    · have fl:L.flip l=l:=by unfold L.flip;rw [hA];rfl
      obtain ⟨i0,k1,k2,_⟩:=minIdx (l:=l) h1
      obtain ⟨q,c1,c2⟩:=norm_cat (t:=l) (K:=L.ptIdx l (L.minTo l (l.n - 1))) (by rw [k2];omega) (by rw [k2];omega) h1 (by omega)
      have a1:0 <= L.ptIdx l (L.minTo l (l.n - 1)):=by rw [k2];omega
      have a2:L.ptIdx l (L.minTo l (l.n - 1)) <= (l.n:Int):=by rw [k2];omega
      refine ⟨⟨fun _ _=>rfl,isI_of p_compare_I _,h1,by omega,fun _ _=>⟨trivial,rfl⟩⟩,⟨fun _ _=>rfl,by omega⟩,⟨a1,a2,Int.le_refl _⟩,⟨Int.le_refl _,a1,a2⟩,⟨⟨fun _ _=>rfl,fun _ _=>rfl⟩,q⟩,fun _ _=>⟨(0:Nat),⟨c1,fun i _=>?_⟩,trivial⟩⟩
      have w:(L.norm l).g i=(L.rot l (L.ptIdx l (L.minTo l (l.n - 1))).toNat).g i:=by
        show (L.rot (L.flip l) (L.minK (L.flip l))).g i=_
        unfold L.minK
        rw [fl]
      rw [w,<- c2 i])
theorem p_normal_ok:SpecOk Tryz.prog 61 p_normal_S:=freshX Tryz.func61 (c:=bodyOf Tryz.f61) (by kernel_rfl) mixed (fun args p q n g hs hp=>by
 unfold p_normal_s at hs
 split at hs
 · cases hs;exact ⟨_,_,p_normal_vc _ hp.2,(.p (.sl hp.1) .nil),⟨show SpecsL Tryz.prog _ from (SpecsL.cons s_cloneP_ok s_cloneP_en (SpecsL.cons p_area_ok p_area_en (SpecsL.cons s_minP_ok s_minP_en (SpecsL.cons s_idxPt_ok s_idxPt_en (SpecsL.cons s_concat_ok s_concat_en (SpecsL.cons p_compare_ok p_compare_en SpecsL.nil)))))),rfl,⟨show ItersL Tryz.prog _ from ItersL.nil,(show TrsL Tryz.prog _ from (TrsL.cons s_revP_tok s_revP_en TrsL.nil))⟩⟩⟩
 · cases hs)
theorem p_normal_en:Enters Tryz.prog 61:=fun args w=>by kernel_rfl
def r1_SamePoints_p (a:(L.Sq L.Pt)) (b:(L.Sq L.Pt)):Prop:=a.n <= 1000000
def r1_SamePoints_r (a:(L.Sq L.Pt)) (b:(L.Sq L.Pt)):SV:=.bool (L.sameP a b)
def r1_SamePoints_s:List EV -> Option (Prop × SV)
 | [.p (.sl 2 a_n a_g),.p (.sl 2 b_n b_g)]=>some ((∀ i,i < a_n -> a_g i = [.int .i64 ((ofPt (a_g i)).x),.int .i64 ((ofPt (a_g i)).y)]) /\ (∀ i,i < b_n -> b_g i = [.int .i64 ((ofPt (b_g i)).x),.int .i64 ((ofPt (b_g i)).y)]) /\ r1_SamePoints_p (⟨a_n,fun i=>ofPt (a_g i)⟩:(L.Sq L.Pt)) (⟨b_n,fun i=>ofPt (b_g i)⟩:(L.Sq L.Pt)),r1_SamePoints_r (⟨a_n,fun i=>ofPt (a_g i)⟩:(L.Sq L.Pt)) (⟨b_n,fun i=>ofPt (b_g i)⟩:(L.Sq L.Pt)))
 | _=>none
abbrev r1_SamePoints_S:SE.Spec:=(specO r1_SamePoints_s)
def r1_SamePoints_C:Cfg:={ muts:=[],frz:=lookN [],specs:=lookS [],loops:=fun _=>none,iters:=lookI [],rfs:=lookR [],nils:=lookM [] }
theorem r1_SamePoints_vc (a:(L.Sq L.Pt)) (b:(L.Sq L.Pt)) (hp:r1_SamePoints_p a b):vc Tryz.prog ({ r1_SamePoints_C with loops:=lookL [(4,{ T:=Nat,keep:=[0,1],keepO:=[],chg:=fun i=>[(5,.p (.int .i64 (i:Int)))],own:=fun _=>[],inv:=fun i=>i <= a.n /\ ∀ j,j < i -> L.same (a.g j) (b.g j)=true,mu:=fun i=>a.n - i })],rfs:=lookR [] }) (bodyOf Tryz.f11) (st0 Tryz.f11 [.p (.sl 2 a.n (fun i=>[.int .i64 ((a.g i).x),.int .i64 ((a.g i).y)])),.p (.sl 2 b.n (fun i=>[.int .i64 ((b.g i).x),.int .i64 ((b.g i).y)]))]) (retFn Tryz.prog Tryz.f11 (r1_SamePoints_r a b)) :=
 @Eq.mpr _ (let I:=SV.int .i64;let T:=Int.toNat;let A4:=(↑a.n:Int);let A3:=(!decide (A4=(↑b.n:Int)));(A3=true -> false=L.sameP a b) /\ (A3=false -> (∃ (g:Nat),(0:Int)=(↑g:Int) /\ g <= a.n /\ ∀ (j:Nat),j < g -> L.same (a.g j) (b.g j)=true) /\ ∀ (g:Nat),let A2:=(↑g:Int);let A1:=(!(decide ((a.g (T A2)).x=(b.g (T A2)).x) && decide ((a.g (T A2)).y=(b.g (T A2)).y)));(g <= a.n /\ ∀ (j:Nat),j < g -> L.same (a.g j) (b.g j)=true) -> (decide (A2 < A4)=true -> ((0:Int) <= A2 /\ A2 < A4) /\ ((0:Int) <= A2 /\ A2 < (↑b.n:Int)) /\ (A1=true -> false=L.sameP a b) /\ (A1=false -> InK .i64 (A2+(1:Int)) /\ ∃ (g':Nat),A2+(1:Int)=(↑g':Int) /\ (a.n=a.n /\ ∀ (i:Nat),let A5:=[I (a.g i).x,I (a.g i).y];i < a.n -> A5=A5) /\ (b.n=b.n /\ ∀ (i:Nat),let A6:=[I (b.g i).x,I (b.g i).y];i < b.n -> A6=A6) /\ (g' <= a.n /\ ∀ (j:Nat),j < g' -> L.same (a.g j) (b.g j)=true) /\ a.n - g' < a.n - g)) /\ (decide (A2 < A4)=false -> true=L.sameP a b))) (by kernel_rfl) (by
 conv=>zeta
 have ha:a.n <= 1000000:=hp
 refine ⟨fun h=>?_,fun h=>?_⟩
 · unfold L.sameP;rw [notT h];rfl
 have hd:=notF h
 have hn:=of_decide_eq_true hd
 refine ⟨⟨(0:Nat),rfl,Nat.zero_le _,fun j hj=>absurd hj (Nat.not_lt_zero _)⟩,fun g hg=>⟨fun hlt=>?_,fun hge=>?_⟩⟩
 · have hb:(g:Int) < (a.n:Int):=of_decide_eq_true hlt
   have e0:((g:Int)).toNat=g:=by omega
   rw [e0]
   refine ⟨by omega,by omega,fun h1=>?_,fun h1=>?_⟩
   · have h1:L.same (a.g g) (b.g g)=false:=notT h1
     unfold L.sameP;rw [hd,allB_false (i:=g) (by omega) h1];rfl
   · have h1:L.same (a.g g) (b.g g)=true:=notF h1
     exact ⟨iK,g+1,by omega,⟨rfl,fun _ _=>rfl⟩,⟨rfl,fun _ _=>rfl⟩,⟨by omega,fun j hj=>by
       rcases Nat.lt_succ_iff_lt_or_eq.1 hj with h' | rfl
       · exact hg.2 j h'
       · exact h1⟩,by omega⟩
 · have hb:¬ (g:Int) < (a.n:Int):=of_decide_eq_false hge
   unfold L.sameP;rw [hd,allB_iff.2 (fun i hi=>hg.2 i (by omega))];rfl)
theorem r1_SamePoints_ok:SpecOk Tryz.prog 11 r1_SamePoints_S:=fnX Tryz.func11 (c:=bodyOf Tryz.f11) (by kernel_rfl) mixed (fun args p r hs hp=>by
 unfold r1_SamePoints_s at hs
 split at hs
 · cases hs;exact ⟨_,_,r1_SamePoints_vc _ _ hp.2.2,(.p (.sl hp.1) (.p (.sl hp.2.1) .nil)),⟨show SpecsL Tryz.prog _ from SpecsL.nil,rfl,⟨show ItersL Tryz.prog _ from ItersL.nil,(TrsOk.none (fun _=>rfl))⟩⟩⟩
 · cases hs)
theorem r1_SamePoints_en:Enters Tryz.prog 11:=fun args w=>by kernel_rfl
def p_flat1_p (p:L.Pt) (l:(L.Sq L.Pt)):Prop:=1 <= l.n
def p_flat1_r (p:L.Pt) (l:(L.Sq L.Pt)):SV:=.bool (!L.same p (l.g 0))
def p_flat1_s:List EV -> Option (Prop × SV)
 | [.p (.agg [.int .i64 p_x,.int .i64 p_y]),.p (.ref [.sl 2 l_n l_g] 0)]=>some ((∀ i,i < l_n -> l_g i = [.int .i64 ((ofPt (l_g i)).x),.int .i64 ((ofPt (l_g i)).y)]) /\ p_flat1_p (⟨p_x,p_y⟩:L.Pt) (⟨l_n,fun i=>ofPt (l_g i)⟩:(L.Sq L.Pt)),p_flat1_r (⟨p_x,p_y⟩:L.Pt) (⟨l_n,fun i=>ofPt (l_g i)⟩:(L.Sq L.Pt)))
 | _=>none
abbrev p_flat1_S:SE.Spec:=(specO p_flat1_s)
def p_flat1_C:Cfg:={ muts:=[],frz:=lookN [],specs:=lookS [],loops:=lookL [],iters:=lookI [],rfs:=lookR [],nils:=lookM [] }
theorem p_flat1_vc (p:L.Pt) (l:(L.Sq L.Pt)) (hp:p_flat1_p p l):vc Tryz.prog (p_flat1_C) (bodyOf Tryz.f48) (st0 Tryz.f48 [.p (.agg [.int .i64 p.x,.int .i64 p.y]),.p (.ref [.sl 2 l.n (fun i=>[.int .i64 ((l.g i).x),.int .i64 ((l.g i).y)])] 0)]) (retFn Tryz.prog Tryz.f48 (p_flat1_r p l)) :=
 @Eq.mpr _ (((0:Int) <= (0:Int) /\ (0:Int) < (↑l.n:Int)) /\ (!(decide (p.x=(l.g (Int.toNat (0:Int))).x) && decide (p.y=(l.g (Int.toNat (0:Int))).y))) = !L.same p (l.g (0:Nat))) (by kernel_rfl) (by
 exact ⟨⟨Int.le_refl _,by have:1 <= l.n:=hp;omega⟩,rfl⟩)
theorem p_flat1_ok:SpecOk Tryz.prog 48 p_flat1_S:=fnX Tryz.func48 (c:=bodyOf Tryz.f48) (by kernel_rfl) mixed (fun args p r hs hp=>by
 unfold p_flat1_s at hs
 split at hs
 · cases hs; exact ⟨_, _, p_flat1_vc _ _ hp.2, (.same _ (.p (Ext.ref rfl (fun i hi => by
     rcases i with _ | i
     · show Ext (SV.sl _ _ _) (SV.sl _ _ _);exact (Ext.sl hp.1)
     exact absurd hi (by simp;try omega))) .nil)),⟨show SpecsL Tryz.prog _ from SpecsL.nil,rfl,⟨show ItersL Tryz.prog _ from ItersL.nil,(TrsOk.none (fun _=>rfl))⟩⟩⟩
 · cases hs)
theorem p_flat1_en:Enters Tryz.prog 48:=fun args w=>by kernel_rfl
theorem p_flat1_B:∀ args p r,p_flat1_s args=some (p,r) -> ∃ b,r=.bool b:=by
 intro args p r h
 unfold p_flat1_s at h
 split at h
 · cases h;exact ⟨_,rfl⟩
 · cases h
def p_flat2_p (p:L.Pt) (l:(L.Sq L.Pt)) (far:Int):Prop:=(0 <= far /\ far < l.n) /\ L.bd p /\ ∀ k,k < l.n -> L.bd (l.g k)
def p_flat2_r (p:L.Pt) (l:(L.Sq L.Pt)) (far:Int):SV:=.bool (!decide (L.cross (l.g 0) (l.g far.toNat) p=0))
def p_flat2_s:List EV -> Option (Prop × SV)
 | [.p (.agg [.int .i64 p_x,.int .i64 p_y]),.p (.ref [.sl 2 l_n l_g] 0),.p (.ref [.int .i64 far] 0)]=>some ((∀ i,i < l_n -> l_g i = [.int .i64 ((ofPt (l_g i)).x),.int .i64 ((ofPt (l_g i)).y)]) /\ p_flat2_p (⟨p_x,p_y⟩:L.Pt) (⟨l_n,fun i=>ofPt (l_g i)⟩:(L.Sq L.Pt)) far,p_flat2_r (⟨p_x,p_y⟩:L.Pt) (⟨l_n,fun i=>ofPt (l_g i)⟩:(L.Sq L.Pt)) far)
 | _=>none
abbrev p_flat2_S:SE.Spec:=(specO p_flat2_s)
def p_flat2_C:Cfg:={ cC with specs:=lookS [(31,p_cross_S)] }
theorem p_flat2_vc (p:L.Pt) (l:(L.Sq L.Pt)) (far:Int) (hp:p_flat2_p p l far):vc Tryz.prog (p_flat2_C) (bodyOf Tryz.f49) (st0 Tryz.f49 [.p (.agg [.int .i64 p.x,.int .i64 p.y]),.p (.ref [.sl 2 l.n (fun i=>[.int .i64 ((l.g i).x),.int .i64 ((l.g i).y)])] 0),.p (.ref [.int .i64 far] 0)]) (retFn Tryz.prog Tryz.f49 (p_flat2_r p l far)) :=
 @Eq.mpr _ (((0:Int) <= (0:Int) /\ (0:Int) < (↑l.n:Int)) /\ ((0:Int) <= far /\ far < (↑l.n:Int)) /\ (L.bd (l.g (Int.toNat (0:Int))) /\ L.bd (l.g (Int.toNat far)) /\ L.bd p) /\ (!decide (L.cross (l.g (Int.toNat (0:Int))) (l.g (Int.toNat far)) p=(0:Int))) = !decide (L.cross (l.g (0:Nat)) (l.g (Int.toNat far)) p=(0:Int))) (by kernel_rfl) (by
 obtain ⟨⟨h1,h2⟩,hb,hl⟩:=hp
 exact ⟨⟨Int.le_refl _,by omega⟩,⟨h1,h2⟩,⟨hl 0 (by omega),hl far.toNat (by omega),hb⟩,rfl⟩)
theorem p_flat2_ok:SpecOk Tryz.prog 49 p_flat2_S:=fnX Tryz.func49 (c:=bodyOf Tryz.f49) (by kernel_rfl) mixed (fun args p r hs hp=>by
 unfold p_flat2_s at hs
 split at hs
 · cases hs; exact ⟨_, _, p_flat2_vc _ _ _ hp.2, (.same _ (.p (Ext.ref rfl (fun i hi => by
     rcases i with _ | i
     · show Ext (SV.sl _ _ _) (SV.sl _ _ _);exact (Ext.sl hp.1)
     exact absurd hi (by simp;try omega))) (.same _ .nil))),⟨show SpecsL Tryz.prog _ from (SpecsL.cons p_cross_ok p_cross_en SpecsL.nil),rfl,⟨show ItersL Tryz.prog _ from ItersL.nil,(TrsOk.none (fun _=>rfl))⟩⟩⟩
 · cases hs)
theorem p_flat2_en:Enters Tryz.prog 49:=fun args w=>by kernel_rfl
theorem p_flat2_B:∀ args p r,p_flat2_s args=some (p,r) -> ∃ b,r=.bool b:=by
 intro args p r h
 unfold p_flat2_s at h
 split at h
 · cases h;exact ⟨_,rfl⟩
 · cases h
def p_flat_p (l:(L.Sq L.Pt)):Prop:=1 <= l.n /\ l.n <= 1000000 /\ ∀ k,k < l.n -> L.bd (l.g k)
def p_flat_r (l:(L.Sq L.Pt)):SV:=.bool (L.flat l)
def p_flat_s:List EV -> Option (Prop × SV)
 | [.p (.sl 2 l_n l_g)]=>some ((∀ i,i < l_n -> l_g i = [.int .i64 ((ofPt (l_g i)).x),.int .i64 ((ofPt (l_g i)).y)]) /\ p_flat_p (⟨l_n,fun i=>ofPt (l_g i)⟩:(L.Sq L.Pt)),p_flat_r (⟨l_n,fun i=>ofPt (l_g i)⟩:(L.Sq L.Pt)))
 | _=>none
abbrev p_flat_S:SE.Spec:=(specO p_flat_s)
def p_flat_C:Cfg:={ cC with frz:=lookN [(2,[3])],specs:=lookS [(47,s_idxFP_S),(38,s_conFP_S),(48,p_flat1_S),(49,p_flat2_S)] }
theorem p_flat_vc (l:(L.Sq L.Pt)) (hp:p_flat_p l):vc Tryz.prog (p_flat_C) (bodyOf Tryz.f20) (st0 Tryz.f20 [.p (.sl 2 l.n (fun i=>[.int .i64 ((l.g i).x),.int .i64 ((l.g i).y)]))]) (retFn Tryz.prog Tryz.f20 (p_flat_r l)) :=
 @Eq.mpr _ (let I:=SV.int .i64;let A18:=(∀ (i:Nat),let A20:=[I (l.g i).x,I (l.g i).y];i < l.n -> A20=A20);let A9:=(L.Sq.mk l.n fun (i:Nat)=>ofPt ((fun (i:Nat)=>[I (l.g i).x,I (l.g i).y]) i));let A4:=(nat_lit 2);let A3:=(nat_lit 0);let A2:=[SV.sl A4 l.n fun (i:Nat)=>[I (l.g i).x,I (l.g i).y]];let A1:=(L.idx l.n fun (i:Nat)=>let A11:=[SV.ref [SV.sl A4 l.n fun (i:Nat)=>[I (l.g i).x,I (l.g i).y]] A3];L.fbl (FSpec.mk (fun («as»:List SV)=>preO p_flat1_s (List.map EV.p «as» ++ List.map EV.p A11)) fun («as»:List SV)=>resO p_flat1_s (List.map EV.p «as» ++ List.map EV.p A11)) [SV.agg [I (l.g i).x,I (l.g i).y]]);(A18 /\ isB (FSpec.mk (fun («as»:List SV)=>preO p_flat1_s (List.map EV.p «as» ++ List.map EV.p [SV.ref A2 A3])) fun («as»:List SV)=>resO p_flat1_s (List.map EV.p «as» ++ List.map EV.p [SV.ref A2 A3])) /\ l.n <= (1000000:Nat) /\ ∀ (i:Nat),i < l.n -> (∀ (i:Nat),let A21:=[I (l.g i).x,I (l.g i).y];i < l.n -> A21=A21) /\ (1:Nat) <= l.n) /\ ((!decide (A1 < (0:Int)))=true -> A18 /\ isB (FSpec.mk (fun («as»:List SV)=>preO p_flat2_s (List.map EV.p «as» ++ List.map EV.p [SV.ref A2 A3,SV.ref [I (L.idx A9.n fun (i:Nat)=>let A12:=[SV.ref [SV.sl A4 l.n fun (i:Nat)=>[I (l.g i).x,I (l.g i).y]] A3];let A5:=((L.Sq.mk l.n fun (i:Nat)=>ofPt ((fun (i:Nat)=>[I (l.g i).x,I (l.g i).y]) i)).g i);L.fbl (FSpec.mk (fun («as»:List SV)=>preO p_flat1_s (List.map EV.p «as» ++ List.map EV.p A12)) fun («as»:List SV)=>resO p_flat1_s (List.map EV.p «as» ++ List.map EV.p A12)) [SV.agg [I A5.x,I A5.y]])] A3])) fun («as»:List SV)=>resO p_flat2_s (List.map EV.p «as» ++ List.map EV.p [SV.ref A2 A3,SV.ref [I (L.idx A9.n fun (i:Nat)=>let A13:=[SV.ref [SV.sl A4 l.n fun (i:Nat)=>[I (l.g i).x,I (l.g i).y]] A3];let A6:=((L.Sq.mk l.n fun (i:Nat)=>ofPt ((fun (i:Nat)=>[I (l.g i).x,I (l.g i).y]) i)).g i);L.fbl (FSpec.mk (fun («as»:List SV)=>preO p_flat1_s (List.map EV.p «as» ++ List.map EV.p A13)) fun («as»:List SV)=>resO p_flat1_s (List.map EV.p «as» ++ List.map EV.p A13)) [SV.agg [I A6.x,I A6.y]])] A3])) /\ l.n <= (1000000:Nat) /\ ∀ (i:Nat),i < l.n -> (∀ (i:Nat),let A22:=[I (l.g i).x,I (l.g i).y];i < l.n -> A22=A22) /\ (((0:Int) <= L.idx l.n fun (i:Nat)=>let A14:=[SV.ref [SV.sl A4 l.n fun (i:Nat)=>[I (l.g i).x,I (l.g i).y]] A3];L.fbl (FSpec.mk (fun («as»:List SV)=>preO p_flat1_s (List.map EV.p «as» ++ List.map EV.p A14)) fun («as»:List SV)=>resO p_flat1_s (List.map EV.p «as» ++ List.map EV.p A14)) [SV.agg [I (l.g i).x,I (l.g i).y]]) /\ (L.idx l.n fun (i:Nat)=>let A15:=[SV.ref [SV.sl A4 l.n fun (i:Nat)=>[I (l.g i).x,I (l.g i).y]] A3];L.fbl (FSpec.mk (fun («as»:List SV)=>preO p_flat1_s (List.map EV.p «as» ++ List.map EV.p A15)) fun («as»:List SV)=>resO p_flat1_s (List.map EV.p «as» ++ List.map EV.p A15)) [SV.agg [I (l.g i).x,I (l.g i).y]]) < (↑l.n:Int)) /\ L.bd (l.g i) /\ ∀ (k:Nat),k < l.n -> L.bd (l.g k)) /\ (bif decide (A1 < (0:Int)) then true else !L.anyB l.n fun (i:Nat)=>let A19:=[SV.sl A4 l.n fun (i:Nat)=>[I (l.g i).x,I (l.g i).y]];let A10:=(L.Sq.mk l.n fun (i:Nat)=>ofPt ((fun (i:Nat)=>[I (l.g i).x,I (l.g i).y]) i));L.fbl (FSpec.mk (fun («as»:List SV)=>preO p_flat2_s (List.map EV.p «as» ++ List.map EV.p [SV.ref A19 A3,SV.ref [I (L.idx A10.n fun (i:Nat)=>let A16:=[SV.ref [SV.sl A4 l.n fun (i:Nat)=>[I (l.g i).x,I (l.g i).y]] A3];let A7:=((L.Sq.mk l.n fun (i:Nat)=>ofPt ((fun (i:Nat)=>[I (l.g i).x,I (l.g i).y]) i)).g i);L.fbl (FSpec.mk (fun («as»:List SV)=>preO p_flat1_s (List.map EV.p «as» ++ List.map EV.p A16)) fun («as»:List SV)=>resO p_flat1_s (List.map EV.p «as» ++ List.map EV.p A16)) [SV.agg [I A7.x,I A7.y]])] A3])) fun («as»:List SV)=>resO p_flat2_s (List.map EV.p «as» ++ List.map EV.p [SV.ref A19 A3,SV.ref [I (L.idx A10.n fun (i:Nat)=>let A17:=[SV.ref [SV.sl A4 l.n fun (i:Nat)=>[I (l.g i).x,I (l.g i).y]] A3];let A8:=((L.Sq.mk l.n fun (i:Nat)=>ofPt ((fun (i:Nat)=>[I (l.g i).x,I (l.g i).y]) i)).g i);L.fbl (FSpec.mk (fun («as»:List SV)=>preO p_flat1_s (List.map EV.p «as» ++ List.map EV.p A17)) fun («as»:List SV)=>resO p_flat1_s (List.map EV.p «as» ++ List.map EV.p A17)) [SV.agg [I A8.x,I A8.y]])] A3])) [SV.agg [I (l.g i).x,I (l.g i).y]])=L.flat l) (by kernel_rfl) (by
 conv=>zeta
 obtain ⟨h1,hn,hb⟩:=hp
 refine ⟨⟨fun _ _=>rfl,isB_of p_flat1_B _,hn,fun i hi=>⟨fun _ _=>rfl,h1⟩⟩,fun hf=>?_,rfl⟩
 have hf:(!decide (L.far l < 0))=true:=hf
 have hq:=far_lt (of_decide_eq_false (notT hf))
 exact ⟨fun _ _=>rfl,isB_of p_flat2_B _,hn,fun i hi=>⟨fun _ _=>rfl,hq,hb i hi,hb⟩⟩)
theorem p_flat_ok:SpecOk Tryz.prog 20 p_flat_S:=fnX Tryz.func20 (c:=bodyOf Tryz.f20) (by kernel_rfl) mixed (fun args p r hs hp=>by
 unfold p_flat_s at hs
 split at hs
 · cases hs;exact ⟨_,_,p_flat_vc _ hp.2,(.p (.sl hp.1) .nil),⟨show SpecsL Tryz.prog _ from (SpecsL.cons s_idxFP_ok s_idxFP_en (SpecsL.cons s_conFP_ok s_conFP_en (SpecsL.cons p_flat1_ok p_flat1_en (SpecsL.cons p_flat2_ok p_flat2_en SpecsL.nil)))),rfl,⟨show ItersL Tryz.prog _ from ItersL.nil,(TrsOk.none (fun _=>rfl))⟩⟩⟩
 · cases hs)
theorem p_flat_en:Enters Tryz.prog 20:=fun args w=>by kernel_rfl
end Go.Proofs.YtinfalehnaejbaaGreat
namespace Go.Proofs.YtinfalehnaejbaaGreat
open Go.SE Go.RowKit
set_option maxRecDepth 100000
set_option maxHeartbeats 4000000
set_option linter.unusedVariables false
attribute [local irreducible] vc
def L.mem (ks:L.Sq L.Pt) (p:L.Pt):Prop:=∃ i,i < ks.n /\ ks.g i=p
def L.nod (ks:L.Sq L.Pt):Prop:=∀ i j,i < ks.n -> j < ks.n -> ks.g i=ks.g j -> i=j
theorem has_iff {ks:L.Sq L.Pt} {p:L.Pt}:L.has ks p=true ↔ L.mem ks p:=by
 unfold L.has L.mem
 rw [anyB_iff]
 exact ⟨fun ⟨i,h1,h2⟩=>⟨i,h1,(same_eq h2).symm⟩,fun ⟨i,h1,h2⟩=>⟨i,h1,by rw [h2];exact same_refl p⟩⟩
theorem put_mem {ks:L.Sq L.Pt} {p q:L.Pt}:L.mem (L.put ks p) q ↔ L.mem ks q \/ q=p:=by
 unfold L.put
 cases h:L.has ks p with
 | true =>
   rw [cond_true]
   exact ⟨.inl,fun h'=>by rcases h' with h' | rfl;exact h';exact has_iff.1 h⟩
 | false =>
   rw [cond_false]
   constructor
   · rintro ⟨i,h1,h2⟩
     dsimp only at h1 h2
     by_cases hi:i < ks.n
     · rw [if_pos hi] at h2;exact .inl ⟨i,hi,h2⟩
     · rw [if_neg hi] at h2;exact .inr h2.symm
   · rintro (⟨i,h1,h2⟩ | rfl)
     · exact ⟨i,Nat.lt_succ_of_lt h1,by dsimp only;rw [if_pos h1];exact h2⟩
     · exact ⟨ks.n,Nat.lt_succ_self _,by dsimp only;rw [if_neg (Nat.lt_irrefl _)]⟩
theorem put_nod {ks:L.Sq L.Pt} {p:L.Pt} (h:L.nod ks):L.nod (L.put ks p):=by
 unfold L.put
 cases hp:L.has ks p with
 | true=>exact h
 | false =>
   have hno:∀ i,i < ks.n -> ks.g i ≠ p:=fun i hi e=>by
     rw [has_iff.2 ⟨i,hi,e⟩] at hp;cases hp
   rw [cond_false]
   intro i j hi hj e
   dsimp only at hi hj e
   by_cases h1:i < ks.n <;> by_cases h2:j < ks.n
   · rw [if_pos h1,if_pos h2] at e;exact h i j h1 h2 e
   · rw [if_pos h1,if_neg h2] at e;exact absurd e (hno i h1)
   · rw [if_neg h1,if_pos h2] at e;exact absurd e.symm (hno j h2)
   · omega
theorem putIf_mem {c:Bool} {ks:L.Sq L.Pt} {p q:L.Pt}:L.mem (L.putIf c ks p) q ↔ L.mem ks q \/ (c=true /\ q=p):=by
 unfold L.putIf
 cases c with
 | true=>rw [cond_true,put_mem];exact ⟨fun h=>h.imp id (fun e=>⟨rfl,e⟩),fun h=>h.imp id (fun e=>e.2)⟩
 | false=>rw [cond_false];exact ⟨.inl,fun h=>by rcases h with h | h;exact h;exact absurd h.1 Bool.false_ne_true⟩
theorem putIf_nod {c:Bool} {ks:L.Sq L.Pt} {p:L.Pt} (h:L.nod ks):L.nod (L.putIf c ks p):=by
 unfold L.putIf
 cases c with
 | true=>exact put_nod h
 | false=>exact h
def L.S (a b c d q:L.Pt):Prop:=(L.on c d a=true /\ q=a) \/ (L.on c d b=true /\ q=b) \/ (L.on a b c=true /\ q=c) \/ (L.on a b d=true /\ q=d)
theorem no_mem {q:L.Pt}:¬ L.mem L.no q:=fun ⟨_,h,_⟩=>absurd h (Nat.not_lt_zero _)
theorem k2_mem {a b c d q:L.Pt}:L.mem (L.k2 a b c d 2) q ↔ L.S a b c d q:=by
 show L.mem (L.putIf (L.on a b d) (L.putIf (L.on a b c) (L.putIf (L.on c d b) (L.putIf (L.on c d a) L.no a) b) c) d) q ↔ _
 rw [putIf_mem,putIf_mem,putIf_mem,putIf_mem]
 unfold L.S
 have:=no_mem (q:=q)
 constructor
 · rintro ((((h | h) | h) | h) | h)
   · exact absurd h this
   · exact .inl h
   · exact .inr (.inl h)
   · exact .inr (.inr (.inl h))
   · exact .inr (.inr (.inr h))
 · rintro (h | h | h | h)
   · exact .inl (.inl (.inl (.inr h)))
   · exact .inl (.inl (.inr h))
   · exact .inl (.inr h)
   · exact .inr h
theorem k2_nod {a b c d:L.Pt}:L.nod (L.k2 a b c d 2):=by
 show L.nod (L.putIf (L.on a b d) (L.putIf (L.on a b c) (L.putIf (L.on c d b) (L.putIf (L.on c d a) L.no a) b) c) d)
 exact putIf_nod (putIf_nod (putIf_nod (putIf_nod (fun i j hi=>absurd hi (Nat.not_lt_zero _)))))
theorem n_two {ks:L.Sq L.Pt} (h:L.nod ks):1 < ks.n ↔ ∃ p q,L.mem ks p /\ L.mem ks q /\ p ≠ q:=by
 constructor
 · intro h1
   refine ⟨ks.g 0,ks.g 1,⟨0,by omega,rfl⟩,⟨1,h1,rfl⟩,fun e=>?_⟩
   have:=h 0 1 (by omega) h1 e
   omega
 · rintro ⟨p,q,⟨i,hi,rfl⟩,⟨j,hj,rfl⟩,hne⟩
   have:i ≠ j:=fun e=>hne (by rw [e])
   omega
theorem n_pos {ks:L.Sq L.Pt}:0 < ks.n ↔ ∃ p,L.mem ks p :=
 ⟨fun h=>⟨ks.g 0,0,h,rfl⟩,fun ⟨_,i,hi,_⟩=>by omega⟩
theorem meet_map {a b c d a' b' c' d':L.Pt} (T:L.Pt -> L.Pt) (inj:∀ p q,T p=T q -> p=q) (hS:∀ q,L.S a' b' c' d' q ↔ ∃ p,L.S a b c d p /\ T p=q)
   (hA:(L.apart a' b' c' d' && L.apart c' d' a' b')=(L.apart a b c d && L.apart c d a b)):L.meet a' b' c' d'=L.meet a b c d:=by
 have h2:1 < (L.k2 a' b' c' d' 2).n ↔ 1 < (L.k2 a b c d 2).n:=by
   rw [n_two k2_nod,n_two k2_nod]
   constructor
   · rintro ⟨p,q,hp,hq,hne⟩
     rw [k2_mem,hS] at hp hq
     obtain ⟨p0,hp,rfl⟩:=hp
     obtain ⟨q0,hq,rfl⟩:=hq
     exact ⟨p0,q0,k2_mem.2 hp,k2_mem.2 hq,fun e=>hne (by rw [e])⟩
   · rintro ⟨p,q,hp,hq,hne⟩
     exact ⟨T p,T q,k2_mem.2 ((hS _).2 ⟨p,k2_mem.1 hp,rfl⟩),k2_mem.2 ((hS _).2 ⟨q,k2_mem.1 hq,rfl⟩),fun e=>hne (inj _ _ e)⟩
 have h0:0 < (L.k2 a' b' c' d' 2).n ↔ 0 < (L.k2 a b c d 2).n:=by
   rw [n_pos,n_pos]
   constructor
   · rintro ⟨p,hp⟩
     rw [k2_mem,hS] at hp
     obtain ⟨p0,hp,rfl⟩:=hp
     exact ⟨p0,k2_mem.2 hp⟩
   · rintro ⟨p,hp⟩
     exact ⟨T p,k2_mem.2 ((hS _).2 ⟨p,k2_mem.1 hp,rfl⟩)⟩
 unfold L.meet
 rw [band,band,hA]
 have e1:decide (1 < ((L.k2 a' b' c' d' 2).n:Int))=decide (1 < ((L.k2 a b c d 2).n:Int)):=by rw [decide_eq_decide];omega
 have e2:decide (((L.k2 a' b' c' d' 2).n:Int)=1)=decide (((L.k2 a b c d 2).n:Int)=1):=by rw [decide_eq_decide];omega
 rw [e1,e2]
theorem meet_none {a b c d:L.Pt} (h:L.meet a b c d=0) (q:L.Pt):¬ L.S a b c d q:=fun hS=>by
 have h0:=n_pos.2 ⟨q,k2_mem.2 hS⟩
 unfold L.meet at h
 by_cases h1:1 < ((L.k2 a b c d 2).n:Int)
 · rw [decide_eq_true h1] at h;cases h
 · rw [decide_eq_false h1,decide_eq_true (show ((L.k2 a b c d 2).n:Int)=1 by omega)] at h;cases h
theorem meet_swap (a b c d:L.Pt):L.meet c d a b=L.meet a b c d:=by
 refine meet_map id (fun _ _ h=>h) (fun q=>?_) (Bool.and_comm _ _)
 unfold L.S
 constructor
 · rintro (h | h | h | h)
   · exact ⟨q,.inr (.inr (.inl h)),rfl⟩
   · exact ⟨q,.inr (.inr (.inr h)),rfl⟩
   · exact ⟨q,.inl h,rfl⟩
   · exact ⟨q,.inr (.inl h),rfl⟩
 · rintro ⟨p,h,rfl⟩
   rcases h with h | h | h | h
   · exact .inr (.inr (.inl h))
   · exact .inr (.inr (.inr h))
   · exact .inl h
   · exact .inr (.inl h)
theorem cross_flip (a b c:L.Pt):L.cross b a c = - L.cross a b c:=by
 unfold L.cross
 grind
theorem on_flip (a b p:L.Pt):L.on b a p=L.on a b p:=by
 unfold L.on
 rw [cross_flip,Int.min_comm b.x,Int.max_comm b.x,Int.min_comm b.y,Int.max_comm b.y]
 congr 2
 rw [decide_eq_decide]
 omega
theorem cmp0 (a:Int):L.cmp (-a) 0 = - L.cmp a 0:=by
 unfold L.cmp
 rcases Int.lt_trichotomy a 0 with h | h | h
 · rw [decide_eq_true h,decide_eq_false (show ¬ -a < 0 by omega),decide_eq_true (show 0 < -a by omega)];rfl
 · subst h;rfl
 · rw [decide_eq_false (show ¬ a < 0 by omega),decide_eq_true h,decide_eq_true (show -a < 0 by omega)];rfl
theorem apart_eq {a b c d a' b' c' d':L.Pt} {e:Int} (he:e=1 \/ e = -1) (h1:L.cross a' b' c'=e * L.cross a b c) (h2:L.cross a' b' d'=e * L.cross a b d):L.apart a' b' c' d'=L.apart a b c d:=by
 unfold L.apart
 rw [h1,h2]
 rcases he with rfl | rfl
 · rw [Int.one_mul,Int.one_mul]
 · rw [show ∀ x:Int,-1 * x = -x from fun x=>by omega,show ∀ x:Int,-1 * x = -x from fun x=>by omega,cmp0,cmp0,Int.neg_mul_neg]
theorem apart_sym (a b c d:L.Pt):L.apart a b d c=L.apart a b c d:=by
 unfold L.apart;rw [Int.mul_comm]
theorem meet_rev (a b c d:L.Pt):L.meet b a c d=L.meet a b c d:=by
 refine meet_map id (fun _ _ h=>h) (fun q=>?_) ?_
 · unfold L.S
   rw [on_flip a b c,on_flip a b d]
   constructor
   · rintro (h | h | h | h)
     · exact ⟨q,.inr (.inl h),rfl⟩
     · exact ⟨q,.inl h,rfl⟩
     · exact ⟨q,.inr (.inr (.inl h)),rfl⟩
     · exact ⟨q,.inr (.inr (.inr h)),rfl⟩
   · rintro ⟨p,h,rfl⟩
     rcases h with h | h | h | h
     · exact .inr (.inl h)
     · exact .inl h
     · exact .inr (.inr (.inl h))
     · exact .inr (.inr (.inr h))
 · have e:=apart_eq (a:=a) (b:=b) (c:=c) (d:=d) (a':=b) (b':=a) (c':=c) (d':=d) (e:=-1) (.inr rfl) (by rw [cross_flip a b c];omega) (by rw [cross_flip a b d];omega)
   rw [apart_sym c d a b,e]
theorem meet_rev2 (a b c d:L.Pt):L.meet b a d c=L.meet a b c d:=by
 rw [meet_rev,<- meet_swap,meet_rev,meet_swap]
end Go.Proofs.YtinfalehnaejbaaGreat
namespace Go.Proofs.YtinfalehnaejbaaGreat
open Go.SE Go.RowKit
set_option maxRecDepth 100000
set_option maxHeartbeats 4000000
set_option linter.unusedVariables false
attribute [local irreducible] vc
def L.cy (l:L.Sq L.Pt) (a:Int):L.Pt:=l.g (L.ix l.n a)
theorem cy_nat {l:L.Sq L.Pt} {k:Nat} (h:k < l.n):L.cy l (k:Int)=l.g k:=by unfold L.cy;rw [ix_self h]
theorem cy_next {l:L.Sq L.Pt} {k:Nat} (h:k < l.n):L.cy l ((k:Int)+1)=l.g (L.next l.n k):=by unfold L.cy;rw [ix_next h]
theorem cy_congr {l:L.Sq L.Pt} {a b:Int} (hn:0 < l.n) (h:a % (l.n:Int)=b % (l.n:Int)) (c:Int):L.cy l (a+c)=L.cy l (b+c):=by unfold L.cy;rw [ix_congr hn h c]
theorem cy_ix {l:L.Sq L.Pt} (hn:0 < l.n) (a c:Int):L.cy l (((L.ix l.n a:Nat):Int)+c)=L.cy l (a+c):=by unfold L.cy;rw [ix_ix hn c]
def L.simpC (n:Nat) (f:Int -> L.Pt):Prop:=∀ a b:Int,a % (n:Int) ≠ b % (n:Int) -> L.meet (f a) (f (a+1)) (f b) (f (b+1))=(if (b - a) % (n:Int)=1 \/ (a - b) % (n:Int)=1 then 1 else 0)
theorem pair_cy {l:L.Sq L.Pt} {i k:Nat} (h1:i < k) (h2:k < l.n):L.how l i k=L.meet (L.cy l i) (L.cy l (i+1)) (L.cy l k) (L.cy l (k+1)) /\ (L.nxt l i k=true ↔ ((k:Int) - i) % (l.n:Int)=1 \/ ((i:Int) - k) % (l.n:Int)=1):=by
 constructor
 · unfold L.how
   have e:L.cy l ((i:Int)+1)=l.g (i+1):=by
     have:=cy_nat (l:=l) (k:=i+1) (by omega)
     rw [<- this];congr 1
   rw [cy_nat (l:=l) (k:=i) (by omega),e,cy_nat h2,cy_next h2]
 · unfold L.nxt
   rw [bor,Bool.or_eq_true,band,Bool.and_eq_true,decide_eq_true_eq,decide_eq_true_eq,decide_eq_true_eq]
   have m1:((k:Int) - i) % (l.n:Int)=(k:Int) - i:=Int.emod_eq_of_lt (by omega) (by omega)
   have m2:((i:Int) - k) % (l.n:Int)=(i:Int) - k+l.n:=by
     rw [<- Int.add_emod_right,Int.emod_eq_of_lt (by omega) (by omega)]
   rw [m1,m2]
   omega
theorem simpC_of {l:L.Sq L.Pt} (hn:0 < l.n) (h:L.simple l=true):L.simpC l.n (L.cy l):=by
 have hp:∀ i k,i < k -> k < l.n -> L.okPair l i k=true:=fun i k h1 h2=>by
   unfold L.simple at h
   have:=allB_iff.1 (allB_iff.1 h i (by omega)) k h2
   rw [decide_eq_true h1] at this
   exact this
 have key:∀ i k:Nat,i < k -> k < l.n -> L.meet (L.cy l i) (L.cy l (i+1)) (L.cy l k) (L.cy l (k+1))=(if ((k:Int) - i) % (l.n:Int)=1 \/ ((i:Int) - k) % (l.n:Int)=1 then 1 else 0):=fun i k h1 h2=>by
   obtain ⟨e1,e2⟩:=pair_cy (l:=l) h1 h2
   have:=hp i k h1 h2
   unfold L.okPair at this
   rw [<- e1]
   cases hx:L.nxt l i k with
   | true=>rw [hx] at this;rw [if_pos (e2.1 hx)];exact of_decide_eq_true this
   | false =>
     rw [hx] at this
     rw [if_neg (fun h=>by rw [e2.2 h] at hx;cases hx)]
     exact of_decide_eq_true this
 intro a b hab
 have ha:=ix_emod (a:=a) hn
 have hb:=ix_emod (a:=b) hn
 have la:=ix_lt (n:=l.n) (i:=a) hn
 have lb:=ix_lt (n:=l.n) (i:=b) hn
 have m:∀ x y:Int,(((L.ix l.n x:Nat):Int) - ((L.ix l.n y:Nat):Int)) % (l.n:Int)=(x - y) % (l.n:Int):=fun x y=>by
   rw [ix_emod hn,ix_emod hn,<- Int.sub_emod]
 have c0:∀ x:Int,L.cy l ((L.ix l.n x:Nat):Int)=L.cy l x:=fun x=>by
   have:=cy_ix hn x 0
   rwa [Int.add_zero,Int.add_zero] at this
 rcases Nat.lt_trichotomy (L.ix l.n a) (L.ix l.n b) with h1 | h1 | h1
 · have:=key _ _ h1 lb
   rw [c0,c0,cy_ix hn,cy_ix hn,m,m] at this
   exact this
 · exact absurd (by rw [<- ha,<- hb,h1]) hab
 · have:=key _ _ h1 la
   rw [c0,c0,cy_ix hn,cy_ix hn,m,m,meet_swap] at this
   rw [this]
   by_cases c:(a - b) % (l.n:Int)=1 \/ (b - a) % (l.n:Int)=1
   · rw [if_pos c,if_pos c.symm]
   · rw [if_neg c,if_neg (fun h=>c h.symm)]
theorem simple_of {l:L.Sq L.Pt} (h:L.simpC l.n (L.cy l)):L.simple l=true:=by
 unfold L.simple
 refine allB_iff.2 (fun i hi=>allB_iff.2 (fun k hk=>?_))
 by_cases hik:i < k
 · obtain ⟨e1,e2⟩:=pair_cy (l:=l) hik hk
   have:=h i k (by rw [Int.emod_eq_of_lt (by omega) (by omega),Int.emod_eq_of_lt (by omega) (by omega)];omega)
   rw [<- e1] at this
   rw [decide_eq_true hik]
   unfold L.okPair
   cases hx:L.nxt l i k with
   | true=>rw [if_pos (e2.1 hx)] at this;exact decide_eq_true this
   | false =>
     rw [if_neg (fun h=>by rw [e2.2 h] at hx;cases hx)] at this
     exact decide_eq_true this
 · rw [decide_eq_false hik];rfl
theorem emod_eq_of {n a b:Int} (h:(b - a) % n=1 % n):b % n=(a+1) % n:=by
 have:=Int.emod_emod_of_dvd (b - a) (Int.dvd_refl n)
 have e:b=(b - a)+a:=by omega
 rw [e,Int.add_emod,h,<- Int.add_emod,Int.add_comm]
def L.tm (p q:L.Pt):Int:=p.x * q.y - q.x * p.y
def L.sm (f:Int -> Int):Nat -> Int
 | 0=>0
 | k+1=>L.sm f k+f (k:Int)
def L.ct (l:L.Sq L.Pt) (i:Int):Int:=L.tm (L.cy l i) (L.cy l (i+1))
theorem area_sm {l:L.Sq L.Pt}:∀ {k:Nat},k <= l.n -> L.areaTo l k=L.sm (L.ct l) k
 | 0,_=>rfl
 | k+1,h=>by
   rw [L.areaTo,L.sm,area_sm (k:=k) (by omega)]
   unfold L.ct L.tm
   rw [cy_nat (by omega),cy_next (by omega)]
namespace PArea
theorem beta_pos {α β lo hi:Int} (h1:α+β * lo < 0) (h2:0 < α+β * hi) (h:lo <= hi):0 < β:=by
 rcases Int.lt_or_le 0 β with hb | hb
 · exact hb
 · have:=Int.mul_nonneg_of_nonpos_of_nonpos hb (show lo - hi <= 0 by omega)
   rw [Int.mul_sub] at this
   omega
theorem up_le {β u v:Int} (hb:0 <= β) (h:u <= v):β * u <= β * v:=Int.mul_le_mul_of_nonneg_left h hb
theorem dn_le {β u v:Int} (hb:β <= 0) (h:u <= v):β * v <= β * u:=by
 have:=Int.mul_nonneg_of_nonpos_of_nonpos hb (show u - v <= 0 by omega)
 rw [Int.mul_sub] at this
 omega
theorem aff_pos {α β lo hi j:Int} (h1:0 < α+β * lo) (h2:0 < α+β * hi) (hl:lo <= j) (hh:j <= hi):0 < α+β * j:=by
 rcases Int.le_total 0 β with hb | hb
 · have:=up_le hb hl;omega
 · have:=dn_le hb hh;omega
theorem aff_neg {α β lo hi j:Int} (h1:α+β * lo < 0) (h2:α+β * hi < 0) (hl:lo <= j) (hh:j <= hi):α+β * j < 0:=by
 rcases Int.le_total 0 β with hb | hb
 · have:=up_le hb hh;omega
 · have:=dn_le hb hl;omega
theorem sgn_lt {k D u v p q:Int} (hk:k ≠ 0) (hD:0 < D) (h1:k * u=D * p) (h2:k * v=D * q) (h:u * v < 0):p * q < 0:=by
 have hkk:0 < k * k:=by
   rcases Int.lt_or_lt_of_ne hk with h | h
   · exact Int.mul_pos_of_neg_of_neg h h
   · exact Int.mul_pos h h
 have e:k * k * (u * v)=D * D * (p * q):=by
   have:k * k * (u * v)=(k * u) * (k * v):=by grind
   rw [this,h1,h2];grind
 rcases Int.lt_or_le (p * q) 0 with hq | hq
 · exact hq
 · have h3:k * k * (u * v) < 0:=Int.mul_neg_of_pos_of_neg hkk h
   have h4:0 <= D * D * (p * q):=Int.mul_nonneg (Int.mul_nonneg (by omega) (by omega)) hq
   omega
def cr (x y:Int -> Int) (a c:Int):Int:=(x (a+1) - x a) * (y c - y a) - (y (a+1) - y a) * (x c - x a)
def far (n:Nat) (a b:Int):Prop:=a % (n:Int) ≠ b % (n:Int) /\ a % (n:Int) ≠ (b+1) % (n:Int) /\ (a+1) % (n:Int) ≠ b % (n:Int)
def within (y:Int -> Int) (a c:Int):Prop:=min (y a) (y (a+1)) <= y c /\ y c <= max (y a) (y (a+1))
structure Poly (n:Nat) (x y m:Int -> Int) (D:Int):Prop where
 hn:3 <= n
 px:∀ a b:Int,a % (n:Int)=b % (n:Int) -> x a=x b
 py:∀ a b:Int,a % (n:Int)=b % (n:Int) -> y a=y b
 pm:∀ a b:Int,a % (n:Int)=b % (n:Int) -> m a=m b
 hD:0 < D
 hm:∀ a,m a * (y (a+1) - y a)=D * (x (a+1) - x a)
 hy:∀ a b:Int,a % (n:Int) ≠ b % (n:Int) -> y a ≠ y b
 on:∀ a b:Int,far n a b -> ∀ c,(c=b \/ c=b+1) -> within y a c -> cr x y a c ≠ 0
 no:∀ a b:Int,far n a b -> ¬ (cr x y a b * cr x y a (b+1) < 0 /\ cr x y b a * cr x y b (a+1) < 0)
 co:∀ a:Int,cr x y a (a+2)=0 -> (y a < y (a+1) /\ y (a+1) < y (a+2)) \/ (y (a+2) < y (a+1) /\ y (a+1) < y a)
def X (x y m:Int -> Int) (D a Y:Int):Int:=D * x a+m a * (Y - y a)
def act (y:Int -> Int) (a j:Int):Prop:=(y a <= j /\ j < y (a+1)) \/ (y (a+1) <= j /\ j < y a)
theorem far_comm {n:Nat} {a b:Int} (h:far n a b):far n b a:=⟨fun e=>h.1 e.symm,fun e=>h.2.2 e.symm,fun e=>h.2.1 e.symm⟩
section
variable {n:Nat} {x y m:Int -> Int} {D:Int}
theorem X_lo (a:Int):X x y m D a (y a)=D * x a:=by unfold X;rw [Int.sub_self,Int.mul_zero,Int.add_zero]
theorem X_hi (P:Poly n x y m D) (a:Int):X x y m D a (y (a+1))=D * x (a+1):=by
 unfold X;rw [P.hm,Int.mul_sub];omega
theorem R1 (P:Poly n x y m D) (a c:Int):(y (a+1) - y a) * (X x y m D a (y c) - D * x c)=D * cr x y a c:=by
 have:=P.hm a
 unfold X cr
 grind
theorem next_ne (hn:3 <= n) (a:Int):a % (n:Int) ≠ (a+1) % (n:Int):=by
 intro e
 have h1:((a+1) - a) % (n:Int)=0:=by rw [Int.sub_emod,e,Int.sub_self,Int.zero_emod]
 rw [show a+1 - a=1 by omega,Int.emod_eq_of_lt (by omega) (by omega)] at h1
 omega
theorem two_ne (hn:3 <= n) (a:Int):a % (n:Int) ≠ (a+2) % (n:Int):=by
 intro e
 have h1:((a+2) - a) % (n:Int)=0:=by rw [Int.sub_emod,e,Int.sub_self,Int.zero_emod]
 rw [show a+2 - a=2 by omega,Int.emod_eq_of_lt (by omega) (by omega)] at h1
 omega
theorem dy_ne (P:Poly n x y m D) (a:Int):y (a+1) - y a ≠ 0:=by
 have:=P.hy _ _ (next_ne P.hn a);omega
theorem X_sub (a b Y:Int):X x y m D a Y - X x y m D b Y=(D * x a - m a * y a - (D * x b - m b * y b))+(m a - m b) * Y:=by
 unfold X;grind
theorem end_ne (P:Poly n x y m D) {a b c:Int} (h:far n a b) (hc:c=b \/ c=b+1) (hw:within y a c):X x y m D a (y c) - X x y m D b (y c) ≠ 0:=by
 have hb:X x y m D b (y c)=D * x c:=by
   rcases hc with rfl | rfl
   · exact X_lo _
   · exact X_hi P _
 rw [hb]
 intro e
 have:=R1 P a c
 rw [e,Int.mul_zero] at this
 rcases Int.mul_eq_zero.1 this.symm with h1 | h1
 · have:=P.hD;omega
 · exact P.on a b h c hc hw h1
theorem cross_lt (P:Poly n x y m D) {a b:Int} (h:(X x y m D a (y b) - X x y m D b (y b)) * (X x y m D a (y (b+1)) - X x y m D b (y (b+1))) < 0):cr x y a b * cr x y a (b+1) < 0:=by
 rw [X_lo,X_hi P] at h
 exact sgn_lt (dy_ne P a) P.hD (R1 P a b) (R1 P a (b+1)) h
theorem mul_lt_of {u v:Int} (h:(u < 0 /\ 0 < v) \/ (0 < u /\ v < 0)):u * v < 0:=by
 rcases h with ⟨h1,h2⟩ | ⟨h1,h2⟩
 · exact Int.mul_neg_of_neg_of_pos h1 h2
 · exact Int.mul_neg_of_pos_of_neg h1 h2
theorem no_cross (P:Poly n x y m D) {a b lo hi:Int} (h:far n a b) (h1:X x y m D a lo - X x y m D b lo < 0) (h2:0 < X x y m D a hi - X x y m D b hi) (hlh:lo <= hi)
   (la:min (y a) (y (a+1)) <= lo) (lb:min (y b) (y (b+1)) <= lo) (ua:hi <= max (y a) (y (a+1))) (ub:hi <= max (y b) (y (b+1))):False:=by
 rw [X_sub] at h1 h2
 have hb:=beta_pos h1 h2 hlh
 have low:∀ u,u <= lo -> X x y m D a u - X x y m D b u < 0:=fun u hu=>by
   rw [X_sub];have:=up_le (Int.le_of_lt hb) hu;omega
 have high:∀ u,hi <= u -> 0 < X x y m D a u - X x y m D b u:=fun u hu=>by
   rw [X_sub];have:=up_le (Int.le_of_lt hb) hu;omega
 refine P.no a b h ⟨cross_lt P (mul_lt_of ?_),cross_lt P (mul_lt_of ?_)⟩
 · rcases Int.le_total (y b) (y (b+1)) with q | q
   · exact .inl ⟨low _ (by omega),high _ (by omega)⟩
   · exact .inr ⟨high _ (by omega),low _ (by omega)⟩
 · rcases Int.le_total (y a) (y (a+1)) with q | q
   · have:=low (y a) (by omega);have:=high (y (a+1)) (by omega)
     exact .inr ⟨by omega,by omega⟩
   · have:=low (y (a+1)) (by omega);have:=high (y a) (by omega)
     exact .inl ⟨by omega,by omega⟩
theorem nc_far (P:Poly n x y m D) {a b j:Int} (h:far n a b) (ha:act y a j) (hb:act y b j) :
   (0 < X x y m D a j - X x y m D b j /\ 0 < X x y m D a (j+1) - X x y m D b (j+1)) \/ (X x y m D a j - X x y m D b j < 0 /\ X x y m D a (j+1) - X x y m D b (j+1) < 0):=by
 have e1:=fun c hc hw=>end_ne P (c:=c) h hc hw
 have e2:=fun c hc hw=>end_ne P (c:=c) (far_comm h) hc hw
 obtain ⟨lo,hlo,la,lb,nlo⟩:∃ lo,lo <= j /\ min (y a) (y (a+1)) <= lo /\ min (y b) (y (b+1)) <= lo /\ X x y m D a lo - X x y m D b lo ≠ 0:=by
   unfold act at ha hb
   rcases Int.le_total (min (y a) (y (a+1))) (min (y b) (y (b+1))) with q | q
   · rcases Int.le_total (y b) (y (b+1)) with r | r
     · exact ⟨y b,by omega,by omega,by omega,e1 b (.inl rfl) ⟨by omega,by omega⟩⟩
     · exact ⟨y (b+1),by omega,by omega,by omega,e1 (b+1) (.inr rfl) ⟨by omega,by omega⟩⟩
   · rcases Int.le_total (y a) (y (a+1)) with r | r
     · exact ⟨y a,by omega,by omega,by omega,fun e=>e2 a (.inl rfl) ⟨by omega,by omega⟩ (by omega)⟩
     · exact ⟨y (a+1),by omega,by omega,by omega,fun e=>e2 (a+1) (.inr rfl) ⟨by omega,by omega⟩ (by omega)⟩
 obtain ⟨hi,hhi,ua,ub,nhi⟩:∃ hi,j+1 <= hi /\ hi <= max (y a) (y (a+1)) /\ hi <= max (y b) (y (b+1)) /\ X x y m D a hi - X x y m D b hi ≠ 0:=by
   unfold act at ha hb
   rcases Int.le_total (max (y b) (y (b+1))) (max (y a) (y (a+1))) with q | q
   · rcases Int.le_total (y b) (y (b+1)) with r | r
     · exact ⟨y (b+1),by omega,by omega,by omega,e1 (b+1) (.inr rfl) ⟨by omega,by omega⟩⟩
     · exact ⟨y b,by omega,by omega,by omega,e1 b (.inl rfl) ⟨by omega,by omega⟩⟩
   · rcases Int.le_total (y a) (y (a+1)) with r | r
     · exact ⟨y (a+1),by omega,by omega,by omega,fun e=>e2 (a+1) (.inr rfl) ⟨by omega,by omega⟩ (by omega)⟩
     · exact ⟨y a,by omega,by omega,by omega,fun e=>e2 a (.inl rfl) ⟨by omega,by omega⟩ (by omega)⟩
 rcases Int.lt_or_lt_of_ne nlo with s1 | s1 <;> rcases Int.lt_or_lt_of_ne nhi with s2 | s2
 · rw [X_sub] at s1 s2
   rw [X_sub,X_sub]
   exact .inr ⟨aff_neg s1 s2 (by omega) (by omega),aff_neg s1 s2 (by omega) (by omega)⟩
 · exact (no_cross P h s1 s2 (by omega) la lb ua ub).elim
 · exact (no_cross P (far_comm h) (lo:=lo) (hi:=hi) (by omega) (by omega) (by omega) lb la ub ua).elim
 · rw [X_sub] at s1 s2
   rw [X_sub,X_sub]
   exact .inl ⟨aff_pos s1 s2 (by omega) (by omega),aff_pos s1 s2 (by omega) (by omega)⟩
theorem nc_next (P:Poly n x y m D) {a j:Int} (ha:act y a j) (hb:act y (a+1) j) :
   (0 <= X x y m D a j - X x y m D (a+1) j /\ 0 <= X x y m D a (j+1) - X x y m D (a+1) (j+1) \/ X x y m D a j - X x y m D (a+1) j <= 0 /\ X x y m D a (j+1) - X x y m D (a+1) (j+1) <= 0) /\
   (X x y m D a j - X x y m D (a+1) j=0 ↔ y (a+1)=j) /\ (X x y m D a (j+1) - X x y m D (a+1) (j+1)=0 ↔ y (a+1)=j+1):=by
 have z:X x y m D a (y (a+1)) - X x y m D (a+1) (y (a+1))=0:=by rw [X_hi P,X_lo];omega
 have nz:X x y m D a (y (a+2)) - X x y m D (a+1) (y (a+2)) ≠ 0:=by
   have e:=X_hi P (a+1)
   rw [show a+1+1=a+2 by omega] at e
   rw [e]
   intro e0
   have:=R1 P a (a+2)
   rw [e0,Int.mul_zero] at this
   rcases Int.mul_eq_zero.1 this.symm with h1 | h1
   · have:=P.hD;omega
   · have h2:=P.co a h1
     unfold act at ha hb
     rw [show a+1+1=a+2 by omega] at hb
     omega
 rw [X_sub] at z nz
 rw [X_sub,X_sub]
 generalize (D * x a - m a * y a - (D * x (a+1) - m (a+1) * y (a+1)))=α at *
 generalize m a - m (a+1)=β at *
 have h:∀ Y,α+β * Y=β * (Y - y (a+1)):=fun Y=>by rw [Int.mul_sub];omega
 have hβ:β ≠ 0:=fun e=>nz (by rw [h,e,Int.zero_mul])
 rw [h,h]
 refine ⟨?_,?_,?_⟩
 · rcases Int.le_total 0 β with q | q
   · rcases Int.lt_or_le j (y (a+1)) with r | r
     rotate_left
     · exact .inl ⟨Int.mul_nonneg q (by omega),Int.mul_nonneg q (by omega)⟩
     · exact .inr ⟨Int.mul_nonpos_of_nonneg_of_nonpos q (by omega),Int.mul_nonpos_of_nonneg_of_nonpos q (by omega)⟩
   · rcases Int.lt_or_le j (y (a+1)) with r | r
     rotate_left
     · exact .inr ⟨Int.mul_nonpos_of_nonpos_of_nonneg q (by omega),Int.mul_nonpos_of_nonpos_of_nonneg q (by omega)⟩
     · exact .inl ⟨Int.mul_nonneg_of_nonpos_of_nonpos q (by omega),Int.mul_nonneg_of_nonpos_of_nonpos q (by omega)⟩
 · rw [Int.mul_eq_zero];omega
 · rw [Int.mul_eq_zero];omega
end
end PArea
namespace PArea
def sm (f:Int -> Int):Nat -> Int
 | 0=>0
 | k+1=>sm f k+f (k:Int)
theorem sm_cong {f g:Int -> Int}:∀ {k:Nat},(∀ i:Nat,i < k -> f (i:Int)=g (i:Int)) -> sm f k=sm g k
 | 0,_=>rfl
 | k+1,h=>by rw [sm,sm,sm_cong (fun i hi=>h i (by omega)),h k (by omega)]
theorem sm_zero:∀ k,sm (fun _=>0) k=0
 | 0=>rfl
 | k+1=>by rw [sm,sm_zero k];rfl
theorem sm_sub {f g:Int -> Int}:∀ k,sm (fun i=>f i - g i) k=sm f k - sm g k
 | 0=>rfl
 | k+1=>by rw [sm,sm,sm,sm_sub k];omega
theorem sm_tele {g:Int -> Int}:∀ k:Nat,sm (fun i=>g (i+1) - g i) k=g (k:Int) - g 0
 | 0=>by show 0=g 0 - g 0;omega
 | k+1=>by
   rw [sm,sm_tele k,show ((k+1:Nat):Int)=(k:Int)+1 by omega];omega
theorem sm_left {f:Int -> Int}:∀ k,sm f (k+1)=f 0+sm (fun i=>f (i+1)) k
 | 0=>by show 0+f 0=f 0+0;omega
 | k+1=>by
   rw [sm,sm_left k]
   show f 0+sm (fun i=>f (i+1)) k+f ((k+1:Nat):Int)=f 0+(sm (fun i=>f (i+1)) k+f ((k:Int)+1))
   rw [show ((k+1:Nat):Int)=(k:Int)+1 by omega]
   omega
def per (n:Nat) (f:Int -> Int):Prop:=∀ a b:Int,a % (n:Int)=b % (n:Int) -> f a=f b
theorem per_tele {n:Nat} {g:Int -> Int} (h:per n g):sm (fun i=>g (i+1) - g i) n=0:=by
 rw [sm_tele,h (n:Int) 0 (by rw [Int.emod_self,Int.zero_emod])];omega
theorem sm_shift1 {n:Nat} {f:Int -> Int} (h:per n f):sm (fun i=>f (i+1)) n=sm f n:=by
 have:=sm_sub (f:=fun i=>f (i+1)) (g:=f) n
 rw [per_tele h] at this
 omega
theorem sm_shift {n:Nat}:∀ (c:Nat) {f:Int -> Int},per n f -> sm (fun i=>f (i+c)) n=sm f n
 | 0,f,_=>sm_cong (fun i _=>by rw [show (i:Int)+((0:Nat):Int)=i by omega])
 | c+1,f,h=>by
   have e:sm (fun i=>f (i+((c+1:Nat):Int))) n=sm (fun i=>(fun j=>f (j+c)) (i+1)) n:=sm_cong (fun i _=>by
     show f ((i:Int)+((c+1:Nat):Int))=f ((i:Int)+1+(c:Int))
     rw [show (i:Int)+((c+1:Nat):Int)=(i:Int)+1+(c:Int) by omega])
   rw [e,sm_shift1 (f:=fun j=>f (j+c)) (fun a b hab=>h _ _ (by rw [Int.add_emod,hab,<- Int.add_emod])),sm_shift c h]
theorem sm_one {n:Nat} (hn:0 < n) {f g:Int -> Int} (hf:per n f) (hg:per n g) (c:Int) (h:∀ b:Int,b % (n:Int) ≠ c % (n:Int) -> f b=g b):sm f n - sm g n=f c - g c:=by
 have h0:=Int.emod_nonneg c (show (n:Int) ≠ 0 by omega)
 rw [<- sm_sub]
 have hp:per n (fun i=>f i - g i):=fun a b hab=>by show f a - g a=f b - g b;rw [hf a b hab,hg a b hab]
 rw [<- sm_shift (c % (n:Int)).toNat hp]
 have e0:((c % (n:Int)).toNat:Int)=c % (n:Int):=Int.toNat_of_nonneg h0
 rw [e0]
 obtain ⟨k,rfl⟩:∃ k,n=k+1:=⟨n - 1,by omega⟩
 rw [sm_left]
 have z:sm (fun i=>f (i+1+c % ((k+1:Nat):Int)) - g (i+1+c % ((k+1:Nat):Int))) k=sm (fun _=>0) k:=sm_cong (fun i hi=>by
   have:f ((i:Int)+1+c % ((k+1:Nat):Int))=g ((i:Int)+1+c % ((k+1:Nat):Int)):=h _ (fun e=>by
     have h1:((i:Int)+1+c % ((k+1:Nat):Int) - c) % ((k+1:Nat):Int)=0:=by rw [Int.sub_emod,e,Int.sub_self,Int.zero_emod]
     rw [Int.sub_emod,Int.add_emod_emod,<- Int.sub_emod,show (i:Int)+1+c - c=(i:Int)+1 by omega,Int.emod_eq_of_lt (by omega) (by omega)] at h1
     omega)
   show _ - _=(0:Int)
   rw [this,Int.sub_self])
 have e2:f (0+c % ((k+1:Nat):Int))=f c:=hf _ _ (by rw [Int.zero_add,Int.emod_emod])
 have e3:g (0+c % ((k+1:Nat):Int))=g c:=hg _ _ (by rw [Int.zero_add,Int.emod_emod])
 show f (0+c % ((k+1:Nat):Int)) - g (0+c % ((k+1:Nat):Int))+sm (fun i=>f (i+1+c % ((k+1:Nat):Int)) - g (i+1+c % ((k+1:Nat):Int))) k=_
 rw [z,sm_zero,e2,e3]
 omega
def ind (p:Prop) [Decidable p]:Int:=if p then 1 else 0
theorem ind_t {p:Prop} [Decidable p] (h:p):ind p=1:=if_pos h
theorem ind_f {p:Prop} [Decidable p] (h:¬ p):ind p=0:=if_neg h
def q (y:Int -> Int) (j a:Int):Int:=ind (j < y (a+1)) - ind (j < y a)
section
variable {n:Nat} {x y m:Int -> Int} {D:Int}
theorem succ_mod {a b:Int} (h:a % (n:Int)=b % (n:Int)) (c:Int):(a+c) % (n:Int)=(b+c) % (n:Int):=by
 rw [Int.add_emod,h,<- Int.add_emod]
theorem X_per (P:Poly n x y m D) {a b:Int} (h:a % (n:Int)=b % (n:Int)) (Y:Int):X x y m D a Y=X x y m D b Y:=by
 unfold X;rw [P.px a b h,P.py a b h,P.pm a b h]
theorem y_per1 (P:Poly n x y m D) {a b:Int} (h:a % (n:Int)=b % (n:Int)):y (a+1)=y (b+1):=P.py _ _ (succ_mod h 1)
theorem act_per (P:Poly n x y m D) {a b j:Int} (h:a % (n:Int)=b % (n:Int)):act y a j ↔ act y b j:=by
 unfold act;rw [P.py a b h,y_per1 P h]
theorem q_per (P:Poly n x y m D) (j:Int):per n (q y j):=fun a b h=>by unfold q;rw [P.py a b h,y_per1 P h]
theorem q_up {a j:Int} (h1:y a <= j) (h2:j < y (a+1)):q y j a=1:=by unfold q;rw [ind_t h2,ind_f (by omega)];rfl
theorem q_dn {a j:Int} (h1:y (a+1) <= j) (h2:j < y a):q y j a = -1:=by unfold q;rw [ind_t h2,ind_f (show ¬ j < y (a+1) by omega)];rfl
theorem q_no {a j:Int} (h:¬ act y a j):q y j a=0:=by
 unfold act at h
 unfold q
 by_cases h1:j < y a
 · rw [ind_t h1,ind_t (show j < y (a+1) by omega)];rfl
 · rw [ind_f h1,ind_f (show ¬ j < y (a+1) by omega)];rfl
theorem count_line (P:Poly n x y m D) (Y T:Int):sm (fun b=>q y Y b * ind (X x y m D b Y < T)) n=sm (fun b=>q y (Y - 1) b * ind (X x y m D b Y < T)) n:=by
 have hp:per n (fun k=>ind (y k=Y) * ind (D * x k < T)):=fun a b h=>by show ind (y a=Y) * _=_;rw [P.py a b h,P.px a b h]
 have key:∀ b:Int,q y Y b * ind (X x y m D b Y < T) - q y (Y - 1) b * ind (X x y m D b Y < T) = - (ind (y (b+1)=Y) * ind (D * x (b+1) < T) - ind (y b=Y) * ind (D * x b < T)):=fun b=>by
   have hd:=dy_ne P b
   unfold q
   by_cases h1:y b=Y
   · have e:X x y m D b Y=D * x b:=by rw [<- h1];exact X_lo b
     rw [e,ind_t h1,ind_f (show ¬ y (b+1)=Y by omega),ind_f (show ¬ Y < y b by omega),ind_t (show Y - 1 < y b by omega)]
     by_cases h2:Y < y (b+1)
     · rw [ind_t h2,ind_t (show Y - 1 < y (b+1) by omega)];omega
     · rw [ind_f h2,ind_f (show ¬ Y - 1 < y (b+1) by omega)];omega
   · by_cases h3:y (b+1)=Y
     · have e:X x y m D b Y=D * x (b+1):=by rw [<- h3];exact X_hi P b
       rw [e,ind_t h3,ind_f h1,ind_f (show ¬ Y < y (b+1) by omega),ind_t (show Y - 1 < y (b+1) by omega)]
       by_cases h2:Y < y b
       · rw [ind_t h2,ind_t (show Y - 1 < y b by omega)];omega
       · rw [ind_f h2,ind_f (show ¬ Y - 1 < y b by omega)];omega
     · rw [ind_f h1,ind_f h3]
       have e1:ind (Y < y (b+1))=ind (Y - 1 < y (b+1)):=by
         by_cases h:Y < y (b+1)
         · rw [ind_t h,ind_t (by omega)]
         · rw [ind_f h,ind_f (by omega)]
       have e2:ind (Y < y b)=ind (Y - 1 < y b):=by
         by_cases h:Y < y b
         · rw [ind_t h,ind_t (by omega)]
         · rw [ind_f h,ind_f (by omega)]
       rw [e1,e2];omega
 have h1:=sm_sub (f:=fun b=>q y Y b * ind (X x y m D b Y < T)) (g:=fun b=>q y (Y - 1) b * ind (X x y m D b Y < T)) n
 have h2:sm (fun b=>q y Y b * ind (X x y m D b Y < T) - q y (Y - 1) b * ind (X x y m D b Y < T)) n=sm (fun b=>0 - ((fun k=>ind (y k=Y) * ind (D * x k < T)) (b+1) - (fun k=>ind (y k=Y) * ind (D * x k < T)) b)) n:=sm_cong (fun i _=>by rw [key];exact (Int.zero_sub _).symm)
 rw [h2] at h1
 have h3:=sm_sub (f:=fun _=>0) (g:=fun b=>(fun k=>ind (y k=Y) * ind (D * x k < T)) (b+1) - (fun k=>ind (y k=Y) * ind (D * x k < T)) b) n
 rw [sm_zero,per_tele hp] at h3
 rw [h3] at h1
 omega
def V (x y m:Int -> Int) (D b j:Int):Int:=X x y m D b j+X x y m D b (j+1)
theorem sep (P:Poly n x y m D) {a b j:Int} (ha:act y a j) (hb:act y b j) (hab:b % (n:Int) ≠ a % (n:Int)) :
   (0 <= X x y m D a j - X x y m D b j /\ 0 <= X x y m D a (j+1) - X x y m D b (j+1) \/ X x y m D a j - X x y m D b j <= 0 /\ X x y m D a (j+1) - X x y m D b (j+1) <= 0) /\
   ¬ (X x y m D a j - X x y m D b j=0 /\ X x y m D a (j+1) - X x y m D b (j+1)=0) /\
   (X x y m D a (j+1) - X x y m D b (j+1)=0 -> (b % (n:Int)=(a+1) % (n:Int) /\ y (a+1)=j+1) \/ ((b+1) % (n:Int)=a % (n:Int) /\ y a=j+1)) /\
   (X x y m D a j - X x y m D b j=0 -> (b % (n:Int)=(a+1) % (n:Int) /\ y (a+1)=j) \/ ((b+1) % (n:Int)=a % (n:Int) /\ y a=j)):=by
 by_cases h1:b % (n:Int)=(a+1) % (n:Int)
 · obtain ⟨q1,q2,q3⟩:=nc_next P (a:=a) (j:=j) ha ((act_per P h1).1 hb)
   rw [X_per P h1,X_per P h1]
   refine ⟨q1,fun e=>?_,fun e=>.inl ⟨h1,q3.1 e⟩,fun e=>.inl ⟨h1,q2.1 e⟩⟩
   have:=q2.1 e.1;have:=q3.1 e.2;omega
 · by_cases h2:(b+1) % (n:Int)=a % (n:Int)
   · obtain ⟨q1,q2,q3⟩:=nc_next P (a:=b) (j:=j) hb ((act_per P h2).2 ha)
     rw [X_per P h2,X_per P h2] at q1
     rw [X_per P h2] at q2
     rw [X_per P h2] at q3
     rw [P.py _ _ h2] at q2 q3
     refine ⟨by omega,fun e=>?_,fun e=>.inr ⟨h2,q3.1 (by omega)⟩,fun e=>.inr ⟨h2,q2.1 (by omega)⟩⟩
     have:=q2.1 (by omega);have:=q3.1 (by omega);omega
   · have:=nc_far P (a:=a) (b:=b) (j:=j) ⟨fun e=>hab e.symm,fun e=>h2 e.symm,fun e=>h1 e.symm⟩ ha hb
     exact ⟨by omega,by omega,by omega,by omega⟩
def W (n:Nat) (x y m:Int -> Int) (D a j:Int):Int:=sm (fun b=>q y j b * ind (V x y m D b j < V x y m D a j)) n
def WX (n:Nat) (x y m:Int -> Int) (D j Y T:Int):Int:=sm (fun b=>q y j b * ind (X x y m D b Y < T)) n
theorem line (P:Poly n x y m D) (Y T:Int):WX n x y m D Y Y T=WX n x y m D (Y - 1) Y T:=count_line P Y T
theorem W_top (P:Poly n x y m D) {a j:Int} (ha:act y a j) (c:Int) (hc:∀ b,act y b j -> b % (n:Int) ≠ a % (n:Int) -> X x y m D a (j+1) - X x y m D b (j+1)=0 -> b % (n:Int)=c % (n:Int)) :
   W n x y m D a j - WX n x y m D j (j+1) (X x y m D a (j+1))=q y j c * ind (V x y m D c j < V x y m D a j) - q y j c * ind (X x y m D c (j+1) < X x y m D a (j+1)):=by
 have hn:=P.hn
 refine sm_one (f:=fun b=>q y j b * ind (V x y m D b j < V x y m D a j)) (g:=fun b=>q y j b * ind (X x y m D b (j+1) < X x y m D a (j+1))) (by omega) (fun s t h=>?_) (fun s t h=>?_) c fun b hb=>?_
 · show q y j s * ind (V x y m D s j < _)=_
   unfold V;rw [q_per P j s t h,X_per P h,X_per P h]
 · show q y j s * ind (X x y m D s (j+1) < _)=_
   rw [q_per P j s t h,X_per P h]
 · show q y j b * ind (V x y m D b j < V x y m D a j)=q y j b * ind (X x y m D b (j+1) < X x y m D a (j+1))
   by_cases hba:b % (n:Int)=a % (n:Int)
   · unfold V
     rw [X_per P hba,X_per P hba,ind_f (by omega),ind_f (by omega)]
   · by_cases hb':act y b j
     · obtain ⟨s1,s2,_,_⟩:=sep P ha hb' hba
       have:X x y m D a (j+1) - X x y m D b (j+1) ≠ 0:=fun e=>hb (hc b hb' hba e)
       unfold V
       by_cases h:X x y m D b (j+1) < X x y m D a (j+1)
       · rw [ind_t h,ind_t (by omega)]
       · rw [ind_f h,ind_f (by omega)]
     · rw [q_no hb',Int.zero_mul,Int.zero_mul]
theorem W_bot (P:Poly n x y m D) {a j:Int} (ha:act y a j) (c:Int) (hc:∀ b,act y b j -> b % (n:Int) ≠ a % (n:Int) -> X x y m D a j - X x y m D b j=0 -> b % (n:Int)=c % (n:Int)) :
   W n x y m D a j - WX n x y m D j j (X x y m D a j)=q y j c * ind (V x y m D c j < V x y m D a j) - q y j c * ind (X x y m D c j < X x y m D a j):=by
 have hn:=P.hn
 refine sm_one (f:=fun b=>q y j b * ind (V x y m D b j < V x y m D a j)) (g:=fun b=>q y j b * ind (X x y m D b j < X x y m D a j)) (by omega) (fun s t h=>?_) (fun s t h=>?_) c fun b hb=>?_
 · show q y j s * ind (V x y m D s j < _)=_
   unfold V;rw [q_per P j s t h,X_per P h,X_per P h]
 · show q y j s * ind (X x y m D s j < _)=_
   rw [q_per P j s t h,X_per P h]
 · show q y j b * ind (V x y m D b j < V x y m D a j)=q y j b * ind (X x y m D b j < X x y m D a j)
   by_cases hba:b % (n:Int)=a % (n:Int)
   · unfold V
     rw [X_per P hba,X_per P hba,ind_f (by omega),ind_f (by omega)]
   · by_cases hb':act y b j
     · obtain ⟨s1,s2,_,_⟩:=sep P ha hb' hba
       have:X x y m D a j - X x y m D b j ≠ 0:=fun e=>hb (hc b hb' hba e)
       unfold V
       by_cases h:X x y m D b j < X x y m D a j
       · rw [ind_t h,ind_t (by omega)]
       · rw [ind_f h,ind_f (by omega)]
     · rw [q_no hb',Int.zero_mul,Int.zero_mul]
end
end PArea
namespace PArea
section
variable {n:Nat} {x y m:Int -> Int} {D:Int}
def K (n:Nat) (x y m:Int -> Int) (D a j:Int):Int:=2 * W n x y m D a j+q y j a
theorem pred_mod {a b c:Int} (h:(a+c) % (n:Int)=(b+c) % (n:Int)):a % (n:Int)=b % (n:Int):=by
 have:=succ_mod h (-c)
 rwa [show a+c + -c=a by omega,show b+c + -c=b by omega] at this
theorem W_topN (P:Poly n x y m D) {a j:Int} (ha:act y a j) (h1:act y (a+1) j -> y (a+1) ≠ j+1) (h2:∀ b,(b+1) % (n:Int)=a % (n:Int) -> act y b j -> y a ≠ j+1) :
   W n x y m D a j=WX n x y m D j (j+1) (X x y m D a (j+1)):=by
 have:=W_top P ha a (fun b hb hba e=>by
   rcases (sep P ha hb hba).2.2.1 e with ⟨q1,q2⟩ | ⟨q1,q2⟩
   · exact absurd q2 (h1 ((act_per P q1).1 hb))
   · exact absurd q2 (h2 b q1 hb))
 rw [ind_f (by omega),ind_f (by omega)] at this
 omega
theorem W_botN (P:Poly n x y m D) {a j:Int} (ha:act y a j) (h1:act y (a+1) j -> y (a+1) ≠ j) (h2:∀ b,(b+1) % (n:Int)=a % (n:Int) -> act y b j -> y a ≠ j) :
   W n x y m D a j=WX n x y m D j j (X x y m D a j):=by
 have:=W_bot P ha a (fun b hb hba e=>by
   rcases (sep P ha hb hba).2.2.2 e with ⟨q1,q2⟩ | ⟨q1,q2⟩
   · exact absurd q2 (h1 ((act_per P q1).1 hb))
   · exact absurd q2 (h2 b q1 hb))
 rw [ind_f (by omega),ind_f (by omega)] at this
 omega
theorem line1 (P:Poly n x y m D) (j T:Int):WX n x y m D (j+1) (j+1) T=WX n x y m D j (j+1) T:=by
 have:=line P (j+1) T
 rwa [show j+1 - 1=j by omega] at this
theorem K_in (P:Poly n x y m D) {a j:Int} (h:act y a j) (h':act y a (j+1)):K n x y m D a j=K n x y m D a (j+1):=by
 have e1:=W_topN P h (fun _=>by unfold act at h h';omega) (fun _ _ _=>by unfold act at h h';omega)
 have e2:=W_botN P h' (fun _=>by unfold act at h h';omega) (fun _ _ _=>by unfold act at h h';omega)
 rw [line1 P] at e2
 have e3:q y j a=q y (j+1) a:=by
   unfold act at h h'
   rcases Int.lt_or_le (y a) (y (a+1)) with g | g
   · rw [q_up (by omega) (by omega),q_up (by omega) (by omega)]
   · rw [q_dn (by omega) (by omega),q_dn (by omega) (by omega)]
 unfold K
 rw [e1,e2,e3]
theorem X_end (P:Poly n x y m D) {a j:Int} (h:y (a+1)=j):X x y m D a j=D * x (a+1) /\ X x y m D (a+1) j=D * x (a+1):=by
 rw [<- h];exact ⟨X_hi P a,X_lo _⟩
theorem aa (a:Int):a+1+1=a+2:=by omega
theorem K_up (P:Poly n x y m D) {a j:Int} (hj:y (a+1)=j+1) (h1:y a < y (a+1)) (h2:y (a+1) < y (a+2)):K n x y m D a j=K n x y m D (a+1) (j+1):=by
 have A1:act y a j:=.inl ⟨by omega,by omega⟩
 have A2:act y (a+1) (j+1):=.inl ⟨by omega,by rw [aa];omega⟩
 have e1:=W_topN P A1 (fun h=>by unfold act at h;rw [aa] at h;omega) (fun _ _ _=>by omega)
 have e2:=W_botN P A2 (fun _=>by rw [aa];omega) (fun b hb hB=>by
   have:=(act_per P (pred_mod hb)).1 hB
   unfold act at this;omega)
 obtain ⟨x1,x2⟩:=X_end P hj
 rw [x1] at e1
 rw [x2,line1 P] at e2
 unfold K
 rw [e1,e2,q_up (by omega) (by omega),q_up (by omega) (by rw [aa];omega)]
theorem K_dn (P:Poly n x y m D) {a j:Int} (hj:y (a+1)=j+1) (h1:y (a+1) < y a) (h2:y (a+2) < y (a+1)):K n x y m D a (j+1)=K n x y m D (a+1) j:=by
 have A1:act y a (j+1):=.inr ⟨by omega,by omega⟩
 have A2:act y (a+1) j:=.inr ⟨by rw [aa];omega,by omega⟩
 have e1:=W_botN P A1 (fun h=>by unfold act at h;rw [aa] at h;omega) (fun _ _ _=>by omega)
 have e2:=W_topN P A2 (fun _=>by rw [aa];omega) (fun b hb hB=>by
   have:=(act_per P (pred_mod hb)).1 hB
   unfold act at this;omega)
 obtain ⟨x1,x2⟩:=X_end P hj
 rw [x1,line1 P] at e1
 rw [x2] at e2
 unfold K
 rw [e1,e2,q_dn (by omega) (by omega),q_dn (by rw [aa];omega) (by omega)]
theorem V_ne (P:Poly n x y m D) {a b j:Int} (ha:act y a j) (hb:act y b j) (hab:b % (n:Int) ≠ a % (n:Int)):V x y m D a j ≠ V x y m D b j:=by
 obtain ⟨s1,s2,_,_⟩:=sep P ha hb hab
 unfold V;omega
theorem K_max (P:Poly n x y m D) {a j:Int} (hj:y (a+1)=j+1) (h1:y a < y (a+1)) (h2:y (a+2) < y (a+1)):K n x y m D a j=K n x y m D (a+1) j:=by
 have A1:act y a j:=.inl ⟨by omega,by omega⟩
 have A2:act y (a+1) j:=.inr ⟨by rw [aa];omega,by omega⟩
 have e1:=W_top P A1 (a+1) (fun b hb hba e=>by
   rcases (sep P A1 hb hba).2.2.1 e with ⟨q1,_⟩ | ⟨_,q2⟩
   · exact q1
   · omega)
 have e2:=W_top P A2 a (fun b hb hba e=>by
   rcases (sep P A2 hb hba).2.2.1 e with ⟨_,q2⟩ | ⟨q1,_⟩
   · rw [aa] at q2;omega
   · exact pred_mod q1)
 obtain ⟨x1,x2⟩:=X_end P hj
 rw [x1,x2,q_dn (a:=a+1) (by rw [aa];omega) (by omega),ind_f (show ¬ D * x (a+1) < D * x (a+1) by omega)] at e1
 rw [x1,x2,q_up (a:=a) (by omega) (by omega),ind_f (show ¬ D * x (a+1) < D * x (a+1) by omega)] at e2
 have hV:=V_ne P A1 A2 (fun e=>next_ne P.hn a e.symm)
 unfold K
 rw [q_up (a:=a) (by omega) (by omega),q_dn (a:=a+1) (by rw [aa];omega) (by omega)]
 rcases Int.lt_or_lt_of_ne hV with g | g
 · rw [ind_f (by omega)] at e1
   rw [ind_t g] at e2
   omega
 · rw [ind_t g] at e1
   rw [ind_f (by omega)] at e2
   omega
theorem K_min (P:Poly n x y m D) {a j:Int} (hj:y (a+1)=j) (h1:y (a+1) < y a) (h2:y (a+1) < y (a+2)):K n x y m D a j=K n x y m D (a+1) j:=by
 have A1:act y a j:=.inr ⟨by omega,by omega⟩
 have A2:act y (a+1) j:=.inl ⟨by omega,by rw [aa];omega⟩
 have e1:=W_bot P A1 (a+1) (fun b hb hba e=>by
   rcases (sep P A1 hb hba).2.2.2 e with ⟨q1,_⟩ | ⟨_,q2⟩
   · exact q1
   · omega)
 have e2:=W_bot P A2 a (fun b hb hba e=>by
   rcases (sep P A2 hb hba).2.2.2 e with ⟨_,q2⟩ | ⟨q1,_⟩
   · rw [aa] at q2;omega
   · exact pred_mod q1)
 obtain ⟨x1,x2⟩:=X_end P hj
 rw [x1,x2,q_up (a:=a+1) (by omega) (by rw [aa];omega),ind_f (show ¬ D * x (a+1) < D * x (a+1) by omega)] at e1
 rw [x1,x2,q_dn (a:=a) (by omega) (by omega),ind_f (show ¬ D * x (a+1) < D * x (a+1) by omega)] at e2
 have hV:=V_ne P A1 A2 (fun e=>next_ne P.hn a e.symm)
 unfold K
 rw [q_dn (a:=a) (by omega) (by omega),q_up (a:=a+1) (by omega) (by rw [aa];omega)]
 rcases Int.lt_or_lt_of_ne hV with g | g
 · rw [ind_f (by omega)] at e1
   rw [ind_t g] at e2
   omega
 · rw [ind_t g] at e1
   rw [ind_f (by omega)] at e2
   omega
theorem K_add (P:Poly n x y m D) {a j:Int}:∀ d:Nat,act y a j -> act y a (j+d) -> K n x y m D a j=K n x y m D a (j+d)
 | 0,_,_=>by rw [show j+((0:Nat):Int)=j by omega]
 | d+1,h,h'=>by
   have hm:act y a (j+d):=by unfold act at *;omega
   rw [K_add P d h hm]
   rw [show j+((d+1:Nat):Int)=j+d+1 by omega] at h' ⊢
   exact K_in P hm h'
theorem K_edge (P:Poly n x y m D) {a j j':Int} (h:act y a j) (h':act y a j'):K n x y m D a j=K n x y m D a j':=by
 rcases Int.le_total j j' with g | g
 · have:=K_add P (j' - j).toNat h (by rwa [show j+((j' - j).toNat:Int)=j' by omega])
   rwa [show j+((j' - j).toNat:Int)=j' by omega] at this
 · have:=K_add P (j - j').toNat h' (by rwa [show j'+((j - j').toNat:Int)=j by omega])
   rw [show j'+((j - j').toNat:Int)=j by omega] at this
   exact this.symm
theorem K_vert (P:Poly n x y m D) {a j j':Int} (h:act y a j) (h':act y (a+1) j'):K n x y m D a j=K n x y m D (a+1) j':=by
 have d1:=dy_ne P a
 have d2:=dy_ne P (a+1)
 rw [aa] at d2
 have hj:y (a+1)=(y (a+1) - 1)+1:=by omega
 rcases Int.lt_or_le (y a) (y (a+1)) with g | g <;> rcases Int.lt_or_le (y (a+1)) (y (a+2)) with g' | g'
 · rw [K_edge P h (j':=y (a+1) - 1) (.inl ⟨by omega,by omega⟩),K_edge P h' (j':=y (a+1) - 1+1) (.inl ⟨by omega,by rw [aa];omega⟩)]
   exact K_up P hj g g'
 · rw [K_edge P h (j':=y (a+1) - 1) (.inl ⟨by omega,by omega⟩),K_edge P h' (j':=y (a+1) - 1) (.inr ⟨by rw [aa];omega,by omega⟩)]
   exact K_max P hj g (by omega)
 · rw [K_edge P h (j':=y (a+1)) (.inr ⟨by omega,by omega⟩),K_edge P h' (j':=y (a+1)) (.inl ⟨by omega,by rw [aa];omega⟩)]
   exact K_min P rfl (by omega) g'
 · rw [K_edge P h (j':=y (a+1) - 1+1) (.inr ⟨by omega,by omega⟩),K_edge P h' (j':=y (a+1) - 1) (.inr ⟨by rw [aa];omega,by omega⟩)]
   exact K_dn P hj (by omega) (by omega)
theorem act_some (P:Poly n x y m D) (a:Int):act y a (min (y a) (y (a+1))):=by
 have:=dy_ne P a
 unfold act;omega
theorem K_go (P:Poly n x y m D) {a j:Int} (h:act y a j):∀ (d:Nat) {j':Int},act y (a+d) j' -> K n x y m D a j=K n x y m D (a+d) j'
 | 0,j',h'=>by rw [show a+((0:Nat):Int)=a by omega] at h' ⊢;exact K_edge P h h'
 | d+1,j',h'=>by
   rw [K_go P h d (act_some P (a+d))]
   rw [show a+((d+1:Nat):Int)=a+d+1 by omega] at h' ⊢
   exact K_vert P (act_some P (a+d)) h'
theorem V_per (P:Poly n x y m D) {a b:Int} (h:a % (n:Int)=b % (n:Int)) (j:Int):V x y m D a j=V x y m D b j:=by
 unfold V;rw [X_per P h,X_per P h]
theorem K_per (P:Poly n x y m D) {a b j:Int} (h:a % (n:Int)=b % (n:Int)):K n x y m D a j=K n x y m D b j:=by
 unfold K W
 rw [V_per P h,q_per P j a b h]
theorem K_all (P:Poly n x y m D):∃ κ,∀ a j,act y a j -> K n x y m D a j=κ:=by
 refine ⟨K n x y m D 0 (min (y 0) (y (0+1))),fun a j h=>?_⟩
 have hn:=P.hn
 have h0:=Int.emod_nonneg a (show (n:Int) ≠ 0 by omega)
 have e:a % (n:Int)=(0+((a % (n:Int)).toNat:Int)) % (n:Int):=by
   rw [Int.toNat_of_nonneg h0,Int.zero_add,Int.emod_emod]
 rw [K_per P e]
 exact (K_go P (act_some P 0) _ ((act_per P e).1 h)).symm
end
end PArea
namespace PArea
theorem sm_add {f g:Int -> Int}:∀ k,sm (fun i=>f i+g i) k=sm f k+sm g k
 | 0=>rfl
 | k+1=>by rw [sm,sm,sm,sm_add k];omega
theorem sm_mul {f:Int -> Int} (c:Int):∀ k,sm (fun i=>c * f i) k=c * sm f k
 | 0=>by show 0=c * 0;omega
 | k+1=>by rw [sm,sm,sm_mul c k,Int.mul_add]
theorem exists_min {p:Nat -> Prop} {v:Nat -> Int}:∀ {n:Nat},(∃ k,k < n /\ p k) -> ∃ k,k < n /\ p k /\ ∀ i,i < n -> p i -> v k <= v i
 | 0,⟨_,h,_⟩=>absurd h (Nat.not_lt_zero _)
 | n+1,⟨k,hk,hp⟩=>by
   by_cases h:∃ k,k < n /\ p k
   · obtain ⟨i,h1,h2,h3⟩:=exists_min (v:=v) h
     by_cases hn:p n /\ v n < v i
     · refine ⟨n,Nat.lt_succ_self n,hn.1,fun t ht hpt=>?_⟩
       rcases Nat.lt_succ_iff_lt_or_eq.1 ht with g | rfl
       · have:=h3 t g hpt;omega
       · exact Int.le_refl _
     · refine ⟨i,by omega,h2,fun t ht hpt=>?_⟩
       rcases Nat.lt_succ_iff_lt_or_eq.1 ht with g | rfl
       · exact h3 t g hpt
       · have:¬ v t < v i:=fun g=>hn ⟨hpt,g⟩
         omega
   · have e : k = n := by
       rcases Nat.lt_succ_iff_lt_or_eq.1 hk with g | g
       · exact absurd ⟨k,g,hp⟩ h
       · exact g
     subst e
     refine ⟨k,hk,hp,fun t ht hpt=>?_⟩
     rcases Nat.lt_succ_iff_lt_or_eq.1 ht with g | rfl
     · exact absurd ⟨t,g,hpt⟩ h
     · exact Int.le_refl _
section
variable {n:Nat} {x y m:Int -> Int} {D:Int}
theorem min_all (P:Poly n x y m D) {j:Int} (p:Int -> Prop) (hp:∀ a b:Int,a % (n:Int)=b % (n:Int) -> (p a ↔ p b)) (s:Int) (h:∃ a,act y a j /\ p a):∃ a,act y a j /\ p a /\ ∀ b,act y b j -> p b -> s * V x y m D a j <= s * V x y m D b j:=by
 have hn:=P.hn
 have red:∀ a:Int,∃ k:Nat,k < n /\ a % (n:Int)=(k:Int) % (n:Int):=fun a=>by
   have h0:=Int.emod_nonneg a (show (n:Int) ≠ 0 by omega)
   have h1:=Int.emod_lt_of_pos a (show 0 < (n:Int) by omega)
   exact ⟨(a % (n:Int)).toNat,by omega,by rw [Int.toNat_of_nonneg h0,Int.emod_emod]⟩
 obtain ⟨a,h1,h2⟩:=h
 obtain ⟨k,hk,e⟩:=red a
 obtain ⟨i,_,⟨g1,g2⟩,g3⟩:=exists_min (p:=fun k=>act y (k:Int) j /\ p (k:Int)) (v:=fun k=>s * V x y m D (k:Int) j) (n:=n) ⟨k,hk,(act_per P e).1 h1,(hp _ _ e).1 h2⟩
 refine ⟨(i:Int),g1,g2,fun b hb hpb=>?_⟩
 obtain ⟨t,ht,e⟩:=red b
 rw [V_per P e]
 exact g3 t ht ⟨(act_per P e).1 hb,(hp _ _ e).1 hpb⟩
theorem q_one {a j:Int} (h:act y a j):q y j a=1 \/ q y j a = -1:=by
 rcases h with h | h
 · exact .inl (q_up h.1 h.2)
 · exact .inr (q_dn h.1 h.2)
theorem W_low (P:Poly n x y m D) {a j:Int} (hmin:∀ b,act y b j -> V x y m D a j <= V x y m D b j):W n x y m D a j=0:=by
 unfold W
 rw [<- sm_zero n]
 refine sm_cong fun i _=>?_
 by_cases h:act y (i:Int) j
 · have:=hmin _ h
   rw [ind_f (by omega),Int.mul_zero]
 · rw [q_no h,Int.zero_mul]
theorem q_sum (P:Poly n x y m D) (j:Int):sm (q y j) n=0:=by
 have:=per_tele (n:=n) (g:=fun a=>ind (j < y a)) (fun a b h=>by show ind (j < y a)=ind (j < y b);rw [P.py a b h])
 exact this
def G (n:Nat) (x y m:Int -> Int) (D j t:Int):Int:=sm (fun b=>q y j b * max 0 (V x y m D b j - t)) n
def Wt (n:Nat) (x y m:Int -> Int) (D j t:Int):Int:=sm (fun b=>q y j b * ind (V x y m D b j <= t)) n
theorem G_step (P:Poly n x y m D) (j t:Int):G n x y m D j t - G n x y m D j (t+1) = - Wt n x y m D j t:=by
 have e1:=sm_sub (f:=fun b=>q y j b * max 0 (V x y m D b j - t)) (g:=fun b=>q y j b * max 0 (V x y m D b j - (t+1))) n
 have e2:sm (fun b=>q y j b * max 0 (V x y m D b j - t) - q y j b * max 0 (V x y m D b j - (t+1))) n=sm (fun b=>q y j b - q y j b * ind (V x y m D b j <= t)) n:=sm_cong fun i _=>by
   rw [<- Int.mul_sub]
   by_cases h:V x y m D (i:Int) j <= t
   · rw [ind_t h,show max 0 (V x y m D (i:Int) j - t) - max 0 (V x y m D (i:Int) j - (t+1))=0 by omega];omega
   · rw [ind_f h,show max 0 (V x y m D (i:Int) j - t) - max 0 (V x y m D (i:Int) j - (t+1))=1 by omega];omega
 have e3:=sm_sub (f:=fun b=>q y j b) (g:=fun b=>q y j b * ind (V x y m D b j <= t)) n
 have e4:=q_sum P j
 change sm (fun b=>q y j b) n=0 at e4
 unfold G Wt
 omega
theorem Wt_top (P:Poly n x y m D) {a j t:Int} (ha:act y a j) (hat:V x y m D a j <= t) (hmax:∀ b,act y b j -> V x y m D b j <= t -> V x y m D b j <= V x y m D a j):Wt n x y m D j t=W n x y m D a j+q y j a:=by
 have hn:=P.hn
 have := sm_one (n := n) (by omega) (f := fun b => q y j b * ind (V x y m D b j <= t)) (g := fun b => q y j b * ind (V x y m D b j < V x y m D a j)) (fun s u h => by
     show q y j s * ind (V x y m D s j <= t)=_
     rw [q_per P j s u h,V_per P h]) (fun s u h=>by
     show q y j s * ind (V x y m D s j < _)=_
     rw [q_per P j s u h,V_per P h]) a (fun b hb=>by
     show q y j b * ind (V x y m D b j <= t)=q y j b * ind (V x y m D b j < V x y m D a j)
     by_cases h:act y b j
     · have hne:=V_ne P ha h hb
       by_cases g:V x y m D b j <= t
       · have:=hmax b h g
         rw [ind_t g,ind_t (by omega)]
       · rw [ind_f g,ind_f (by omega)]
     · rw [q_no h,Int.zero_mul,Int.zero_mul])
 have this:Wt n x y m D j t - W n x y m D a j=q y j a * ind (V x y m D a j <= t) - q y j a * ind (V x y m D a j < V x y m D a j):=this
 rw [ind_t hat,ind_f (by omega)] at this
 omega
variable {κ:Int}
theorem κ_one (P:Poly n x y m D) (hκ:∀ a j,act y a j -> K n x y m D a j=κ):κ=1 \/ κ = -1:=by
 obtain ⟨a,ha,_,hmin⟩:=min_all P (j:=min (y 0) (y (0+1))) (fun _=>True) (fun _ _ _=>Iff.rfl) 1 ⟨0,act_some P 0,trivial⟩
 have h:=hκ a _ ha
 unfold K at h
 rw [W_low P (fun b hb=>by have:=hmin b hb trivial;omega)] at h
 rcases q_one ha with e | e <;> omega
theorem Wt_or (P:Poly n x y m D) (hκ:∀ a j,act y a j -> K n x y m D a j=κ) (j t:Int):Wt n x y m D j t=0 \/ Wt n x y m D j t=κ:=by
 by_cases h:∃ a,act y a j /\ V x y m D a j <= t
 · obtain ⟨a,ha,hat,hmax⟩:=min_all P (j:=j) (fun a=>V x y m D a j <= t) (fun _ _ e=>by rw [V_per P e]) (-1) h
   rw [Wt_top P ha hat (fun b hb hbt=>by have:=hmax b hb hbt;omega)]
   have hk:=hκ a j ha
   unfold K at hk
   rcases q_one ha with e | e <;> rcases κ_one P hκ with e' | e' <;> omega
 · refine .inl ?_
   unfold Wt
   rw [<- sm_zero n]
   refine sm_cong fun i _=>?_
   by_cases h':act y (i:Int) j
   · rw [ind_f (fun g=>h ⟨_,h',g⟩),Int.mul_zero]
   · rw [q_no h',Int.zero_mul]
theorem V_bd (P:Poly n x y m D) (j:Int):∃ B,∀ k:Nat,k < n -> V x y m D (k:Int) j <= B:=by
 have:∀ r:Nat,∃ B,∀ k:Nat,k < r -> V x y m D (k:Int) j <= B:=fun r=>by
   induction r with
   | zero=>exact ⟨0,fun k h=>absurd h (Nat.not_lt_zero _)⟩
   | succ r ih =>
     obtain ⟨B,hB⟩:=ih
     refine ⟨max B (V x y m D (r:Int) j),fun k hk=>?_⟩
     rcases Nat.lt_succ_iff_lt_or_eq.1 hk with g | rfl
     · have:=hB k g;omega
     · omega
 exact this n
theorem G_le (P:Poly n x y m D) (hκ:∀ a j,act y a j -> K n x y m D a j=κ) (j:Int) {B:Int} (hB:∀ k:Nat,k < n -> V x y m D (k:Int) j <= B):∀ (r:Nat) (t:Int),B - t <= r -> κ * G n x y m D j t <= 0
 | 0,t,h=>by
   have:G n x y m D j t=0:=by
     unfold G
     refine Eq.trans (sm_cong (g:=fun _=>0) fun i hi=>?_) (sm_zero n)
     have:=hB i hi
     rw [show max 0 (V x y m D (i:Int) j - t)=0 by omega,Int.mul_zero]
   rw [this,Int.mul_zero];exact Int.le_refl _
 | r+1,t,h=>by
   have ih:=G_le P hκ j hB r (t+1) (by omega)
   have hs:=G_step P j t
   rcases κ_one P hκ with rfl | rfl <;> rcases Wt_or P hκ j t with e | e <;> omega
def S (n:Nat) (x y m:Int -> Int) (D j:Int):Int:=sm (fun b=>q y j b * V x y m D b j) n
theorem S_neg (P:Poly n x y m D) (hκ:∀ a j,act y a j -> K n x y m D a j=κ) {j:Int} (h:∃ a,act y a j):κ * S n x y m D j < 0:=by
 obtain ⟨a,ha⟩:=h
 obtain ⟨a,ha,_,hmin⟩:=min_all P (j:=j) (fun _=>True) (fun _ _ _=>Iff.rfl) 1 ⟨a,ha,trivial⟩
 have hmin:∀ b,act y b j -> V x y m D a j <= V x y m D b j:=fun b hb=>by have:=hmin b hb trivial;omega
 obtain ⟨B,hB⟩:=V_bd P j
 have g1:=G_le P hκ j hB (B - (V x y m D a j+1)).toNat (V x y m D a j+1) (by omega)
 have hs:=G_step P j (V x y m D a j)
 have hw:=Wt_top P ha (Int.le_refl _) (fun b _ hb=>hb)
 rw [W_low P hmin] at hw
 have hk:=hκ a j ha
 unfold K at hk
 rw [W_low P hmin] at hk
 have e:G n x y m D j (V x y m D a j)=S n x y m D j:=by
   have e1:=sm_sub (f:=fun b=>q y j b * V x y m D b j) (g:=fun b=>V x y m D a j * q y j b) n
   rw [sm_mul,q_sum P j,Int.mul_zero] at e1
   have e2:G n x y m D j (V x y m D a j)=sm (fun b=>q y j b * V x y m D b j - V x y m D a j * q y j b) n:=by
     unfold G
     refine sm_cong fun i _=>?_
     by_cases h:act y (i:Int) j
     · have:=hmin _ h
       rw [show max 0 (V x y m D (i:Int) j - V x y m D a j)=V x y m D (i:Int) j - V x y m D a j by omega,Int.mul_sub,Int.mul_comm (V x y m D a j)]
     · rw [q_no h];omega
   unfold S
   omega
 rw [<- e]
 rcases κ_one P hκ with e' | e' <;> rw [e'] at g1 hk ⊢ <;> rcases q_one ha with e2 | e2 <;> rw [e2] at hk hw <;> omega
theorem S_zero (P:Poly n x y m D) {j:Int} (h:¬ ∃ a,act y a j):S n x y m D j=0:=by
 unfold S
 rw [<- sm_zero n]
 refine sm_cong fun i _=>?_
 rw [q_no (fun g=>h ⟨_,g⟩),Int.zero_mul]
def F (x y m:Int -> Int) (D b Y:Int):Int:=2 * (D * x b - m b * y b) * Y+m b * (Y * Y)
theorem F_step (b Y:Int):F x y m D b (Y+1) - F x y m D b Y=V x y m D b Y:=by
 unfold F V X;grind
theorem F_edge (P:Poly n x y m D) (b:Int):F x y m D b (y (b+1)) - F x y m D b (y b)=D * ((x b+x (b+1)) * (y (b+1) - y b)):=by
 have:=P.hm b
 unfold F;grind
theorem clip (b J y0:Int) (h:J <= y0):∀ M:Nat,sm (fun i=>ind (J+i < y0) * V x y m D b (J+i)) M=F x y m D b (min y0 (J+M)) - F x y m D b J
 | 0=>by rw [show min y0 (J+((0:Nat):Int))=J by omega];show 0=_;omega
 | M+1=>by
   rw [sm,clip b J y0 h M]
   by_cases g:J+(M:Int) < y0
   · rw [ind_t g,show min y0 (J+(M:Int))=J+M by omega,show min y0 (J+((M+1:Nat):Int))=J+M+1 by omega,<- F_step];omega
   · rw [ind_f g,show min y0 (J+(M:Int))=y0 by omega,show min y0 (J+((M+1:Nat):Int))=y0 by omega];omega
theorem swap (f:Int -> Int -> Int) (n:Nat):∀ M:Nat,sm (fun i=>sm (fun b=>f i b) n) M=sm (fun b=>sm (fun i=>f i b) M) n
 | 0=>by show 0=sm (fun _=>0) n;rw [sm_zero]
 | M+1=>by
   rw [sm,swap f n M,<- sm_add]
   rfl
theorem total (P:Poly n x y m D) (J:Int) (M:Nat) (h:∀ b,J <= y b /\ y b <= J+M):sm (fun i=>S n x y m D (J+i)) M=D * sm (fun b=>(x b+x (b+1)) * (y (b+1) - y b)) n:=by
 have e:sm (fun i=>S n x y m D (J+i)) M=sm (fun b=>sm (fun i=>q y (J+i) b * V x y m D b (J+i)) M) n:=swap (fun i b=>q y (J+i) b * V x y m D b (J+i)) n M
 rw [e,<- sm_mul]
 refine sm_cong fun b _=>?_
 have h1:=clip (x:=x) (y:=y) (m:=m) (D:=D) (b:Int) J (y ((b:Int)+1)) (h _).1 M
 have h2:=clip (x:=x) (y:=y) (m:=m) (D:=D) (b:Int) J (y (b:Int)) (h _).1 M
 rw [show min (y ((b:Int)+1)) (J+(M:Int))=y ((b:Int)+1) by have:=(h ((b:Int)+1)).2;omega] at h1
 rw [show min (y (b:Int)) (J+(M:Int))=y (b:Int) by have:=(h (b:Int)).2;omega] at h2
 have h3:=sm_sub (f:=fun i=>ind (J+i < y ((b:Int)+1)) * V x y m D (b:Int) (J+i)) (g:=fun i=>ind (J+i < y (b:Int)) * V x y m D (b:Int) (J+i)) M
 have h4:sm (fun i=>q y (J+i) (b:Int) * V x y m D (b:Int) (J+i)) M=sm (fun i=>ind (J+i < y ((b:Int)+1)) * V x y m D (b:Int) (J+i) - ind (J+i < y (b:Int)) * V x y m D (b:Int) (J+i)) M:=sm_cong fun i _=>by unfold q;rw [Int.sub_mul]
 have h5:=F_edge P (b:Int)
 omega
theorem y_bd (P:Poly n x y m D):∃ (J:Int) (M:Nat),∀ b,J <= y b /\ y b <= J+M:=by
 have hn:=P.hn
 have:∀ r:Nat,∃ B:Nat,∀ k:Nat,k < r -> -(B:Int) <= y (k:Int) /\ y (k:Int) <= B:=fun r=>by
   induction r with
   | zero=>exact ⟨0,fun k h=>absurd h (Nat.not_lt_zero _)⟩
   | succ r ih =>
     obtain ⟨B,hB⟩:=ih
     refine ⟨max B (y (r:Int)).natAbs,fun k hk=>?_⟩
     rcases Nat.lt_succ_iff_lt_or_eq.1 hk with g | rfl
     · have:=hB k g;omega
     · omega
 obtain ⟨B,hB⟩:=this n
 refine ⟨-(B:Int),2 * B,fun b=>?_⟩
 have h0:=Int.emod_nonneg b (show (n:Int) ≠ 0 by omega)
 have h1:=Int.emod_lt_of_pos b (show 0 < (n:Int) by omega)
 have:=hB (b % (n:Int)).toNat (by omega)
 rw [P.py b ((b % (n:Int)).toNat:Int) (by rw [Int.toNat_of_nonneg h0,Int.emod_emod])]
 omega
theorem sum_neg {f:Int -> Int} (h:∀ i,f i <= 0):∀ {M:Nat},sm f M <= 0 /\ ∀ k:Nat,k < M -> f (k:Int) < 0 -> sm f M < 0
 | 0=>⟨Int.le_refl _,fun k hk=>absurd hk (Nat.not_lt_zero _)⟩
 | M+1=>by
   obtain ⟨h1,h2⟩:=sum_neg h (M:=M)
   have:=h (M:Int)
   refine ⟨by rw [sm];omega,fun k hk hf=>?_⟩
   rw [sm]
   rcases Nat.lt_succ_iff_lt_or_eq.1 hk with g | rfl
   · have:=h2 k g hf;omega
   · omega
theorem area_sg (P:Poly n x y m D) (hκ:∀ a j,act y a j -> K n x y m D a j=κ):κ * sm (fun b=>(x b+x (b+1)) * (y (b+1) - y b)) n < 0:=by
 obtain ⟨J,M,hy⟩:=y_bd P
 have hS:∀ j,κ * S n x y m D j <= 0:=fun j=>by
   by_cases h:∃ a,act y a j
   · exact Int.le_of_lt (S_neg P hκ h)
   · rw [S_zero P h,Int.mul_zero];exact Int.le_refl _
 have hneg:sm (fun i=>κ * S n x y m D (J+i)) M < 0:=by
   have hd:=dy_ne P 0
   have h0:=hy 0
   have h1:=hy (0+1)
   refine (sum_neg (f:=fun i=>κ * S n x y m D (J+i)) (fun i=>hS _) (M:=M)).2 (min (y 0) (y (0+1)) - J).toNat (by omega) ?_
   show κ * S n x y m D (J+((min (y 0) (y (0+1)) - J).toNat:Int)) < 0
   rw [show J+((min (y 0) (y (0+1)) - J).toNat:Int)=min (y 0) (y (0+1)) by omega]
   exact S_neg P hκ ⟨0,act_some P 0⟩
 rw [sm_mul,total P J M hy,<- Int.mul_assoc,Int.mul_comm κ,Int.mul_assoc] at hneg
 rcases Int.lt_or_le (κ * sm (fun b=>(x b+x (b+1)) * (y (b+1) - y b)) n) 0 with g | g
 · exact g
 · have:=Int.mul_nonneg (Int.le_of_lt P.hD) g;omega
theorem area_ne (P:Poly n x y m D):sm (fun b=>x b * y (b+1) - x (b+1) * y b) n ≠ 0:=by
 obtain ⟨κ,hκ⟩:=K_all P
 have hneg:=area_sg P hκ
 intro e
 have e2:sm (fun b=>(x b+x (b+1)) * (y (b+1) - y b)) n=0:=by
   have t:=per_tele (n:=n) (g:=fun b=>x b * y b) (fun a b h=>by show x a * y a=x b * y b;rw [P.px a b h,P.py a b h])
   have s:=sm_add (f:=fun b=>x b * y (b+1) - x (b+1) * y b) (g:=fun b=>x (b+1) * y (b+1) - x b * y b) n
   have u:sm (fun b=>(x b+x (b+1)) * (y (b+1) - y b)) n=sm (fun b=>(x b * y (b+1) - x (b+1) * y b)+(x (b+1) * y (b+1) - x b * y b)) n:=sm_cong fun b _=>by grind
   change sm (fun b=>x (b+1) * y (b+1) - x b * y b) n=0 at t
   omega
 rw [e2,Int.mul_zero] at hneg
 exact absurd hneg (Int.lt_irrefl _)
end
end PArea
theorem sm_P (f:Int -> Int):∀ k,L.sm f k=PArea.sm f k
 | 0=>rfl
 | k+1=>by rw [L.sm,PArea.sm,sm_P f k]
def L.sharp (l:L.Sq L.Pt):Prop:=∀ i,i < l.n -> L.outAt L.cFlat l i=false
theorem sharp_cy {l:L.Sq L.Pt} (hn:0 < l.n) (h:L.sharp l) (a:Int):L.cross (L.cy l (a - 1)) (L.cy l a) (L.cy l (a+1)) ≠ 0:=by
 have hk:=ix_lt (n:=l.n) (i:=a) hn
 have hc:=h _ hk
 have e1:L.prev l.n (L.ix l.n a)=L.ix l.n (a - 1):=by
   rw [<- ix_prev hk,show ((L.ix l.n a:Nat):Int) - 1=((L.ix l.n a:Nat):Int) + -1 by omega,ix_ix hn];rfl
 have e2:L.next l.n (L.ix l.n a)=L.ix l.n (a+1):=by
   rw [<- ix_next hk,ix_ix hn]
 unfold L.outAt L.cFlat at hc
 rw [e1,e2] at hc
 exact of_decide_eq_false hc
theorem cy_per {l:L.Sq L.Pt} (hn:0 < l.n) {a b:Int} (h:a % (l.n:Int)=b % (l.n:Int)):L.cy l a=L.cy l b:=by
 have:=cy_congr (l:=l) hn h 0
 rwa [Int.add_zero,Int.add_zero] at this
theorem far_meet {l:L.Sq L.Pt} (h3:3 <= l.n) (hs:L.simple l=true) {a b:Int} (h:PArea.far l.n a b):L.meet (L.cy l a) (L.cy l (a+1)) (L.cy l b) (L.cy l (b+1))=0:=by
 have:=simpC_of (by omega) hs a b h.1
 rw [if_neg] at this
 · exact this
 · rintro (e | e)
   · exact h.2.2 (emod_eq_of (by rw [e,Int.emod_eq_of_lt (by omega) (by omega)])).symm
   · exact h.2.1 (emod_eq_of (by rw [e,Int.emod_eq_of_lt (by omega) (by omega)]))
theorem cross_dup (a b:L.Pt):L.cross a b b=0:=by unfold L.cross;rw [Int.mul_comm];omega
theorem cross_dup2 (a b:L.Pt):L.cross a a b=0:=by unfold L.cross;rw [Int.sub_self,Int.sub_self,Int.zero_mul,Int.zero_mul];rfl
theorem sharp_inj {l:L.Sq L.Pt} (h3:3 <= l.n) (hs:L.simple l=true) (hc:L.sharp l) {a b:Int} (h:L.cy l a=L.cy l b):a % (l.n:Int)=b % (l.n:Int):=by
 have hn:0 < l.n:=by omega
 have nx:∀ x y:Int,(x+1) % (l.n:Int)=y % (l.n:Int) -> L.cy l x ≠ L.cy l y:=fun x y hxy e=>by
   have:=sharp_cy hn hc (x+1)
   rw [show x+1 - 1=x by omega,cy_per hn hxy,<- e] at this
   exact this (cross_dup2 _ _)
 by_cases hab:a % (l.n:Int)=b % (l.n:Int)
 · exact hab
 by_cases c1:(a+1) % (l.n:Int)=b % (l.n:Int)
 · exact absurd h (nx a b c1)
 by_cases c2:(b+1) % (l.n:Int)=a % (l.n:Int)
 · exact absurd h.symm (nx b a c2)
 have hm:=far_meet h3 hs (a:=a) (b:=b) ⟨hab,fun e=>c2 e.symm,c1⟩
 exact absurd (.inl ⟨by rw [h];exact on_left,rfl⟩) (meet_none hm (L.cy l a))
theorem cmp_sg {a b:Int} (h:a * b < 0):L.cmp a 0 * L.cmp b 0 < 0:=by
 unfold L.cmp
 rcases Int.lt_trichotomy a 0 with h1 | h1 | h1
 · rcases Int.lt_trichotomy b 0 with h2 | h2 | h2
   · have:=Int.mul_pos_of_neg_of_neg h1 h2;omega
   · rw [h2,Int.mul_zero] at h;omega
   · rw [decide_eq_true h1,decide_eq_false (show ¬ b < 0 by omega),decide_eq_true h2];exact (by decide:(-1:Int) * 1 < 0)
 · rw [h1,Int.zero_mul] at h;omega
 · rcases Int.lt_trichotomy b 0 with h2 | h2 | h2
   · rw [decide_eq_false (show ¬ a < 0 by omega),decide_eq_true h1,decide_eq_true h2];exact (by decide:(1:Int) * -1 < 0)
   · rw [h2,Int.mul_zero] at h;omega
   · have:=Int.mul_pos h1 h2;omega
theorem meet_noX {a b c d:L.Pt} (h:L.meet a b c d=0):¬ (L.apart a b c d=true /\ L.apart c d a b=true):=fun ⟨h1,h2⟩=>by
 unfold L.meet at h
 rw [h1,h2] at h
 revert h
 cases decide (1 < ((L.k2 a b c d 2).n:Int)) <;> cases decide (((L.k2 a b c d 2).n:Int)=1) <;> intro h <;> cases h
theorem mult_ex (d:Nat -> Int):∀ r:Nat,∃ D:Int,0 < D /\ ∀ k,k < r -> d k ≠ 0 -> d k ∣ D
 | 0=>⟨1,by decide,fun k h=>absurd h (Nat.not_lt_zero _)⟩
 | r+1=>by
   obtain ⟨D,h1,h2⟩:=mult_ex d r
   by_cases h:d r=0
   · refine ⟨D,h1,fun k hk hne=>?_⟩
     rcases Nat.lt_succ_iff_lt_or_eq.1 hk with g | rfl
     · exact h2 k g hne
     · exact absurd h hne
   · refine ⟨D * ((d r).natAbs:Int),Int.mul_pos h1 (by omega),fun k hk hne=>?_⟩
     rcases Nat.lt_succ_iff_lt_or_eq.1 hk with g | rfl
     · exact Int.dvd_mul_of_dvd_left (h2 k g hne)
     · exact Int.dvd_mul_of_dvd_right (Int.dvd_natAbs.2 (Int.dvd_refl _))
def L.hx (l:L.Sq L.Pt) (a:Int):Int:=(L.cy l a).x
def L.hy (l:L.Sq L.Pt) (a:Int):Int:=8000001 * (L.cy l a).y+(L.cy l a).x
theorem cr_cross (l:L.Sq L.Pt) (a c:Int):PArea.cr (L.hx l) (L.hy l) a c=8000001 * L.cross (L.cy l a) (L.cy l (a+1)) (L.cy l c):=by
 unfold PArea.cr L.hx L.hy L.cross
 grind
theorem cr_neg {p q:Int} (h:8000001 * p * (8000001 * q) < 0):p * q < 0:=by
 have e:8000001 * p * (8000001 * q)=64000016000001 * (p * q):=by grind
 omega
theorem on_of {a b c:L.Pt} (h0:L.cross a b c=0) (hne:a ≠ b) (ba:L.bd a) (bb:L.bd b) (bc:L.bd c) (h1:min (8000001 * a.y+a.x) (8000001 * b.y+b.x) <= 8000001 * c.y+c.x) (h2:8000001 * c.y+c.x <= max (8000001 * a.y+a.x) (8000001 * b.y+b.x)):L.on a b c=true:=by
 unfold L.bd at ba bb bc
 unfold L.cross at h0
 unfold L.on L.within
 have hd:8000001 * (b.y - a.y)+(b.x - a.x) ≠ 0:=fun e=>hne (by
   have e1:b.y=a.y:=by omega
   have e2:b.x=a.x:=by omega
   cases a;cases b;simp only at e1 e2;rw [e1,e2])
 have k1:(c.x - a.x) * (8000001 * (b.y - a.y)+(b.x - a.x))=(b.x - a.x) * (8000001 * (c.y - a.y)+(c.x - a.x)):=by grind
 have k2:(c.y - a.y) * (8000001 * (b.y - a.y)+(b.x - a.x))=(b.y - a.y) * (8000001 * (c.y - a.y)+(c.x - a.x)):=by grind
 have key:∀ u w U Wd:Int,Wd * U=u * w -> U ≠ 0 -> (0 <= w /\ w <= U \/ U <= w /\ w <= 0) -> (0 <= Wd /\ Wd <= u \/ u <= Wd /\ Wd <= 0):=fun u w U Wd e hU hw=>by
   have tri:∀ U w Wd u:Int,0 < U -> 0 <= w -> w <= U -> Wd * U=u * w -> (0 <= Wd /\ Wd <= u \/ u <= Wd /\ Wd <= 0):=fun U w Wd u hU h0 h1 e=>by
     rcases Int.le_total 0 u with g | g
     · refine .inl ⟨?_,?_⟩
       · rcases Int.lt_or_le Wd 0 with q | q
         · have:=Int.mul_neg_of_neg_of_pos q hU
           have:=Int.mul_nonneg g h0
           omega
         · exact q
       · rcases Int.lt_or_le u Wd with q | q
         · have a1:=Int.mul_lt_mul_of_pos_right q hU
           have a2:=Int.mul_le_mul_of_nonneg_left h1 g
           omega
         · exact q
     · refine .inr ⟨?_,?_⟩
       · rcases Int.lt_or_le Wd u with q | q
         · have a1:=Int.mul_lt_mul_of_pos_right q hU
           have a2:=Int.mul_nonneg_of_nonpos_of_nonpos g (show w - U <= 0 by omega)
           rw [Int.mul_sub] at a2
           omega
         · exact q
       · rcases Int.lt_or_le 0 Wd with q | q
         · have:=Int.mul_pos q hU
           have:=Int.mul_nonpos_of_nonpos_of_nonneg g h0
           omega
         · exact q
   rcases hw with ⟨p1,p2⟩ | ⟨p1,p2⟩
   · exact tri U w Wd u (by omega) p1 p2 e
   · exact tri (-U) (-w) Wd u (by omega) (by omega) (by omega) (by rw [Int.mul_neg,Int.mul_neg,e])
 have hr:0 <= 8000001 * (c.y - a.y)+(c.x - a.x) /\ 8000001 * (c.y - a.y)+(c.x - a.x) <= 8000001 * (b.y - a.y)+(b.x - a.x) \/ 8000001 * (b.y - a.y)+(b.x - a.x) <= 8000001 * (c.y - a.y)+(c.x - a.x) /\ 8000001 * (c.y - a.y)+(c.x - a.x) <= 0:=by omega
 have r1:=key _ _ _ _ k1 hd hr
 have r2:=key _ _ _ _ k2 hd hr
 simp only [Bool.and_eq_true,decide_eq_true_eq]
 unfold L.cross
 omega
theorem poly_of {l:L.Sq L.Pt} (h3:3 <= l.n) (hb:L.allBd l) (hs:L.simple l=true) (hc:L.sharp l):∃ m D,PArea.Poly l.n (L.hx l) (L.hy l) m D:=by
 have hn:0 < l.n:=by omega
 have bd:∀ a,L.bd (L.cy l a):=fun a=>hb.2 _ (ix_lt hn)
 have hne:∀ a b:Int,a % (l.n:Int) ≠ b % (l.n:Int) -> L.hy l a ≠ L.hy l b:=fun a b h e=>h (sharp_inj h3 hs hc (by
   have b1:=bd a
   have b2:=bd b
   unfold L.bd at b1 b2
   unfold L.hy at e
   have e1:(L.cy l a).y=(L.cy l b).y:=by omega
   have e2:(L.cy l a).x=(L.cy l b).x:=by omega
   generalize L.cy l a=p at *
   generalize L.cy l b=r at *
   cases p;cases r;simp only at e1 e2;rw [e1,e2]))
 obtain ⟨D,hD,hdv⟩:=mult_ex (fun k=>L.hy l ((k:Int)+1) - L.hy l (k:Int)) l.n
 have dv:∀ a:Int,(L.hy l (a+1) - L.hy l a) ∣ D:=fun a=>by
   have h0:=Int.emod_nonneg a (show (l.n:Int) ≠ 0 by omega)
   have h1:=Int.emod_lt_of_pos a (show 0 < (l.n:Int) by omega)
   have e:a % (l.n:Int)=(((a % (l.n:Int)).toNat:Nat):Int) % (l.n:Int):=by rw [Int.toNat_of_nonneg h0,Int.emod_emod]
   have q1:L.hy l a=L.hy l (((a % (l.n:Int)).toNat:Nat):Int):=by unfold L.hy;rw [cy_per hn e]
   have q2:L.hy l (a+1)=L.hy l ((((a % (l.n:Int)).toNat:Nat):Int)+1):=by unfold L.hy;rw [cy_per hn (PArea.succ_mod e 1)]
   rw [q1,q2]
   refine hdv _ (by omega) ?_
   have:=hne _ _ (PArea.next_ne h3 (((a % (l.n:Int)).toNat:Nat):Int))
   omega
 exact ⟨fun a=>(L.hx l (a+1) - L.hx l a) * (D / (L.hy l (a+1) - L.hy l a)),D,
   { hn:=h3
     px:=fun a b h=>by unfold L.hx;rw [cy_per hn h]
     py:=fun a b h=>by unfold L.hy;rw [cy_per hn h]
     pm:=fun a b h=>by
       show (L.hx l (a+1) - L.hx l a) * (D / (L.hy l (a+1) - L.hy l a))=(L.hx l (b+1) - L.hx l b) * (D / (L.hy l (b+1) - L.hy l b))
       unfold L.hx L.hy;rw [cy_per hn h,cy_per hn (PArea.succ_mod h 1)]
     hD:=hD
     hm:=fun a=>by
       show (L.hx l (a+1) - L.hx l a) * (D / (L.hy l (a+1) - L.hy l a)) * (L.hy l (a+1) - L.hy l a)=_
       rw [Int.mul_assoc,Int.ediv_mul_cancel (dv a),Int.mul_comm]
     hy:=hne
     on:=fun a b h c hcb hw e=>by
       rw [cr_cross] at e
       have e0:L.cross (L.cy l a) (L.cy l (a+1)) (L.cy l c)=0:=by omega
       have hab:L.cy l a ≠ L.cy l (a+1):=fun e=>PArea.next_ne h3 a (sharp_inj h3 hs hc e)
       have ho:=on_of e0 hab (bd _) (bd _) (bd _) hw.1 hw.2
       refine meet_none (far_meet h3 hs h) (L.cy l c) ?_
       rcases hcb with rfl | rfl
       · exact .inr (.inr (.inl ⟨ho,rfl⟩))
       · exact .inr (.inr (.inr ⟨ho,rfl⟩))
     no:=fun a b h ⟨g1,g2⟩=>by
       rw [cr_cross,cr_cross] at g1 g2
       exact meet_noX (far_meet h3 hs h) ⟨decide_eq_true (cmp_sg (cr_neg g1)),decide_eq_true (cmp_sg (cr_neg g2))⟩
     co:=fun a e=>by
       rw [cr_cross] at e
       have:=sharp_cy hn hc (a+1)
       rw [show a+1 - 1=a by omega,show a+1+1=a+2 by omega] at this
       exact absurd (show L.cross (L.cy l a) (L.cy l (a+1)) (L.cy l (a+2))=0 by omega) this }⟩
theorem area_ne0 {l:L.Sq L.Pt} (h3:3 <= l.n) (hb:L.allBd l) (hs:L.simple l=true) (hc:L.sharp l):L.areaTo l l.n ≠ 0:=by
 obtain ⟨_,_,P⟩:=poly_of h3 hb hs hc
 have:=PArea.area_ne P
 rw [area_sm (Nat.le_refl _),sm_P]
 intro e
 apply this
 have u:PArea.sm (fun b=>L.hx l b * L.hy l (b+1) - L.hx l (b+1) * L.hy l b) l.n=PArea.sm (fun b=>8000001 * L.ct l b) l.n:=PArea.sm_cong fun b _=>by
   unfold L.hx L.hy L.ct L.tm;grind
 rw [u,PArea.sm_mul]
 have e':PArea.sm (fun b=>L.ct l b) l.n=0:=e
 rw [e'];rfl
end Go.Proofs.YtinfalehnaejbaaGreat
namespace Go.Proofs.YtinfalehnaejbaaGreat
open Go.SE Go.RowKit
set_option maxRecDepth 100000
set_option maxHeartbeats 4000000
set_option linter.unusedVariables false
attribute [local irreducible] vc
namespace Conf
variable {α:Type}
def Rot (l m:List α):Prop:=∃ u v,l=u ++ v /\ m=v ++ u
theorem Rot.refl (l:List α):Rot l l:=⟨[],l,rfl,(List.append_nil l).symm⟩
theorem Rot.symm {l m:List α}:Rot l m -> Rot m l:=fun ⟨u,v,h1,h2⟩=>⟨v,u,h2,h1⟩
theorem Rot.trans {l m k:List α}:Rot l m -> Rot m k -> Rot l k:=by
 rintro ⟨u,v,rfl,rfl⟩ ⟨p,q,h,rfl⟩
 rcases List.append_eq_append_iff.1 h with ⟨a,rfl,rfl⟩ | ⟨c,rfl,rfl⟩
 · exact ⟨a,q ++ v,by simp,by simp⟩
 · exact ⟨u ++ p,c,by simp,by simp⟩
theorem Rot.len {l m:List α}:Rot l m -> l.length=m.length:=by
 rintro ⟨u,v,rfl,rfl⟩;simp;omega
theorem Rot.mem {l m:List α} (h:Rot l m) {x:α}:x ∈ l ↔ x ∈ m:=by
 obtain ⟨u,v,rfl,rfl⟩:=h;simp [or_comm]
theorem Rot.nodup {l m:List α} (h:Rot l m) (hl:l.Nodup):m.Nodup:=by
 obtain ⟨u,v,rfl,rfl⟩:=h
 exact (List.perm_append_comm.nodup_iff).1 hl
structure Ax (F:α -> α -> α -> Prop):Prop where
 flip:∀ a b c,F a b c -> F c b a
 line:∀ a b c d,F a b c -> F b c d -> b ≠ c -> F a c d /\ F a b d
 dup:∀ a b,F a b b
variable {F:α -> α -> α -> Prop}
def Step (F:α -> α -> α -> Prop) (l m:List α):Prop:=∃ b t,Rot l (b :: t) /\ F (t.getLastD b) b (t.headD b) /\ Rot t m
theorem Step.rot {l l' m m':List α} (h:Step F l m) (hl:Rot l' l) (hm:Rot m m'):Step F l' m':=by
 obtain ⟨b,t,h1,h2,h3⟩:=h
 exact ⟨b,t,hl.trans h1,h2,h3.trans hm⟩
theorem Step.len {l m:List α} (h:Step F l m):l.length=m.length+1:=by
 obtain ⟨b,t,h1,_,h3⟩:=h
 rw [h1.len,<- h3.len];rfl
inductive Red (F:α -> α -> α -> Prop):List α -> List α -> Prop
 | refl {l m}:Rot l m -> Red F l m
 | step {l m k}:Step F l m -> Red F m k -> Red F l k
theorem Red.rot {l m l':List α} (h:Red F l m) (hl:Rot l' l):Red F l' m:=by
 cases h with
 | refl h=>exact .refl (hl.trans h)
 | step h1 h2=>exact .step (h1.rot hl (Rot.refl _)) h2
theorem Red.tail {l m k:List α} (h:Red F l m) (hs:Step F m k):Red F l k:=by
 induction h with
 | refl h=>exact .step (hs.rot h (Rot.refl _)) (.refl (Rot.refl _))
 | step h1 _ ih=>exact .step h1 (ih hs)
end Conf
open Conf in
def L.Fl (a b c:L.Pt):Prop:=L.cross a b c=0
theorem vec0 {ex ey px py qx qy:Int} (he:ex ≠ 0 \/ ey ≠ 0) (h1:ex * py=ey * px) (h2:ex * qy=ey * qx):px * qy=py * qx:=by
 rcases he with he | he
 · have:ex * (px * qy - py * qx)=0:=by grind
   rcases Int.mul_eq_zero.1 this with h | h
   · exact absurd h he
   · omega
 · have:ey * (px * qy - py * qx)=0:=by grind
   rcases Int.mul_eq_zero.1 this with h | h
   · exact absurd h he
   · omega
theorem ax_fl:Conf.Ax L.Fl where
 flip:=fun a b c h=>by unfold L.Fl L.cross at *;grind
 line:=fun a b c d h1 h2 hne=>by
   unfold L.Fl L.cross at *
   have he:c.x - b.x ≠ 0 \/ c.y - b.y ≠ 0:=by
     by_cases h:c.x - b.x=0
     · refine .inr fun h'=>hne ?_
       have e1:b.x=c.x:=by omega
       have e2:b.y=c.y:=by omega
       cases b;cases c;simp only at e1 e2;rw [e1,e2]
     · exact .inl h
   have k1:(c.x - b.x) * (a.y - b.y)=(c.y - b.y) * (a.x - b.x):=by grind
   have k2:(c.x - b.x) * (d.y - b.y)=(c.y - b.y) * (d.x - b.x):=by grind
   have k3:=vec0 he k1 k2
   exact ⟨by grind,by grind⟩
 dup:=fun a b=>cross_dup a b
def L.toL (x:L.Sq L.Pt):List L.Pt:=(List.range x.n).map x.g
theorem toL_get (x:L.Sq L.Pt) (k:Nat):(L.toL x)[k]? = if k < x.n then some (x.g k) else none:=by
 unfold L.toL
 rw [List.getElem?_map]
 by_cases h:k < x.n
 · rw [if_pos h,List.getElem?_range h];rfl
 · rw [if_neg h,List.getElem?_eq_none (by rw [List.length_range];omega)];rfl
theorem toL_len (x:L.Sq L.Pt):(L.toL x).length=x.n:=by unfold L.toL;rw [List.length_map,List.length_range]
theorem toL_ext {x y:L.Sq L.Pt} (h:L.toL x=L.toL y):x.n=y.n /\ ∀ k,k < x.n -> x.g k=y.g k:=by
 have hn:x.n=y.n:=by rw [<- toL_len,h,toL_len]
 refine ⟨hn,fun k hk=>?_⟩
 have e:=toL_get x k
 rw [h,toL_get,if_pos hk,if_pos (by omega)] at e
 exact (Option.some.inj e).symm
theorem toL_split {x:L.Sq L.Pt} {u v:List L.Pt} {b:L.Pt} (h:L.toL x=u ++ b :: v):u.length < x.n /\ x.g u.length=b /\ x.n=u.length+1+v.length /\ (∀ k,k < u.length -> u[k]? = some (x.g k)) /\ ∀ k,k < v.length -> v[k]? = some (x.g (u.length+1+k)):=by
 have hn:=toL_len x
 rw [h,List.length_append,List.length_cons] at hn
 refine ⟨by omega,?_,by omega,fun k hk=>?_,fun k hk=>?_⟩
 · have e:=toL_get x u.length
   rw [h,List.getElem?_append_right (Nat.le_refl _),Nat.sub_self,if_pos (by omega)] at e
   exact (Option.some.inj e).symm
 · have e:=toL_get x k
   rw [h,List.getElem?_append_left hk,if_pos (by omega)] at e
   exact e
 · have e:=toL_get x (u.length+1+k)
   rw [h,List.getElem?_append_right (by omega),show u.length+1+k - u.length=k+1 by omega,List.getElem?_cons_succ,if_pos (by omega)] at e
   exact e
theorem split_of {x:L.Sq L.Pt} {i:Nat} (hi:i < x.n):∃ u v,L.toL x=u ++ x.g i :: v /\ u.length=i:=by
 have hl:i < (L.toL x).length:=by rw [toL_len];exact hi
 refine ⟨(L.toL x).take i,(L.toL x).drop (i+1),?_,by rw [List.length_take];omega⟩
 have e:(L.toL x)[i]=x.g i:=by
   have:=toL_get x i
   rw [if_pos hi,List.getElem?_eq_getElem hl] at this
   exact Option.some.inj this
 rw [<- e,<- List.drop_eq_getElem_cons hl,List.take_append_drop]
theorem prev_at {n i:Nat} (h:i < n):L.prev n i=if i=0 then n - 1 else i - 1:=by
 unfold L.prev
 by_cases h0:i=0
 · subst h0
   rw [if_pos rfl,Int.tmod_eq_of_lt (by omega) (by omega)]
   omega
 · rw [if_neg h0,Int.tmod_eq_emod_of_nonneg (by omega),show (i:Int)+(n:Int) - 1=((i:Int) - 1)+n by omega,Int.add_emod_right,Int.emod_eq_of_lt (by omega) (by omega)]
   omega
theorem next_at {n i:Nat} (h:i < n):L.next n i=if i+1=n then 0 else i+1:=by
 unfold L.next
 by_cases h0:i+1=n
 · rw [if_pos h0,show (i:Int)+1=(n:Int) by omega,Int.tmod_self];rfl
 · rw [if_neg h0,Int.tmod_eq_of_lt (by omega) (by omega)]
   omega
theorem ends {x:L.Sq L.Pt} {u v:List L.Pt} {b:L.Pt} (h:L.toL x=u ++ b :: v):(v ++ u).getLastD b=x.g (L.prev x.n u.length) /\ (v ++ u).headD b=x.g (L.next x.n u.length):=by
 obtain ⟨h1,h2,h3,h4,h5⟩:=toL_split h
 constructor
 · rw [prev_at h1,List.getLastD_eq_getLast?,List.getLast?_append]
   by_cases hu:u.length=0
   · rw [if_pos hu]
     obtain rfl:=List.eq_nil_of_length_eq_zero hu
     rw [List.getLast?_nil,Option.none_or,List.getLast?_eq_getElem?]
     by_cases hv:v.length=0
     · obtain rfl:=List.eq_nil_of_length_eq_zero hv
       show b=_
       rw [<- h2];congr 1;simp at h3 ⊢;omega
     · rw [h5 _ (by omega)]
       show x.g _=x.g _
       congr 1;simp;omega
   · rw [if_neg hu,List.getLast?_eq_getElem? (l:=u),h4 _ (by omega)]
     rfl
 · rw [next_at h1]
   cases v with
   | nil =>
     rw [if_pos (by simp at h3;omega),List.nil_append]
     cases u with
     | nil=>exact h2.symm
     | cons z u =>
       have:=h4 0 (by simp)
       exact Option.some.inj this
   | cons z v =>
     rw [if_neg (by simp at h3;omega)]
     exact Option.some.inj (h5 0 (by simp))
theorem toL_del {x:L.Sq L.Pt} {u v:List L.Pt} {b:L.Pt} (h:L.toL x=u ++ b :: v):L.toL ⟨x.n - 1,L.delF x.g u.length x.n⟩=u ++ v:=by
 obtain ⟨h1,h2,h3,h4,h5⟩:=toL_split h
 refine List.ext_getElem? fun k=>?_
 rw [toL_get]
 show (if k < x.n - 1 then some (L.delF x.g u.length x.n k) else none)=_
 by_cases hk:k < x.n - 1
 · rw [if_pos hk]
   unfold L.delF
   by_cases hu:k < u.length
   · rw [decide_eq_true hu,List.getElem?_append_left hu,h4 k hu];rfl
   · rw [decide_eq_false hu,decide_eq_true (show k+1 < x.n by omega),List.getElem?_append_right (by omega),h5 _ (by omega),show u.length+1+(k - u.length)=k+1 by omega];rfl
 · rw [if_neg hk,List.getElem?_eq_none (by rw [List.length_append];omega)]
open Conf
theorem out_step {c:L.Pt -> L.Pt -> L.Pt -> Bool} (hc:∀ a b d,c a b d=true -> L.Fl a b d) {x:L.Sq L.Pt} {i:Nat} (hi:i < x.n) (h:L.outAt c x i=true):Step L.Fl (L.toL x) (L.toL ⟨x.n - 1,L.delF x.g i x.n⟩):=by
 obtain ⟨u,v,e,hu⟩:=split_of hi
 obtain ⟨e1,e2⟩:=ends e
 have e3:=toL_del e
 rw [hu] at e1 e2 e3
 refine ⟨x.g i,v ++ u,⟨u,x.g i :: v,e,rfl⟩,?_,?_⟩
 · rw [e1,e2];exact hc _ _ _ h
 · rw [e3];exact ⟨v,u,rfl,rfl⟩
theorem thin_red {c:L.Pt -> L.Pt -> L.Pt -> Bool} (hc:∀ a b d,c a b d=true -> L.Fl a b d) (x:L.Sq L.Pt):Red L.Fl (L.toL x) (L.toL (L.thin c x)) :=
 thin_ind (Q:=fun y=>Red L.Fl (L.toL x) (L.toL y)) (fun _ _ h hi he=>h.tail (out_step hc hi he)) (.refl (Rot.refl _))
theorem thinF_out {c:L.Pt -> L.Pt -> L.Pt -> Bool}:∀ (k:Nat) (x:L.Sq L.Pt),x.n <= k -> ∀ i,i < (L.thinF c k x).n -> L.outAt c (L.thinF c k x) i=false
 | 0,x,h,i,hi=>by
   have hi:i < x.n:=hi
   omega
 | k+1,x,h,i,hi=>by
   revert hi
   show i < (bif decide (0 <= L.idx x.n (L.outAt c x)) then L.thinF c k ⟨x.n - 1,L.delF x.g (L.idx x.n (L.outAt c x)).toNat x.n⟩ else x).n -> L.outAt c (bif decide (0 <= L.idx x.n (L.outAt c x)) then L.thinF c k ⟨x.n - 1,L.delF x.g (L.idx x.n (L.outAt c x)).toNat x.n⟩ else x) i=false
   rcases idx_cases (f:=L.outAt c x) (n:=x.n) with ⟨h1,h2⟩ | ⟨p,h1,h2,h3,_⟩
   · rw [h1];exact fun hi=>h2 i hi
   · rw [h2,decide_eq_true (show (0:Int) <= (p:Int) by omega),cond_true]
     exact fun hi=>thinF_out k _ (by show x.n - 1 <= k;omega) i hi
theorem flat_fl:∀ a b d,L.cFlat a b d=true -> L.Fl a b d:=fun a b d h=>of_decide_eq_true (p:=L.cross a b d=0) h
theorem toL_rev (x:L.Sq L.Pt):L.toL (L.revG x)=(L.toL x).reverse:=by
 refine List.ext_getElem? fun k=>?_
 rw [toL_get]
 show (if k < x.n then some (x.g (x.n - 1 - k)) else none)=_
 by_cases h:k < x.n
 · rw [if_pos h,List.getElem?_reverse (by rw [toL_len];exact h),toL_get,toL_len,if_pos (by omega)]
 · rw [if_neg h,List.getElem?_eq_none (by rw [List.length_reverse,toL_len];omega)]
end Go.Proofs.YtinfalehnaejbaaGreat
namespace Go.Proofs.YtinfalehnaejbaaGreat
open Go.SE Go.RowKit
set_option maxRecDepth 100000
set_option maxHeartbeats 4000000
set_option linter.unusedVariables false
attribute [local irreducible] vc
open Conf
theorem sm_congr {f g:Int -> Int} (h:∀ i,f i=g i):∀ k,L.sm f k=L.sm g k
 | 0=>rfl
 | k+1=>by rw [L.sm,L.sm,sm_congr h k,h]
theorem sm_left {f:Int -> Int}:∀ k,L.sm f (k+1)=f 0+L.sm (fun i=>f (i+1)) k
 | 0=>by show 0+f 0=f 0+0;omega
 | k+1=>by
   rw [L.sm,sm_left k]
   show f 0+L.sm (fun i=>f (i+1)) k+f ((k+1:Nat):Int)=f 0+(L.sm (fun i=>f (i+1)) k+f ((k:Int)+1))
   rw [show ((k+1:Nat):Int)=(k:Int)+1 by omega]
   omega
theorem sm_rev {f:Int -> Int}:∀ k:Nat,L.sm (fun i=>f ((k:Int) - 1 - i)) k=L.sm f k
 | 0=>rfl
 | k+1=>by
   rw [sm_left,L.sm]
   have e:L.sm (fun i=>f (((k+1:Nat):Int) - 1 - (i+1))) k=L.sm (fun i=>f ((k:Int) - 1 - i)) k:=sm_congr (fun i=>by rw [show ((k+1:Nat):Int) - 1 - (i+1)=(k:Int) - 1 - i by omega]) k
   rw [e,sm_rev k,show ((k+1:Nat):Int) - 1 - 0=(k:Int) by omega]
   omega
theorem sm_neg {f:Int -> Int}:∀ k,L.sm (fun i=>- f i) k = - L.sm f k
 | 0=>rfl
 | k+1=>by rw [L.sm,L.sm,sm_neg k];omega
theorem ix_neg {n:Nat} (hn:0 < n) (a:Int):n - 1 - L.ix n a=L.ix n (-1 - a):=by
 have h1:=ix_emod (a:=a) hn
 have h2:=ix_emod (a:=-1 - a) hn
 have h3:=ix_lt (n:=n) (i:=a) hn
 have h4:(-1 - a) % (n:Int)=(n:Int) - 1 - ((L.ix n a:Nat):Int):=by
   rw [h1]
   have e:(-1 - a) % (n:Int)=((n:Int) - 1 - a % (n:Int)) % (n:Int):=by
     rw [Int.sub_emod (n - 1:Int) (a % (n:Int)),Int.emod_emod,<- Int.sub_emod,show (n:Int) - 1 - a = -1 - a+n by omega,Int.add_emod_right]
   rw [e,Int.emod_eq_of_lt (by omega) (by omega)]
 omega
theorem rot_cy {x y:L.Sq L.Pt} (hn:0 < x.n) (h:Rot (L.toL x) (L.toL y)):y.n=x.n /\ ∃ c:Nat,∀ a,L.cy y a=L.cy x (a+c):=by
 have en:y.n=x.n:=by rw [<- toL_len,<- toL_len x,h.len]
 refine ⟨en,?_⟩
 obtain ⟨u,v,h1,h2⟩:=h
 have lx:=toL_len x
 rw [h1,List.length_append] at lx
 refine ⟨u.length,fun a=>?_⟩
 have key:∀ k:Nat,k < x.n -> y.g k=L.cy x ((k:Int)+u.length):=fun k hk=>by
   have e:=toL_get y k
   rw [h2,if_pos (by omega)] at e
   by_cases hv:k < v.length
   · rw [List.getElem?_append_left hv] at e
     have e':=toL_get x (u.length+k)
     rw [h1,List.getElem?_append_right (by omega),show u.length+k - u.length=k by omega,if_pos (by omega),e] at e'
     rw [Option.some.inj e',show (k:Int)+(u.length:Int)=((u.length+k:Nat):Int) by omega,cy_nat (by omega)]
   · rw [List.getElem?_append_right (by omega)] at e
     have e':=toL_get x (k - v.length)
     rw [h1,List.getElem?_append_left (by omega),if_pos (by omega),e] at e'
     rw [Option.some.inj e',cy_per (l:=x) hn (a:=(k:Int)+u.length) (b:=((k - v.length:Nat):Int)) (by
       rw [show (k:Int)+(u.length:Int)=((k - v.length:Nat):Int)+x.n by omega,Int.add_emod_right]),cy_nat (by omega)]
 have hk:=ix_lt (n:=x.n) (i:=a) hn
 have:=key _ hk
 rw [cy_ix hn] at this
 rw [<- this]
 unfold L.cy
 rw [en]
theorem rev_cy {x:L.Sq L.Pt} (hn:0 < x.n) (a:Int):L.cy (L.revG x) a=L.cy x (-1 - a):=by
 show x.g (x.n - 1 - L.ix x.n a)=x.g (L.ix x.n (-1 - a))
 rw [ix_neg hn]
theorem ct_perP {x:L.Sq L.Pt} (hn:0 < x.n):PArea.per x.n (L.ct x):=fun a b h=>by
 unfold L.ct;rw [cy_per hn h,cy_per hn (PArea.succ_mod h 1)]
theorem area_rot {x y:L.Sq L.Pt} (hn:0 < x.n) (h:Rot (L.toL x) (L.toL y)):L.areaTo y y.n=L.areaTo x x.n:=by
 obtain ⟨e,c,hc⟩:=rot_cy hn h
 rw [area_sm (Nat.le_refl _),area_sm (Nat.le_refl _),e,sm_P,sm_P,<- PArea.sm_shift c (ct_perP hn)]
 refine PArea.sm_cong fun i _=>?_
 unfold L.ct
 rw [hc,hc,show (i:Int)+1+(c:Int)=i+c+1 by omega]
theorem area_rev {x:L.Sq L.Pt} (hn:0 < x.n):L.areaTo (L.revG x) x.n = - L.areaTo x x.n:=by
 rw [show L.areaTo (L.revG x) x.n=L.sm (L.ct (L.revG x)) x.n from area_sm (l:=L.revG x) (Nat.le_refl _),area_sm (Nat.le_refl _),<- sm_neg]
 have e1:∀ a,L.ct (L.revG x) a = - L.ct x (-2 - a):=fun a=>by
   unfold L.ct
   rw [rev_cy hn,rev_cy hn,show -1 - (a+1) = -2 - a by omega,show -2 - a+1 = -1 - a by omega]
   unfold L.tm;omega
 rw [sm_congr e1,<- sm_rev (f:=fun i=>- L.ct x (-2 - i))]
 have e2:∀ i:Int,- L.ct x (-2 - ((x.n:Int) - 1 - i)) = - L.ct x (i+((x.n - 1:Nat):Int)):=fun i=>by
   rw [ct_perP hn (-2 - ((x.n:Int) - 1 - i)) (i+((x.n - 1:Nat):Int)) (by
     rw [show i+((x.n - 1:Nat):Int) = -2 - ((x.n:Int) - 1 - i)+x.n+x.n by omega,Int.add_emod_right,Int.add_emod_right])]
 rw [sm_congr e2,sm_neg,sm_neg,sm_P,sm_P,PArea.sm_shift _ (ct_perP hn)]
theorem simple_rot {x y:L.Sq L.Pt} (hn:0 < x.n) (hs:L.simple x=true) (h:Rot (L.toL x) (L.toL y)):L.simple y=true:=by
 obtain ⟨e,c,hc⟩:=rot_cy hn h
 refine simple_of fun a b hab=>?_
 rw [e] at hab ⊢
 have:=simpC_of hn hs (a+c) (b+c) (fun h=>hab (PArea.pred_mod h))
 rw [hc,hc,hc,hc,show a+1+(c:Int)=a+c+1 by omega,show b+1+(c:Int)=b+c+1 by omega,this,show b+(c:Int) - (a+c)=b - a by omega,show a+(c:Int) - (b+c)=a - b by omega]
theorem simple_rev {x:L.Sq L.Pt} (hn:0 < x.n) (hs:L.simple x=true):L.simple (L.revG x)=true:=by
 refine simple_of fun a b hab=>?_
 have hab:a % (x.n:Int) ≠ b % (x.n:Int):=hab
 show _=if (b - a) % (x.n:Int)=1 \/ (a - b) % (x.n:Int)=1 then (1:Int) else 0
 have:=simpC_of hn hs (-2 - a) (-2 - b) (fun h=>hab (by
   have e1:=PArea.succ_mod h (a+b+2)
   rw [show -2 - a+(a+b+2)=b by omega,show -2 - b+(a+b+2)=a by omega] at e1
   exact e1.symm))
 rw [rev_cy hn,rev_cy hn,rev_cy hn,rev_cy hn,meet_rev2,show -1 - (a+1) = -2 - a by omega,show -1 - (b+1) = -2 - b by omega,show -1 - a = -2 - a+1 by omega,show -1 - b = -2 - b+1 by omega,this,show -2 - b - (-2 - a)=a - b by omega,show -2 - a - (-2 - b)=b - a by omega]
 by_cases c:(b - a) % (x.n:Int)=1 \/ (a - b) % (x.n:Int)=1
 · rw [if_pos c,if_pos c.symm]
 · rw [if_neg c,if_neg (fun h=>c h.symm)]
theorem sharp_of {x:L.Sq L.Pt} (h:∀ a,L.cross (L.cy x (a - 1)) (L.cy x a) (L.cy x (a+1)) ≠ 0):L.sharp x:=fun i hi=>by
 have:=h (i:Int)
 rw [cy_nat hi,cy_next hi,show L.cy x ((i:Int) - 1)=x.g (L.prev x.n i) by unfold L.cy;rw [ix_prev hi]] at this
 exact decide_eq_false this
theorem sharp_rot {x y:L.Sq L.Pt} (hn:0 < x.n) (hc:L.sharp x) (h:Rot (L.toL x) (L.toL y)):L.sharp y:=by
 obtain ⟨e,c,hc'⟩:=rot_cy hn h
 refine sharp_of fun a=>?_
 have:=sharp_cy hn hc (a+c)
 rwa [hc',hc',hc',show a - 1+(c:Int)=a+c - 1 by omega,show a+1+(c:Int)=a+c+1 by omega]
theorem sharp_rev {x:L.Sq L.Pt} (hn:0 < x.n) (hc:L.sharp x):L.sharp (L.revG x):=by
 refine sharp_of fun a=>?_
 have:=sharp_cy hn hc (-1 - a)
 rw [rev_cy hn,rev_cy hn,rev_cy hn,show -1 - (a - 1) = -1 - a+1 by omega,show -1 - (a+1) = -1 - a - 1 by omega]
 exact fun h=>this (ax_fl.flip _ _ _ h)
theorem mem_toL {x:L.Sq L.Pt} {p:L.Pt}:p ∈ L.toL x ↔ ∃ k,k < x.n /\ x.g k=p:=by
 unfold L.toL
 rw [List.mem_map]
 exact ⟨fun ⟨k,h1,h2⟩=>⟨k,List.mem_range.1 h1,h2⟩,fun ⟨k,h1,h2⟩=>⟨k,List.mem_range.2 h1,h2⟩⟩
theorem nodup_toL {x:L.Sq L.Pt} (h3:3 <= x.n) (hs:L.simple x=true) (hc:L.sharp x):(L.toL x).Nodup:=by
 unfold L.toL List.Nodup
 rw [List.pairwise_map]
 refine List.Pairwise.imp_of_mem (R:=fun a b=>a < b) (fun {a b} ha hb hab e=>?_) List.pairwise_lt_range
 rw [List.mem_range] at ha hb
 have:=sharp_inj h3 hs hc (a:=(a:Int)) (b:=(b:Int)) (by rw [cy_nat ha,cy_nat hb,e])
 rw [Int.emod_eq_of_lt (by omega) (by omega),Int.emod_eq_of_lt (by omega) (by omega)] at this
 omega
theorem norm_rot {x:L.Sq L.Pt} (h1:1 <= x.n):Rot (L.toL (L.flip x)) (L.toL (L.norm x)) /\ (L.norm x).g 0=L.minTo (L.flip x) (x.n - 1):=by
 have hf:=flip_n x
 obtain ⟨i,k1,k2,k3⟩:=minIdx (l:=L.flip x) (by omega)
 have hK:L.minK (L.flip x)=i:=by unfold L.minK;rw [k2];rfl
 rw [hf] at k1 k3
 constructor
 · refine ⟨(L.toL (L.flip x)).take i,(L.toL (L.flip x)).drop i,(List.take_append_drop _ _).symm,?_⟩
   have lf:=toL_len (L.flip x)
   refine List.ext_getElem? fun k=>?_
   rw [toL_get]
   show (if k < x.n then some ((L.rot (L.flip x) (L.minK (L.flip x))).g k) else none)=_
   rw [hK]
   by_cases hk:k < x.n
   · rw [if_pos hk]
     show some (bif decide (k < (L.flip x).n - i) then (L.flip x).g (i+k) else (L.flip x).g (k - ((L.flip x).n - i)))=_
     by_cases hd:k < (L.flip x).n - i
     · rw [decide_eq_true hd,List.getElem?_append_left (by rw [List.length_drop];omega),List.getElem?_drop,toL_get,if_pos (by omega)];rfl
     · rw [decide_eq_false hd,List.getElem?_append_right (by rw [List.length_drop];omega),List.getElem?_take,List.length_drop,lf,if_pos (by omega),toL_get,if_pos (by omega)];rfl
   · rw [if_neg hk,List.getElem?_eq_none (by rw [List.length_append,List.length_drop,List.length_take];omega)]
 · show (L.rot (L.flip x) (L.minK (L.flip x))).g 0=_
   rw [hK]
   show (bif decide (0 < (L.flip x).n - i) then (L.flip x).g (i+0) else (L.flip x).g (0 - ((L.flip x).n - i)))=_
   rw [decide_eq_true (by omega),Nat.add_zero,<- k3];rfl
theorem cmp_anti {a b:L.Pt} (h1:¬ L.cmpPt a b < 0) (h2:¬ L.cmpPt b a < 0):a=b:=by
 rw [cmpPt_lt] at h1 h2
 have e1:a.x=b.x:=by omega
 have e2:a.y=b.y:=by omega
 cases a;cases b;simp only at e1 e2;rw [e1,e2]
theorem min_mem {x:L.Sq L.Pt} (h1:1 <= x.n) {p:L.Pt} (hp:p ∈ L.toL x):¬ L.cmpPt p (L.minTo x (x.n - 1)) < 0:=by
 obtain ⟨k,hk,rfl⟩:=mem_toL.1 hp
 exact minTo_le (by omega)
end Go.Proofs.YtinfalehnaejbaaGreat
namespace Go.Proofs.YtinfalehnaejbaaGreat
open Go.SE Go.RowKit
set_option maxRecDepth 100000
set_option maxHeartbeats 4000000
set_option linter.unusedVariables false
attribute [local irreducible] vc
open Conf
def L.good (x:L.Sq L.Pt):Prop:=3 <= x.n /\ x.n <= 24 /\ L.validPts x=true /\ L.simple x=true /\ L.sharp x
theorem valid_mem {x:L.Sq L.Pt}:L.validPts x=true ↔ ∀ p,p ∈ L.toL x -> L.validPt p=true:=by
 unfold L.validPts
 rw [allB_iff]
 exact ⟨fun h p hp=>by obtain ⟨k,hk,rfl⟩:=mem_toL.1 hp;exact h k hk,fun h k hk=>h _ (mem_toL.2 ⟨k,hk,rfl⟩)⟩
theorem good_rot {x y:L.Sq L.Pt} (h:L.good x) (r:Rot (L.toL x) (L.toL y)):L.good y:=by
 obtain ⟨h1,h2,h3,h4,h5⟩:=h
 have e:x.n=y.n:=by have:=r.len;rwa [toL_len,toL_len] at this
 exact ⟨by omega,by omega,valid_mem.2 (fun p hp=>valid_mem.1 h3 p (r.mem.2 hp)),simple_rot (by omega) h4 r,sharp_rot (by omega) h5 r⟩
theorem good_rev {x:L.Sq L.Pt} (h:L.good x):L.good (L.revG x):=by
 obtain ⟨h1,h2,h3,h4,h5⟩:=h
 refine ⟨h1,h2,valid_mem.2 (fun p hp=>valid_mem.1 h3 p ?_),simple_rev (by omega) h4,sharp_rev (by omega) h5⟩
 rw [toL_rev] at hp
 exact List.mem_reverse.1 hp
theorem good_bd {x:L.Sq L.Pt} (h:L.good x):L.allBd x:=small_of_valid (by have:=h.2.1;omega) h.2.2.1
theorem good_area {x:L.Sq L.Pt} (h:L.good x):L.areaTo x x.n ≠ 0:=area_ne0 h.1 (good_bd h) h.2.2.2.1 h.2.2.2.2
theorem flip_or (x:L.Sq L.Pt):(L.areaTo x x.n < 0 /\ L.flip x=L.revG x) \/ (¬ L.areaTo x x.n < 0 /\ L.flip x=x):=by
 by_cases h:L.areaTo x x.n < 0
 · exact .inl ⟨h,flip_neg (decide_eq_true h)⟩
 · exact .inr ⟨h,flip_pos (decide_eq_false h)⟩
theorem good_flip {x:L.Sq L.Pt} (h:L.good x):L.good (L.flip x):=by
 rcases flip_or x with ⟨_,e⟩ | ⟨_,e⟩ <;> rw [e]
 · exact good_rev h
 · exact h
theorem area_flip {x:L.Sq L.Pt} (h:L.good x):0 < L.areaTo (L.flip x) (L.flip x).n:=by
 have hne:=good_area h
 have h3:=h.1
 rcases flip_or x with ⟨g,e⟩ | ⟨g,e⟩ <;> rw [e]
 · show 0 < L.areaTo (L.revG x) x.n
   rw [area_rev (by omega)];omega
 · omega
theorem good_norm {x:L.Sq L.Pt} (h:L.good x):L.good (L.norm x):=good_rot (good_flip h) (norm_rot (by have:=h.1;omega)).1
theorem area_norm {x:L.Sq L.Pt} (h:L.good x):0 < L.areaTo (L.norm x) (L.norm x).n:=by
 have h3:=h.1
 rw [area_rot (by rw [flip_n];omega) (norm_rot (x:=x) (by omega)).1]
 exact area_flip h
theorem nodup_good {x:L.Sq L.Pt} (h:L.good x):(L.toL x).Nodup:=nodup_toL h.1 h.2.2.2.1 h.2.2.2.2
theorem sameP_of {x y:L.Sq L.Pt} (h:L.toL x=L.toL y):L.sameP x y=true:=by
 obtain ⟨h1,h2⟩:=toL_ext h
 unfold L.sameP
 rw [decide_eq_true (by omega),cond_true]
 exact allB_iff.2 fun i hi=>by rw [h2 i hi];exact same_refl _
theorem valid_thin {c:L.Pt -> L.Pt -> L.Pt -> Bool} {x:L.Sq L.Pt} (h:L.validPts x=true):L.validPts (L.thin c x)=true :=
 thin_ind (Q:=fun y=>L.validPts y=true) (fun y i h hi _=>allB_iff.2 fun k hk=>by
   have h:=allB_iff.1 h
   have hk:k < y.n - 1:=hk
   show L.validPt (L.delF y.g i y.n k)=true
   unfold L.delF
   cases decide (k < i) with
   | true=>exact h k (by omega)
   | false=>rw [decide_eq_true (show k+1 < y.n by omega)];exact h (k+1) (by omega)) h
theorem flat_cross {x:L.Sq L.Pt} (h:L.flat x=true) {a b c:Nat} (ha:a < x.n) (hb:b < x.n) (hc:c < x.n):L.cross (x.g a) (x.g b) (x.g c)=0:=by
 unfold L.flat L.far at h
 rcases idx_cases (f:=fun i=>!L.same (x.g i) (x.g 0)) (n:=x.n) with ⟨q1,q2⟩ | ⟨i,q1,q2,q3,_⟩
 · have e:∀ k,k < x.n -> x.g k=x.g 0:=fun k hk=>same_eq (notF (q2 k hk))
   rw [e a ha,e b hb,e c hc]
   exact cross_dup _ _
 · rw [q2,decide_eq_false (show ¬ (i:Int) < 0 by omega),cond_false,Int.toNat_natCast] at h
   have h:=notT h
   have line:∀ k,k < x.n -> L.cross (x.g 0) (x.g i) (x.g k)=0:=fun k hk=>by
     cases e:decide (L.cross (x.g 0) (x.g i) (x.g k)=0) with
     | true=>exact of_decide_eq_true e
     | false =>
       have:L.anyB x.n (fun k=>!decide (L.cross (x.g 0) (x.g i) (x.g k)=0))=true:=anyB_iff.2 ⟨k,hk,by rw [e];rfl⟩
       rw [h] at this;cases this
   have l1:=line a ha
   have l2:=line b hb
   have l3:=line c hc
   have q3:(!L.same (x.g i) (x.g 0))=true:=q3
   have hne:x.g i ≠ x.g 0:=fun e=>by rw [e,same_refl] at q3;cases q3
   generalize x.g a=p at *
   generalize x.g b=q at *
   generalize x.g c=r at *
   generalize x.g i=f at *
   generalize x.g 0=o at *
   unfold L.cross at *
   have he:f.x - o.x ≠ 0 \/ f.y - o.y ≠ 0:=by
     by_cases g:f.x - o.x=0
     · refine .inr fun g'=>hne ?_
       have e1:f.x=o.x:=by omega
       have e2:f.y=o.y:=by omega
       cases f;cases o;simp only at e1 e2;rw [e1,e2]
     · exact .inl g
   have:=vec0 (ex:=f.x - o.x) (ey:=f.y - o.y) (px:=q.x - p.x) (py:=q.y - p.y) (qx:=r.x - p.x) (qy:=r.y - p.y) he (by grind) (by grind)
   grind
theorem not_flat {x y:L.Sq L.Pt} (h:L.good x) (hm:∀ p,p ∈ L.toL x -> p ∈ L.toL y):L.flat y=false:=by
 cases e:L.flat y with
 | false=>rfl
 | true =>
   have h3:=h.1
   have hs:=h.2.2.2.2 0 (by omega)
   unfold L.outAt L.cFlat at hs
   have hs:=of_decide_eq_false hs
   obtain ⟨a,ha,ea⟩:=mem_toL.1 (hm _ (mem_toL.2 ⟨_,prev_lt (n:=x.n) (k:=0) (by omega),rfl⟩))
   obtain ⟨b,hb,eb⟩:=mem_toL.1 (hm _ (mem_toL.2 ⟨0,by omega,rfl⟩))
   obtain ⟨c,hc,ec⟩:=mem_toL.1 (hm _ (mem_toL.2 ⟨_,next_lt (n:=x.n) (k:=0) (by omega),rfl⟩))
   have:=flat_cross e ha hb hc
   rw [ea,eb,ec] at this
   exact absurd this hs
theorem norm_valid {x:L.Sq L.Pt} (h:L.good x):L.validOutline (L.norm x)=true:=by
 obtain ⟨h3,h24,hv,hs,hc⟩:=good_norm h
 have ha:=area_norm h
 have hd:=nodup_good (good_norm h)
 obtain ⟨rx,mx⟩:=norm_rot (x:=x) (by have:=h.1;omega)
 have h1:L.within ((L.norm x).n:Int) 3 24=true:=by unfold L.within;rw [decide_eq_true (show (3:Int) <= ((L.norm x).n:Int) by omega),decide_eq_true (show ((L.norm x).n:Int) <= 24 by omega)];rfl
 unfold L.validOutline L.valid3
 rw [h1,hv,hs,decide_eq_true ha]
 rw [Bool.and_true,allB_iff.2 (fun k hk=>?_)]
 · rfl
 · unfold L.corner
   have:=hc k hk
   unfold L.outAt L.cFlat at this
   rw [this,cond_false]
   by_cases hk0:0 < (k:Int)
   · rw [decide_eq_true hk0,cond_true]
     have hm:(L.norm x).g k ∈ L.toL (L.flip x):=rx.mem.2 (mem_toL.2 ⟨k,hk,rfl⟩)
     have h0:=min_mem (x:=L.flip x) (by rw [flip_n];have:=h.1;omega) hm
     rw [flip_n,<- mx] at h0
     have hne:(L.norm x).g 0 ≠ (L.norm x).g k:=fun e=>by
       have:=sharp_inj h3 hs hc (a:=0) (b:=(k:Int)) (by
         rw [show (0:Int)=((0:Nat):Int) from rfl,cy_nat (by omega),cy_nat hk,e])
       rw [Int.zero_emod,Int.emod_eq_of_lt (by omega) (by omega)] at this
       omega
     have:¬ 0 <= L.cmpPt ((L.norm x).g 0) ((L.norm x).g k):=fun g=>hne (cmp_anti (by omega) h0)
     rw [decide_eq_false this];rfl
   · rw [decide_eq_false hk0];rfl
end Go.Proofs.YtinfalehnaejbaaGreat
