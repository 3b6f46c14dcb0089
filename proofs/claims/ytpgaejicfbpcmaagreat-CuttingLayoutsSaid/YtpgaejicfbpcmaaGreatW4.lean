/- A symbolic walk over the model, and what it shows of functions of the program: parts of the proof that the text of the row joins. -/
import Derived.Test.YtpgaejicfbpcmaaGreatW2
import Derived.Test.YtpgaejicfbpcmaaGreatE5
import Derived.KernelRfl
import Derived.Test.YtpgaejicfbpcmaaGreatW1
import Derived.Test.YtpgaejicfbpcmaaGreatW3
namespace Go.Proofs.YtpgaejicfbpcmaaGreat
open Go.SE Go.RowKit
set_option maxRecDepth 100000
set_option maxHeartbeats 4000000
set_option linter.unusedVariables false
attribute [local irreducible] vc
def L.lenI (l:List Int):Nat:=l.length
def L.isLt (a b:Nat):Bool:=decide (a<b)
def L.sqI (l:List Int):L.Sq Int:=⟨l.length,fun i=>l.getD i 0⟩
structure L.AS where
 fd:Bool
 ls:Int
 bt:List Int
def L.wider (g:Int) (i:Nat):Int:=L.ior g (L.ishl 1 i)
def L.asNo (w:L.Sq L.Want) (s:L.Sq L.Sheet) (G:Nat->Int) (i k:Nat):Bool:=bif !decide ((s.g k).colour=(w.g i).colour) then true else !L.roomB w (s.g k).grain (L.wider (G k) i) ⟨(s.g k).w,(s.g k).h⟩
def L.asM (s:L.Sq L.Sheet) (G:Nat->Int) (k:Nat):Int:=bif decide (G k=0) then (s.g k).w * (s.g k).h else 0
def L.asG (G:Nat->Int) (k i:Nat):Nat->Int:=fun j=>if j=k then L.wider (G k) i else G j
def L.snocI (l:List Int) (k:Int):List Int:=l ++ [k]
def L.asP (w:L.Sq L.Want) (s:L.Sq L.Sheet):Nat->Nat->List Int->Int->(Nat->Int)->L.AS->L.AS
 | 0,_,_,_,_,st=>st
 | f+1,i,A,sum,G,st=>if (st.fd && decide (st.ls <= sum))=true then st else if i=w.n then ⟨true,sum,A⟩ else
   (List.range s.n).foldl (fun st k=>bif L.asNo w s G i k then st else L.asP w s f (i+1) (L.snocI A k) (sum+L.asM s G k) (L.asG G k i) st) st
def L.putF (w:L.Sq L.Want) (s:L.Sq L.Sheet) (i:Nat) (A:List Int) (sum:Int) (G:Nat->Int) (st:L.AS):L.AS:=L.asP w s (w.n+1 - i) i A sum G st
def L.putK (w:L.Sq L.Want) (s:L.Sq L.Sheet) (i:Nat) (A:List Int) (sum:Int) (G:Nat->Int) (st:L.AS) (k:Nat):L.AS:=(List.range k).foldl (fun st k=>bif L.asNo w s G i k then st else L.putF w s (i+1) (L.snocI A k) (sum+L.asM s G k) (L.asG G k i) st) st
theorem putK_succ (w:L.Sq L.Want) (s:L.Sq L.Sheet) (i:Nat) (A:List Int) (sum:Int) (G:Nat->Int) (st:L.AS) (k:Nat):L.putK w s i A sum G st (k+1)=bif L.asNo w s G i k then L.putK w s i A sum G st k else L.putF w s (i+1) (L.snocI A k) (sum+L.asM s G k) (L.asG G k i) (L.putK w s i A sum G st k):=by
 unfold L.putK
 rw [List.range_succ,List.foldl_append];rfl
theorem putF_cut (w:L.Sq L.Want) (s:L.Sq L.Sheet) {i:Nat} (A:List Int) {sum:Int} (G:Nat->Int) {st:L.AS} (hi:i <= w.n) (h:(st.fd && decide (st.ls <= sum))=true):L.putF w s i A sum G st=st:=by
 unfold L.putF
 obtain ⟨f,e⟩:∃ f,w.n+1 - i=f+1:=⟨w.n - i,by omega⟩
 rw [e,L.asP,if_pos h]
theorem putF_end (w:L.Sq L.Want) (s:L.Sq L.Sheet) (A:List Int) {sum:Int} (G:Nat->Int) {st:L.AS} (h:(st.fd && decide (st.ls <= sum))=false):L.putF w s w.n A sum G st=⟨true,sum,A⟩:=by
 unfold L.putF
 rw [show w.n+1 - w.n=0+1 by omega,L.asP,if_neg (by rw [h];decide),if_pos rfl]
theorem putF_go (w:L.Sq L.Want) (s:L.Sq L.Sheet) {i:Nat} (A:List Int) {sum:Int} (G:Nat->Int) {st:L.AS} (hi:i<w.n) (h:(st.fd && decide (st.ls <= sum))=false):L.putF w s i A sum G st=L.putK w s i A sum G st s.n:=by
 unfold L.putF L.putK
 rw [show w.n+1 - i=(w.n - i)+1 by omega,L.asP,if_neg (by rw [h];decide),if_neg (by omega)]
 unfold L.putF
 rw [show w.n+1 - (i+1)=w.n - i by omega]
def chkW1 (i g:Nat):Bool:=decide (L.wider g i=g+2 ^ i) && (decide (L.iandNot (g+2 ^ i) (L.ishl 1 i)=g) && decide (0 <= L.ishl 1 i) && decide (L.ishl 1 i <= 16))
theorem chkW_all:((List.range 4).all fun i=>(List.range (2 ^ i)).all (chkW1 i))=true:=by kernel_rfl
theorem wider_of {i:Nat} (hi:i<4) {g:Int} (h0:0 <= g) (h1:g<2 ^ i):L.wider g i=g+2 ^ i/\L.iandNot (g+2 ^ i) (L.ishl 1 i)=g/\0 <= L.ishl 1 i/\L.ishl 1 i <= 16:=by
 obtain ⟨n,rfl⟩:=Int.eq_ofNat_of_zero_le h0
 have hn:n<2 ^ i:=by exact_mod_cast h1
 have:=List.all_eq_true.1 (List.all_eq_true.1 chkW_all i (List.mem_range.2 hi)) n (List.mem_range.2 hn)
 unfold chkW1 at this
 simp only [Bool.and_eq_true,decide_eq_true_eq] at this
 exact ⟨this.1,this.2.1.1,this.2.1.2,this.2.2⟩
theorem vSheet_b5 {s:L.Sheet} (h:L.vSheet s=true):1 <= s.w/\s.w <= 4096/\1 <= s.h/\s.h <= 4096:=by
 unfold L.vSheet at h
 cases h1:L.within s.id 1 65535
 ·rw [h1] at h;cases h
 cases h2:L.within s.colour 1 16
 ·rw [h1,h2] at h;cases h
 cases h3:L.within s.w 1 4096
 ·rw [h1,h2,h3] at h;cases h
 cases h4:L.within s.h 1 4096
 ·rw [h1,h2,h3,h4] at h;cases h
 unfold L.within at h3 h4
 rw [Bool.and_eq_true,decide_eq_true_eq,decide_eq_true_eq] at h3 h4
 omega
def L.okG (n i:Nat) (G:Nat->Int):Prop:=∀ k,k<n->0 <= G k/\G k<2 ^ i
theorem wider_all {n i:Nat} (hn:n <= 4) (hi:i<n) {g:Int} (h0:0 <= g) (h1:g<2 ^ i):0 <= L.wider g i/\L.wider g i <= L.all n:=by
 obtain ⟨e,_⟩:=wider_of (show i<4 by omega) h0 h1
 rw [e,all_eq hn]
 have hp:(2:Int) ^ i+2 ^ i <= 2 ^ n:=by
  have:(2:Int) ^ (i+1) <= 2 ^ n:=by exact_mod_cast Nat.pow_le_pow_right (show 0<2 by decide) hi
  rw [Int.pow_succ] at this
  omega
 have h2:(0:Int)<2 ^ i:=Int.pow_pos (by decide)
 omega
theorem putK_0 (w:L.Sq L.Want) (s:L.Sq L.Sheet) (i:Nat) (A:List Int) (sum:Int) (G:Nat->Int) (st:L.AS):L.putK w s i A sum G st 0=st:=rfl
theorem okG_next {n i k:Nat} {G:Nat->Int} (hi:i<4) (h:L.okG n i G) (hk:k<n):L.okG n (i+1) (L.asG G k i):=fun j hj=>by
 have h2:(0:Int)<2 ^ i:=Int.pow_pos (by decide)
 have hp:(2:Int) ^ (i+1)=2 ^ i+2 ^ i:=by rw [Int.pow_succ];omega
 unfold L.asG
 by_cases e:j=k
 ·rw [if_pos e,(wider_of hi (h k hk).1 (h k hk).2).1]
  have:=h k hk
  omega
 ·rw [if_neg e]
  have:=h j hj
  omega
def L.atI (A:List Int) (X:Nat->Int) (j:Nat):Int:=if j<A.length then A.getD j 0 else X j
section
attribute [local irreducible] L.putK L.putF L.asP L.roomB L.tabF L.tab L.all L.part L.iandNot L.ior L.ishl
def s_cloneI_p (l:(L.Sq Int)):Prop:=l.n <= 1000000
def s_cloneI_q (l:(L.Sq Int)):Nat->Prop:=fun _=>True
def s_cloneI_n (l:(L.Sq Int)):Nat->Nat:=fun _=>l.n
def s_cloneI_g (l:(L.Sq Int)):Nat->Nat->List SV:=fun _ i=>[.int .i64 (l.g i)]
def s_cloneI_s:List EV->Option (Prop × (Nat->Prop) × (Nat->Nat) × (Nat->Nat->List SV))
 | [.p (.sl 1 l_n l_g)]=>some ((∀ i,i<l_n->l_g i = [.int .i64 ((intOf (l_g i)))])/\s_cloneI_p (⟨l_n,fun i=>intOf (l_g i)⟩:(L.Sq Int)),s_cloneI_q (⟨l_n,fun i=>intOf (l_g i)⟩:(L.Sq Int)),s_cloneI_n (⟨l_n,fun i=>intOf (l_g i)⟩:(L.Sq Int)),s_cloneI_g (⟨l_n,fun i=>intOf (l_g i)⟩:(L.Sq Int)))
 | _=>none
abbrev s_cloneI_S:SE.Spec:=(specF Nat 0 3 1 s_cloneI_s)
def s_cloneI_C:Cfg:={ cC with muts:=[5] }
theorem s_cloneI_vc (l:(L.Sq Int)) (hp:s_cloneI_p l):vc Tryz.prog (s_cloneI_C) (bodyOf Tryz.f128) (st0 Tryz.f128 [.p (.sl 1 l.n (fun i=>[.int .i64 ((l.g i))]))]) (retFresh Tryz.prog Tryz.f128 (Nat) (s_cloneI_q l) 3 1 (s_cloneI_n l) (s_cloneI_g l)) :=
 @Eq.mpr _ (∀ (b:Bool),(b = !false->l.n=(0:Nat))->(b=true -> ∃ (t:Nat),l.n=(0:Nat)/\True)/\(b=false->(nat_lit 0+l.n) * nat_lit 8 <= (140737488355328:Nat) /\ ∃ (t:Nat),(nat_lit 0+l.n=l.n /\ ∀ (i:Nat),i<nat_lit 0+l.n->appGet (nat_lit 0) (rowsOf [] (nat_lit 1)) (fun (i:Nat)=>[SV.int .i64 (l.g i)]) i = [SV.int .i64 (l.g i)])/\True)) (by kernel_rfl) (by
 have hn:l.n <= 1000000:=hp
 refine fun b hb=>⟨fun h=>⟨(0:Nat),hb h,trivial⟩,fun h=>⟨show (0+l.n) * 8 <= 140737488355328 by omega,(0:Nat),⟨Nat.zero_add _,fun i hi=>?_⟩,trivial⟩⟩
 unfold appGet;rw [if_neg (Nat.not_lt_zero _)];rfl)
theorem s_cloneI_ok:SpecOk Tryz.prog 128 s_cloneI_S:=freshX Tryz.func128 (c:=bodyOf Tryz.f128) (by kernel_rfl) mixed (fun args p q n g hs hp=>by
 unfold s_cloneI_s at hs
 split at hs
 ·cases hs;exact ⟨_,_,s_cloneI_vc _ hp.2,(.p (.sl hp.1) .nil),⟨show SpecsL Tryz.prog _ from SpecsL.nil,rfl,⟨show ItersL Tryz.prog _ from ItersL.nil,(TrsOk.none (fun _=>rfl))⟩⟩⟩
 ·cases hs)
theorem s_cloneI_en:Enters Tryz.prog 128:=fun args w=>by kernel_rfl
abbrev c_roomF_fc:FamC:={ T:=L.Sq L.Want × Int × Int × L.Size,args:=fun t=>[.int .i64 t.2.2.1,.agg [.int .i64 t.2.2.2.w,.int .i64 t.2.2.2.h]],t:=162,kt:=3,vt:=27,head:=fun t=>(fun w gr=>[(.sl 4 w.n (fun i=>[.int .i64 ((w.g i).id),.int .i64 ((w.g i).colour),.int .i64 ((w.g i).grain),.sl 2 (w.g i).ol.n (fun i1=>[.int .i64 (((w.g i).ol.g i1).x),.int .i64 (((w.g i).ol.g i1).y)])])),.int .i64 gr]) t.1 t.2.1,val:=fun t=>L.memo (L.tabF t.1 t.2.1),pre:=fun t=>L.okW t.1/\0 <= t.2.2.1/\t.2.2.1 <= L.all t.1.n,res:=fun t=>.bool (L.roomB t.1 t.2.1 t.2.2.1 t.2.2.2) }
theorem c_roomF_fcok:FamCOk Tryz.prog 69 c_roomF_fc:=fam_of_mk 1000 1001 (by decide) c_room_mok (fun t d=>(t.1,t.2.1,d,t.2.2.1,t.2.2.2)) (fun _ _ u=>u) rfl rfl rfl (fun _ _=>rfl) (fun _ _=>rfl) (fun _ _ _=>rfl) (fun _ _ h=>h) (fun _ _ _=>rfl)
theorem c_roomF_en:Enters Tryz.prog 69:=c_room_en
abbrev c_as1_mk:Mk:={ T:=(L.Sq L.Want) × (L.Sq L.Sheet) × (Nat) × (List Int) × (Nat->Int) × (Int) × (Nat->Int) × (L.AS),U:=Nat->Int,args:=fun t=>(fun w s i A X sum G st=>[.p (.int .i64 (i:Int)),.rpre 1012 i,.p (.int .i64 sum)] ++ [.loc 1000 0,.loc 1001 0,.p (.ref [(.sl 4 w.n (fun i=>[.int .i64 ((w.g i).id),.int .i64 ((w.g i).colour),.int .i64 ((w.g i).grain),.sl 2 (w.g i).ol.n (fun i1=>[.int .i64 (((w.g i).ol.g i1).x),.int .i64 (((w.g i).ol.g i1).y)])]))] 0),.loc 1002 0,.p (.ref [(.sl 5 s.n (fun i=>[.int .i64 ((s.g i).id),.int .i64 ((s.g i).colour),.int .i64 ((s.g i).w),.int .i64 ((s.g i).h),.int .i64 ((s.g i).grain)]))] 0),.loc 1003 0,.loc 1004 0,.loc 1005 0]) t.1 t.2.1 t.2.2.1 t.2.2.2.1 t.2.2.2.2.1 t.2.2.2.2.2.1 t.2.2.2.2.2.2.1 t.2.2.2.2.2.2.2,lkeys:=[1000,1001,1002,1003,1004,1005,1010,1020,1021,1022,1023,1024,1025,1026,1027,1011,1012],keys:=[],lent:=fun t=>(fun w s i A X sum G st=>[(1000,.blk 4 [.p (.bool (st).fd)]),(1001,.blk 3 [.p (.int .i64 (st).ls)]),(1002,.blk 62 [.p (.sl 1 (L.sqI (st).bt).n (fun j=>[.int .i64 ((L.sqI (st).bt).g j)]))]),(1003,.blk 183 [.row 1010]),(1004,.blk 62 [.row 1011]),(1005,.blk 184 [.cl 127 [.loc 1000 0,.loc 1001 0,.p (.ref [(.sl 4 w.n (fun i=>[.int .i64 ((w.g i).id),.int .i64 ((w.g i).colour),.int .i64 ((w.g i).grain),.sl 2 (w.g i).ol.n (fun i1=>[.int .i64 (((w.g i).ol.g i1).x),.int .i64 (((w.g i).ol.g i1).y)])]))] 0),.loc 1002 0,.p (.ref [(.sl 5 s.n (fun i=>[.int .i64 ((s.g i).id),.int .i64 ((s.g i).colour),.int .i64 ((s.g i).w),.int .i64 ((s.g i).h),.int .i64 ((s.g i).grain)]))] 0),.loc 1003 0,.loc 1004 0,.loc 1005 0]]),(1010,.prow 104 s.n [1020,1021,1022,1023,1024,1025,1026,1027]),(1020,.oblk (L.isLt 0 s.n) 162 [.p ((.sl 4 w.n (fun i=>[.int .i64 ((w.g i).id),.int .i64 ((w.g i).colour),.int .i64 ((w.g i).grain),.sl 2 (w.g i).ol.n (fun i1=>[.int .i64 (((w.g i).ol.g i1).x),.int .i64 (((w.g i).ol.g i1).y)])]))),.p (.int .i64 (s.g 0).grain),.mapv 1021]),(1021,.omq (L.isLt 0 s.n) 3 27 (L.memo (L.tabF w (s.g 0).grain))),(1022,.oblk (L.isLt 1 s.n) 162 [.p ((.sl 4 w.n (fun i=>[.int .i64 ((w.g i).id),.int .i64 ((w.g i).colour),.int .i64 ((w.g i).grain),.sl 2 (w.g i).ol.n (fun i1=>[.int .i64 (((w.g i).ol.g i1).x),.int .i64 (((w.g i).ol.g i1).y)])]))),.p (.int .i64 (s.g 1).grain),.mapv 1023]),(1023,.omq (L.isLt 1 s.n) 3 27 (L.memo (L.tabF w (s.g 1).grain))),(1024,.oblk (L.isLt 2 s.n) 162 [.p ((.sl 4 w.n (fun i=>[.int .i64 ((w.g i).id),.int .i64 ((w.g i).colour),.int .i64 ((w.g i).grain),.sl 2 (w.g i).ol.n (fun i1=>[.int .i64 (((w.g i).ol.g i1).x),.int .i64 (((w.g i).ol.g i1).y)])]))),.p (.int .i64 (s.g 2).grain),.mapv 1025]),(1025,.omq (L.isLt 2 s.n) 3 27 (L.memo (L.tabF w (s.g 2).grain))),(1026,.oblk (L.isLt 3 s.n) 162 [.p ((.sl 4 w.n (fun i=>[.int .i64 ((w.g i).id),.int .i64 ((w.g i).colour),.int .i64 ((w.g i).grain),.sl 2 (w.g i).ol.n (fun i1=>[.int .i64 (((w.g i).ol.g i1).x),.int .i64 (((w.g i).ol.g i1).y)])]))),.p (.int .i64 (s.g 3).grain),.mapv 1027]),(1027,.omq (L.isLt 3 s.n) 3 27 (L.memo (L.tabF w (s.g 3).grain))),(1011,.row 3 1 s.n (fun k=>[.int .i64 (G k)])),(1012,.row 3 1 w.n (fun j=>[.int .i64 (L.atI A X j)]))]) t.1 t.2.1 t.2.2.1 t.2.2.2.1 t.2.2.2.2.1 t.2.2.2.2.2.1 t.2.2.2.2.2.2.1 t.2.2.2.2.2.2.2,pre:=fun t=>(fun w s i A X sum G st=>L.okW w/\s.n <= 4/\(∀ k,k<s.n->L.vSheet (s.g k)=true)/\i <= w.n/\L.lenI A=i/\L.okG s.n i G/\0 <= (sum:Int)/\(sum:Int) <= (i:Int) * 16777216) t.1 t.2.1 t.2.2.1 t.2.2.2.1 t.2.2.2.2.1 t.2.2.2.2.2.1 t.2.2.2.2.2.2.1 t.2.2.2.2.2.2.2,post:=fun t u=>(fun w s i A X sum G st=>fun u=>True) t.1 t.2.1 t.2.2.1 t.2.2.2.1 t.2.2.2.2.1 t.2.2.2.2.2.1 t.2.2.2.2.2.2.1 t.2.2.2.2.2.2.2 u,lent':=fun t u=>(fun w s i A X sum G st=>fun u=>[(1000,.blk 4 [.p (.bool (L.putF w s i A sum G st).fd)]),(1001,.blk 3 [.p (.int .i64 (L.putF w s i A sum G st).ls)]),(1002,.blk 62 [.p (.sl 1 (L.sqI (L.putF w s i A sum G st).bt).n (fun j=>[.int .i64 ((L.sqI (L.putF w s i A sum G st).bt).g j)]))]),(1003,.blk 183 [.row 1010]),(1004,.blk 62 [.row 1011]),(1005,.blk 184 [.cl 127 [.loc 1000 0,.loc 1001 0,.p (.ref [(.sl 4 w.n (fun i=>[.int .i64 ((w.g i).id),.int .i64 ((w.g i).colour),.int .i64 ((w.g i).grain),.sl 2 (w.g i).ol.n (fun i1=>[.int .i64 (((w.g i).ol.g i1).x),.int .i64 (((w.g i).ol.g i1).y)])]))] 0),.loc 1002 0,.p (.ref [(.sl 5 s.n (fun i=>[.int .i64 ((s.g i).id),.int .i64 ((s.g i).colour),.int .i64 ((s.g i).w),.int .i64 ((s.g i).h),.int .i64 ((s.g i).grain)]))] 0),.loc 1003 0,.loc 1004 0,.loc 1005 0]]),(1010,.prow 104 s.n [1020,1021,1022,1023,1024,1025,1026,1027]),(1020,.oblk (L.isLt 0 s.n) 162 [.p ((.sl 4 w.n (fun i=>[.int .i64 ((w.g i).id),.int .i64 ((w.g i).colour),.int .i64 ((w.g i).grain),.sl 2 (w.g i).ol.n (fun i1=>[.int .i64 (((w.g i).ol.g i1).x),.int .i64 (((w.g i).ol.g i1).y)])]))),.p (.int .i64 (s.g 0).grain),.mapv 1021]),(1021,.omq (L.isLt 0 s.n) 3 27 (L.memo (L.tabF w (s.g 0).grain))),(1022,.oblk (L.isLt 1 s.n) 162 [.p ((.sl 4 w.n (fun i=>[.int .i64 ((w.g i).id),.int .i64 ((w.g i).colour),.int .i64 ((w.g i).grain),.sl 2 (w.g i).ol.n (fun i1=>[.int .i64 (((w.g i).ol.g i1).x),.int .i64 (((w.g i).ol.g i1).y)])]))),.p (.int .i64 (s.g 1).grain),.mapv 1023]),(1023,.omq (L.isLt 1 s.n) 3 27 (L.memo (L.tabF w (s.g 1).grain))),(1024,.oblk (L.isLt 2 s.n) 162 [.p ((.sl 4 w.n (fun i=>[.int .i64 ((w.g i).id),.int .i64 ((w.g i).colour),.int .i64 ((w.g i).grain),.sl 2 (w.g i).ol.n (fun i1=>[.int .i64 (((w.g i).ol.g i1).x),.int .i64 (((w.g i).ol.g i1).y)])]))),.p (.int .i64 (s.g 2).grain),.mapv 1025]),(1025,.omq (L.isLt 2 s.n) 3 27 (L.memo (L.tabF w (s.g 2).grain))),(1026,.oblk (L.isLt 3 s.n) 162 [.p ((.sl 4 w.n (fun i=>[.int .i64 ((w.g i).id),.int .i64 ((w.g i).colour),.int .i64 ((w.g i).grain),.sl 2 (w.g i).ol.n (fun i1=>[.int .i64 (((w.g i).ol.g i1).x),.int .i64 (((w.g i).ol.g i1).y)])]))),.p (.int .i64 (s.g 3).grain),.mapv 1027]),(1027,.omq (L.isLt 3 s.n) 3 27 (L.memo (L.tabF w (s.g 3).grain))),(1011,.row 3 1 s.n (fun k=>[.int .i64 (G k)])),(1012,.row 3 1 w.n (fun j=>[.int .i64 (L.atI A u j)]))]) t.1 t.2.1 t.2.2.1 t.2.2.2.1 t.2.2.2.2.1 t.2.2.2.2.2.1 t.2.2.2.2.2.2.1 t.2.2.2.2.2.2.2 u,own:=fun t u=>(fun w s i A X sum G st=>fun u=>[]) t.1 t.2.1 t.2.2.1 t.2.2.2.1 t.2.2.2.2.1 t.2.2.2.2.2.1 t.2.2.2.2.2.2.1 t.2.2.2.2.2.2.2 u,res:=fun t u=>(fun w s i A X sum G st=>fun u=>.p (.tup [])) t.1 t.2.1 t.2.2.1 t.2.2.2.1 t.2.2.2.2.1 t.2.2.2.2.2.1 t.2.2.2.2.2.2.1 t.2.2.2.2.2.2.2 u }
abbrev c_as1_mu:c_as1_mk.T->Nat:=fun t=>(fun w s i A X sum G st=>w.n - i) t.1 t.2.1 t.2.2.1 t.2.2.2.1 t.2.2.2.2.1 t.2.2.2.2.2.1 t.2.2.2.2.2.2.1 t.2.2.2.2.2.2.2
theorem c_as1_vc (rn:Nat) (w:L.Sq L.Want) (s:L.Sq L.Sheet) (i:Nat) (A:List Int) (X:Nat->Int) (sum:Int) (G:Nat->Int) (st:L.AS) (hp:c_as1_mk.pre (w,s,i,A,X,sum,G,st)) (hmu:w.n - i<rn+1):vc Tryz.prog ({ muts:=[],frz:=lookN [],specs:=lookS [(128,s_cloneI_S)],loops:=lookL [(4,{ T:=Nat × (Nat->Int),keep:=[0,1,2,3,4,5,6,7,8,9,10,30],keepO:=[1003,1004,1005,1010,1020,1021,1022,1023,1024,1025,1026,1027,1011],chg:=fun t=>[(31,.p (.int .i64 (t.1:Int)))],own:=fun t=>[(1000,.blk 4 [.p (.bool ((L.putK w s i A sum G st t.1)).fd)]),(1001,.blk 3 [.p (.int .i64 ((L.putK w s i A sum G st t.1)).ls)]),(1002,.blk 62 [.p (.sl 1 (L.sqI ((L.putK w s i A sum G st t.1)).bt).n (fun j=>[.int .i64 ((L.sqI ((L.putK w s i A sum G st t.1)).bt).g j)]))]),(1012,.row 3 1 w.n (fun j=>[.int .i64 (L.atI A t.2 j)]))],inv:=fun t=>t.1 <= s.n,mu:=fun t=>s.n - t.1 })],iters:=lookI [],rfs:=lookR [],nils:=lookM [],mks:=lookK [(127,Mk.lt c_as1_mk c_as1_mu rn)],ren:=fun k=>k,fams:=lookF [(69,c_roomF_fc)],joins:=lookL [(10,{ T:=Nat,keep:=[0,1,2,3,4,5,6,7,8,9,10,14,30,31],keepO:=[1003,1004,1005,1010,1020,1021,1022,1023,1024,1025,1026,1027,1000,1001,1002,1011,1012],chg:=fun k=>[(15,.p (.int .i64 (L.asM s G k)))],own:=fun _=>[],inv:=fun _=>True,mu:=fun _=>0,tie:=fun k=>[(14,.int .i64 (k:Int))] })],anys:=[1011] }) (bodyOf Tryz.f127) (stTr Tryz.f127 (c_as1_mk.args (w,s,i,A,X,sum,G,st)) (c_as1_mk.lent (w,s,i,A,X,sum,G,st))) (retMk Tryz.prog Tryz.f127 c_as1_mk (w,s,i,A,X,sum,G,st)) :=
  @Eq.mpr _ (let I:=SV.int .i64;let T:=Int.toNat;let A107:=(↑w.n:Int);let A96:=(nat_lit 1005);let A95:=(nat_lit 1004);let A94:=(nat_lit 1003);let A93:=(nat_lit 1002);let A92:=(nat_lit 1001);let A91:=(nat_lit 1000);let A90:=(4:Nat);let A66:=(127:Nat);let A59:=(nat_lit 4);let A58:=(L.sqI st.bt);let A57:=(1:Int);let A55:=(bif st.fd then
 decide (st.ls <= sum) else false);let A36:=(nat_lit 127);let A34:=(0:Int);let A31:=(↑i:Int);let A30:=(↑s.n:Int);let A26:=(L.putF w s i A sum G st);let A56:=(L.sqI A26.bt);let A25:=(L.ishl A57 A31);let A24:=(s.n=s.n /\ ∀ (i:Nat),i<s.n -> [I (G i)] = [I (G i)]);let A17:=(3:Nat);let A37:=(s.g A17);let A43:=(L.tabF w A37.grain);let A23
:=(∀ (x:Int),L.memo A43 x=L.memo A43 x);let A16:=(nat_lit 0);let A15:=(1:Nat);let A38:=(s.g A15);let A44:=(L.tabF w A38.grain);let A21:=(∀ (x:Int),L.memo A44 x=L.memo A44 x);let A13:=(0:Nat);let A61:=(A13<nat_lit 1/\i+nat_lit 1 <= w.n);let A39:=(s.g A13);let A45:=(L.tabF w A39.grain);let A20:=(∀ (x:Int),L.memo A45 x=L.memo A45 x);let A12:=(2
:Nat);let A40:=(s.g A12);let A46:=(L.tabF w A40.grain);let A22:=(∀ (x:Int),L.memo A46 x=L.memo A46 x);let A4:=[SV.sl (nat_lit 5) s.n fun (i:Nat)=>[I (s.g i).id,I (s.g i).colour,I (s.g i).w,I (s.g i).h,I (s.g i).grain]];let A3:=[SV.sl A59 w.n fun (i:Nat)=>[I (w.g i).id,I (w.g i).colour,I (w.g i).grain,SV.sl A12 (w.g i).ol.n fun (i1:Nat)=>[I
 ((w.g i).ol.g i1).x,I ((w.g i).ol.g i1).y]]];let A2:=(w.n=w.n /\ ∀ (i:Nat),let A35:=[I (w.g i).id,I (w.g i).colour,I (w.g i).grain,SV.sl A12 (w.g i).ol.n fun (i1:Nat)=>[I ((w.g i).ol.g i1).x,I ((w.g i).ol.g i1).y]];i<w.n->A35=A35);let A1:=[EV.loc A91 A16,EV.loc A92 A16,EV.p (SV.ref A3 A16),EV.loc A93 A16,EV.p (SV.ref A4
 A16),EV.loc A94 A16,EV.loc A95 A16,EV.loc A96 A16];(A55=true -> ∃ (u:Nat->Int),st.fd=A26.fd/\st.ls=A26.ls/\(A58.n=A56.n /\ ∀ (i_1:Nat),i_1<A58.n -> [I (A58.g i_1)] = [I (A56.g i_1)])/\EV.cl A36 A1=EV.cl A66 A1/\s.n=s.n/\L.isLt A13 s.n=L.isLt A13 s.n/\A2/\A39.grain=A39.grain/\L.isLt A13 s.n=L.isLt A13 s.n/\A20/\L.isLt A15 s.n
 = L.isLt A15 s.n/\A2/\A38.grain=A38.grain/\L.isLt A15 s.n=L.isLt A15 s.n/\A21/\L.isLt A12 s.n=L.isLt A12 s.n/\A2/\A40.grain=A40.grain/\L.isLt A12 s.n=L.isLt A12 s.n/\A22/\L.isLt A17 s.n=L.isLt A17 s.n/\A2/\A37.grain=A37.grain/\L.isLt A17 s.n=L.isLt A17 s.n/\A23/\A24/\(w.n=w.n /\ ∀ (i:Nat),i<w.n -> [I (L.atI A X i)] = [I (L.atI A u i)])/\True)/\(A55 =
 false->(decide (A31=A107)=true->i <= w.n/\((∀ (i_1:Nat),i_1<i -> [I (L.atI A X i_1)] = [I (L.atI A X i_1)])/\i <= (1000000:Nat)) /\ ∀ (t:Nat),True->(∀ (i_1:Nat),i_1<i->(true && true)=true) /\ ∃ (u:Nat->Int),true=A26.fd/\sum=A26.ls/\(i=A56.n /\ ∀ (i_1:Nat),i_1<i -> [I (L.atI A X i_1)] = [I (A56.g i_1)])/\EV.cl A36
 A1=EV.cl A66 A1/\s.n=s.n/\L.isLt A13 s.n=L.isLt A13 s.n/\A2/\A39.grain=A39.grain/\L.isLt A13 s.n=L.isLt A13 s.n/\A20/\L.isLt A15 s.n=L.isLt A15 s.n/\A2/\A38.grain=A38.grain/\L.isLt A15 s.n=L.isLt A15 s.n/\A21/\L.isLt A12 s.n=L.isLt A12 s.n/\A2/\A40.grain=A40.grain/\L.isLt A12 s.n=L.isLt A12 s.n/\A22/\L.isLt A17 s.n=L.isLt A17 s.n/\A2/\A37.grain =
 A37.grain/\L.isLt A17 s.n=L.isLt A17 s.n/\A23/\A24/\(w.n=w.n /\ ∀ (i:Nat),i<w.n -> [I (L.atI A X i)] = [I (L.atI A u i)])/\True)/\(decide (A31=A107)=false->(∃ (g:Nat × (Nat->Int)),let A51:=(L.putK w s i A sum G st g.1);A34=(↑g.1:Int)/\st.fd=A51.fd/\st.ls=A51.ls/\(A58.n=(L.sqI A51.bt).n /\ ∀ (i_1:Nat),i_1<A58.n -> [I (A58.g i_1)] = [I ((L.sqI
 A51.bt).g i_1)])/\(w.n=w.n /\ ∀ (i:Nat),i<w.n -> [I (L.atI A X i)] = [I (L.atI A g.2 i)])/\g.1 <= s.n) /\ ∀ (g:Nat × (Nat->Int)),let A53:=(w.n=w.n /\ ∀ (i:Nat),i<w.n -> [I (L.atI A g.2 i)] = [I (L.atI A g.2 i)]);let A11:=(↑g.1:Int);let A80:=[I (L.ior (G (T A11)) A25)];let A54:=(s.g (T A11));let A47:=(A34 <= A11/\A11<A30);let A10:=(L.putK w s i A sum G st
 g.1);let A27:=(L.sqI A10.bt);let A52:=(A27.n=A27.n /\ ∀ (i_1:Nat),i_1<A27.n -> [I (A27.g i_1)] = [I (A27.g i_1)]);let A5:=(!!decide (A54.colour=(w.g (T A31)).colour));let A89:=(A5=true->T A11<s.n);let A42:=(A5=true->A34 <= A11/\A11<A30);g.1 <= s.n->(decide (A11<A30)=true->A47/\(A34 <= A31/\A31<A107)/\A42/\A89/\A42/\A89
 /\ (A5=true->A34 <= A31)/\(A5=true->InK .i64 A25)/\A42/\A42 /\ ∃ (t:L.Sq L.Want × Int × Int × L.Size),let A60:=(L.tabF t.1 t.2.1);let A41:=(bif !decide (A54.colour=(w.g (T A31)).colour) then true else !L.roomB t.1 t.2.1 t.snd.2.1 t.snd.2.2);let A14:=[SV.sl A90 t.1.n fun (i:Nat)=>let A71:=(t.1.g i);[I A71.id,I A71.colour,I
 A71.grain,SV.sl A12 A71.ol.n fun (i1:Nat)=>[I (A71.ol.g i1).x,I (A71.ol.g i1).y]],I t.2.1];(A5=true->T A11<A13+A15+A15+A15+A15)/\(A5=true->T A11=A13->L.isLt A13 s.n=true/\L.isLt A13 s.n=true /\ [SV.sl A59 w.n fun (i:Nat)=>[I (w.g i).id,I (w.g i).colour,I (w.g i).grain,SV.sl A12 (w.g i).ol.n fun (i1:Nat)=>[I ((w.g i).ol.g
 i1).x,I ((w.g i).ol.g i1).y]],I A39.grain]=A14 /\ ∀ (x:Int),L.memo A45 x=L.memo A60 x)/\(A5=true->T A11=A13+A15->L.isLt A15 s.n=true/\L.isLt A15 s.n=true /\ [SV.sl A59 w.n fun (i:Nat)=>[I (w.g i).id,I (w.g i).colour,I (w.g i).grain,SV.sl A12 (w.g i).ol.n fun (i1:Nat)=>[I ((w.g i).ol.g i1).x,I ((w.g i).ol.g i1).y]],I A38.grain]=A14 /\ ∀ (x
:Int),L.memo A44 x=L.memo A60 x)/\(A5=true->T A11=A13+A15+A15->L.isLt A12 s.n=true/\L.isLt A12 s.n=true /\ [SV.sl A59 w.n fun (i:Nat)=>[I (w.g i).id,I (w.g i).colour,I (w.g i).grain,SV.sl A12 (w.g i).ol.n fun (i1:Nat)=>[I ((w.g i).ol.g i1).x,I ((w.g i).ol.g i1).y]],I A40.grain]=A14 /\ ∀ (x:Int),L.memo A46 x=L.memo A60 x)/\(A5 =
 true->T A11=A13+A15+A15+A15->L.isLt A17 s.n=true/\L.isLt A17 s.n=true /\ [SV.sl A59 w.n fun (i:Nat)=>[I (w.g i).id,I (w.g i).colour,I (w.g i).grain,SV.sl A12 (w.g i).ol.n fun (i1:Nat)=>[I ((w.g i).ol.g i1).x,I ((w.g i).ol.g i1).y]],I A37.grain]=A14 /\ ∀ (x:Int),L.memo A43 x=L.memo A60 x)/\(A5=true->L.ior (G (T A11)) A25 =
 t.snd.2.1)/\(A5=true->SV.agg [I A54.w,I A54.h]=SV.agg [I t.snd.2.2.w,I t.snd.2.2.h])/\(A5=true->L.okW t.1/\A34 <= t.snd.2.1/\t.snd.2.1 <= L.all t.1.n)/\(A41=true->InK .i64 (A11+A57) /\ ∃ (g':Nat × (Nat->Int)),let A48:=(L.putK w s i A sum G st g'.1);A11+A57=(↑g'.1:Int)/\A30=A30/\A31=A31/\i=i/\sum=sum/\nat_lit 0 =
 nat_lit 0/\nat_lit 0=nat_lit 0/\SV.ref A3 A16=SV.ref A3 A16/\nat_lit 0=nat_lit 0/\SV.ref A4 A16=SV.ref A4 A16/\nat_lit 0=nat_lit 0/\nat_lit 0=nat_lit 0/\nat_lit 0=nat_lit 0/\A10.fd=A48.fd/\A10.ls=A48.ls/\(A27.n=(L.sqI A48.bt).n /\ ∀ (i_1:Nat),i_1<A27.n -> [I (A27.g i_1)] = [I ((L.sqI A48.bt).g i_1)])/\(w.n=w.n /\ ∀ (i:Nat),i<w.n -> [I
 (L.atI A g.2 i)] = [I (L.atI A g'.2 i)])/\EV.cl A36 A1=EV.cl A36 A1/\s.n=s.n/\L.isLt A13 s.n=L.isLt A13 s.n/\A2/\A39.grain=A39.grain/\L.isLt A13 s.n=L.isLt A13 s.n/\A20/\L.isLt A15 s.n=L.isLt A15 s.n/\A2/\A38.grain=A38.grain/\L.isLt A15 s.n=L.isLt A15 s.n/\A21/\L.isLt A12 s.n=L.isLt A12 s.n/\A2/\A40.grain=A40.grain/\L.isLt A12 s.n=L.isLt A12 s.n /\
 A22/\L.isLt A17 s.n=L.isLt A17 s.n/\A2/\A37.grain=A37.grain/\L.isLt A17 s.n=L.isLt A17 s.n/\A23/\A24/\g'.1 <= s.n/\s.n - g'.1<s.n - g.1)/\(A41=false->(A47/\T A11<s.n/\(decide (G (T A11)=A34)=true->A47/\A47/\InK .i64 (A54.w * A54.h) /\ ∃ (g_1:Nat),A54.w * A54.h=L.asM s G g_1/\A11=A11/\A11=A11/\A30=A30/\A31=A31/\i=i
 /\ sum=sum/\nat_lit 0=nat_lit 0/\nat_lit 0=nat_lit 0/\SV.ref A3 A16=SV.ref A3 A16/\nat_lit 0=nat_lit 0/\SV.ref A4 A16=SV.ref A4 A16/\nat_lit 0=nat_lit 0/\nat_lit 0=nat_lit 0/\nat_lit 0=nat_lit 0/\A10.fd=A10.fd/\A10.ls=A10.ls/\A52/\A53/\EV.cl A36 A1=EV.cl A36 A1/\s.n=s.n/\L.isLt A13 s.n=L.isLt A13 s.n/\A2/\A39.grain =
 A39.grain/\L.isLt A13 s.n=L.isLt A13 s.n/\A20/\L.isLt A15 s.n=L.isLt A15 s.n/\A2/\A38.grain=A38.grain/\L.isLt A15 s.n=L.isLt A15 s.n/\A21/\L.isLt A12 s.n=L.isLt A12 s.n/\A2/\A40.grain=A40.grain/\L.isLt A12 s.n=L.isLt A12 s.n/\A22/\L.isLt A17 s.n=L.isLt A17 s.n/\A2/\A37.grain=A37.grain/\L.isLt A17 s.n=L.isLt A17 s.n/\A23/\A24/\A11=(↑g_1:Int)/\True) /\
 (decide (G (T A11)=A34)=false -> ∃ (g_1:Nat),A34=L.asM s G g_1/\A11=A11/\A11=A11/\A30=A30/\A31=A31/\i=i/\sum=sum/\nat_lit 0=nat_lit 0/\nat_lit 0=nat_lit 0/\SV.ref A3 A16=SV.ref A3 A16/\nat_lit 0=nat_lit 0/\SV.ref A4 A16=SV.ref A4 A16/\nat_lit 0=nat_lit 0/\nat_lit 0=nat_lit 0/\nat_lit 0=nat_lit 0/\A10.fd =
 A10.fd/\A10.ls=A10.ls/\A52/\A53/\EV.cl A36 A1=EV.cl A36 A1/\s.n=s.n/\L.isLt A13 s.n=L.isLt A13 s.n/\A2/\A39.grain=A39.grain/\L.isLt A13 s.n=L.isLt A13 s.n/\A20/\L.isLt A15 s.n=L.isLt A15 s.n/\A2/\A38.grain=A38.grain/\L.isLt A15 s.n=L.isLt A15 s.n/\A21/\L.isLt A12 s.n=L.isLt A12 s.n/\A2/\A40.grain=A40.grain/\L.isLt A12 s.n=L.isLt A12 s.n/\A22
 /\ L.isLt A17 s.n=L.isLt A17 s.n/\A2/\A37.grain=A37.grain/\L.isLt A17 s.n=L.isLt A17 s.n/\A23/\A24/\A11=(↑g_1:Int)/\True)) /\ ∀ (g_1:Nat),A11=(↑g_1:Int)/\True->A47/\T A11<s.n/\A34 <= A31/\InK .i64 A25/\A47/\T A11<s.n/\InK .i64 (A31+A57)/\InK .i64 (sum+L.asM s G g_1)/\(A61 /\ ∃ (t:L.Sq L.Want × L.Sq L.Sheet ×
 Nat × List Int × (Nat->Int) × Int × (Nat->Int) × L.AS),let A79:=(t.2.1.g A17);let A102:=(L.tabF t.1 A79.grain);let A78:=(t.2.1.g A12);let A101:=(L.tabF t.1 A78.grain);let A77:=(t.2.1.g A15);let A100:=(L.tabF t.1 A77.grain);let A76:=(t.2.1.g A13);let A99:=(L.tabF t.1 A76.grain);let A63:=(A34 <= A11/\A11<(↑t.2.1.n:Int));let A62:=(L.sqI
 t.snd.snd.snd.snd.snd.2.2.bt);let A32:=(SV.ref [SV.sl (nat_lit 5) t.2.1.n fun (i:Nat)=>let A67:=(t.2.1.g i);[I A67.id,I A67.colour,I A67.w,I A67.h,I A67.grain]] A16);let A28:=(SV.ref [SV.sl A59 t.1.n fun (i:Nat)=>let A72:=(t.1.g i);[I A72.id,I A72.colour,I A72.grain,SV.sl A12 A72.ol.n fun (i1:Nat)=>[I (A72.ol.g i1).x,I (A72.ol.g i1).y]]]
 A16);let A18:=(L.putF t.1 t.2.1 t.snd.2.1 t.snd.snd.2.1 t.snd.snd.snd.snd.2.1 t.snd.snd.snd.snd.snd.2.1 t.snd.snd.snd.snd.snd.2.2);let A97:=(L.sqI A18.bt);let A8:=(w.n=t.1.n /\ ∀ (i:Nat),let A73:=(t.1.g i);i<w.n -> [I (w.g i).id,I (w.g i).colour,I (w.g i).grain,SV.sl A12 (w.g i).ol.n fun (i1:Nat)=>[I ((w.g i).ol.g i1).x,I ((w.g i).ol.g i1).y]] = [I A73.id,I
 A73.colour,I A73.grain,SV.sl A12 A73.ol.n fun (i1:Nat)=>[I (A73.ol.g i1).x,I (A73.ol.g i1).y]]);let A6:=(t.1.n=w.n /\ ∀ (i:Nat),let A74:=(t.1.g i);i<t.1.n -> [I A74.id,I A74.colour,I A74.grain,SV.sl A12 A74.ol.n fun (i1:Nat)=>[I (A74.ol.g i1).x,I (A74.ol.g i1).y]] = [I (w.g i).id,I (w.g i).colour,I (w.g i).grain,SV.sl A12 (w.g i).ol.n fun (i1:Nat) =>
 [I ((w.g i).ol.g i1).x,I ((w.g i).ol.g i1).y]]);A31+A57=(↑t.snd.2.1:Int)/\i+nat_lit 1=t.snd.2.1/\sum+L.asM s G g_1=t.snd.snd.snd.snd.2.1/\nat_lit 0=A13/\nat_lit 0=A13/\SV.ref A3 A16=SV.ref [SV.sl A90 t.1.n fun (i:Nat)=>let A75:=(t.1.g i);[I A75.id,I A75.colour,I A75.grain,SV.sl A12 A75.ol.n fun (i1:Nat)=>[I (A75.ol.g i1).x,I (A75.ol.g
 i1).y]]] A13/\nat_lit 0=A13/\SV.ref A4 A16=SV.ref [SV.sl (5:Nat) t.2.1.n fun (i:Nat)=>let A68:=(t.2.1.g i);[I A68.id,I A68.colour,I A68.w,I A68.h,I A68.grain]] A13/\nat_lit 0=A13/\nat_lit 0=A13/\nat_lit 0=A13/\A10.fd=t.snd.snd.snd.snd.snd.2.2.fd/\A10.ls=t.snd.snd.snd.snd.snd.2.2.ls/\(A27.n=A62.n /\ ∀ (i_1:Nat),i_1<A27.n -> [I (A27.g i_1)] =
 [I (A62.g i_1)])/\EV.cl A36 A1=EV.cl A66 [EV.loc A91 A16,EV.loc A92 A16,EV.p A28,EV.loc A93 A16,EV.p A32,EV.loc A94 A16,EV.loc A95 A16,EV.loc A96 A16]/\s.n=t.2.1.n/\L.isLt A13 s.n=L.isLt A13 t.2.1.n/\A8/\A39.grain=A76.grain/\L.isLt A13 s.n=L.isLt A13 t.2.1.n/\(∀ (x:Int),L.memo A45 x=L.memo A99 x)/\L.isLt A15
 s.n=L.isLt A15 t.2.1.n/\A8/\A38.grain=A77.grain/\L.isLt A15 s.n=L.isLt A15 t.2.1.n/\(∀ (x:Int),L.memo A44 x=L.memo A100 x)/\L.isLt A12 s.n=L.isLt A12 t.2.1.n/\A8/\A40.grain=A78.grain/\L.isLt A12 s.n=L.isLt A12 t.2.1.n/\(∀ (x:Int),L.memo A46 x=L.memo A101 x)/\L.isLt A17 s.n=L.isLt A17 t.2.1.n/\A8/\A37.grain=A79.grain/\L.isLt A17 s.n=L.isLt A17 t.2.1.n/\(∀
 (x:Int),L.memo A43 x=L.memo A102 x)/\(s.n=t.2.1.n /\ ∀ (i_1:Nat),i_1<s.n->setRow (fun (k:Nat)=>[I (G k)]) (T A11) A16 A80 i_1 = [I (t.snd.snd.snd.snd.snd.2.1 i_1)])/\(w.n=t.1.n /\ ∀ (i_1:Nat),i_1<w.n->(if i <= i_1/\i_1<i+nat_lit 1 then [I A11] else [I (L.atI A g.2 i_1)]) = [I (L.atI t.snd.snd.2.1 t.snd.snd.snd.2.1 i_1)])/\((L.okW t.1/\t.2.1.n <= A90/\(∀ (k :
 Nat),k<t.2.1.n->L.vSheet (t.2.1.g k)=true)/\t.snd.2.1 <= t.1.n/\L.lenI t.snd.snd.2.1=t.snd.2.1/\L.okG t.2.1.n t.snd.2.1 t.snd.snd.snd.snd.snd.2.1/\A34 <= t.snd.snd.snd.snd.2.1/\t.snd.snd.snd.snd.2.1 <= (↑t.snd.2.1:Int) * (16777216:Int))/\t.1.n - t.snd.2.1<rn) /\ ∀ (u:Nat->Int),True->A63/\T A11<t.2.1.n/\A34 <= A31/\InK .i64 A25/\A63/\T A11<t.2.1.n /\
 InK .i64 (A11+A57) /\ ∃ (g':Nat × (Nat->Int)),let A49:=(L.putK w s i A sum G st g'.1);A11+A57=(↑g'.1:Int)/\A30=A30/\A31=A31/\i=i/\sum=sum/\nat_lit 0=nat_lit 0/\nat_lit 0=nat_lit 0/\SV.ref A3 A16=SV.ref A3 A16/\nat_lit 0=nat_lit 0/\SV.ref A4 A16=SV.ref A4 A16/\nat_lit 0=nat_lit 0/\nat_lit 0=nat_lit 0/\nat_lit 0
 = nat_lit 0/\A18.fd=A49.fd/\A18.ls=A49.ls/\(A97.n=(L.sqI A49.bt).n /\ ∀ (i_1:Nat),i_1<A97.n -> [I (A97.g i_1)] = [I ((L.sqI A49.bt).g i_1)])/\(t.1.n=w.n /\ ∀ (i:Nat),i<t.1.n -> [I (L.atI t.snd.snd.2.1 u i)] = [I (L.atI A g'.2 i)])/\EV.cl A36 [EV.loc (1000:Nat) A16,EV.loc (1001:Nat) A16,EV.p A28,EV.loc (1002:Nat) A16,EV.p A32,
 EV.loc (1003:Nat) A16,EV.loc (1004:Nat) A16,EV.loc (1005:Nat) A16]=EV.cl A36 A1/\t.2.1.n=s.n/\L.isLt A13 t.2.1.n=L.isLt A13 s.n/\A6/\A76.grain=A39.grain/\L.isLt A13 t.2.1.n=L.isLt A13 s.n/\(∀ (x:Int),L.memo A99 x=L.memo A45 x)/\L.isLt A15 t.2.1.n=L.isLt A15 s.n/\A6/\A77.grain=A38.grain/\L.isLt A15 t.2.1.n=L.isLt A15 s.n/\(∀ (x:Int),
 L.memo A100 x=L.memo A44 x)/\L.isLt A12 t.2.1.n=L.isLt A12 s.n/\A6/\A78.grain=A40.grain/\L.isLt A12 t.2.1.n=L.isLt A12 s.n/\(∀ (x:Int),L.memo A101 x=L.memo A46 x)/\L.isLt A17 t.2.1.n=L.isLt A17 s.n/\A6/\A79.grain=A37.grain/\L.isLt A17 t.2.1.n=L.isLt A17 s.n/\(∀ (x:Int),L.memo A102 x=L.memo A43 x)/\(t.2.1.n=s.n /\ ∀ (i_1:Nat),i_1<t.2.1.n->setRow (fun
 (k:Nat)=>[I (t.snd.snd.snd.snd.snd.2.1 k)]) (T A11) A16 [I (L.iandNot (t.snd.snd.snd.snd.snd.2.1 (T A11)) A25)] i_1 = [I (G i_1)])/\g'.1 <= s.n/\s.n - g'.1<s.n - g.1)/\A61 /\ ∃ (t:L.Sq L.Want × L.Sq L.Sheet × Nat × List Int × (Nat->Int) × Int × (Nat->Int) × L.AS),let A88:=(t.2.1.g A17);let A106:=(L.tabF t.1 A88.grain);let A87:=(t.2.1.g A12);let A105:=(L.tabF t.1
 A87.grain);let A86:=(t.2.1.g A15);let A104:=(L.tabF t.1 A86.grain);let A85:=(t.2.1.g A13);let A103:=(L.tabF t.1 A85.grain);let A65:=(A34 <= A11/\A11<(↑t.2.1.n:Int));let A64:=(L.sqI t.snd.snd.snd.snd.snd.2.2.bt);let A33:=(SV.ref [SV.sl (nat_lit 5) t.2.1.n fun (i:Nat)=>let A69:=(t.2.1.g i);[I A69.id,I A69.colour,I A69.w,I A69.h,I A69.grain]] A16);let
 A29:=(SV.ref [SV.sl A59 t.1.n fun (i:Nat)=>let A81:=(t.1.g i);[I A81.id,I A81.colour,I A81.grain,SV.sl A12 A81.ol.n fun (i1:Nat)=>[I (A81.ol.g i1).x,I (A81.ol.g i1).y]]] A16);let A19:=(L.putF t.1 t.2.1 t.snd.2.1 t.snd.snd.2.1 t.snd.snd.snd.snd.2.1 t.snd.snd.snd.snd.snd.2.1 t.snd.snd.snd.snd.snd.2.2);let A98:=(L.sqI A19.bt);let A9:=(w.n=t.1.n /\ ∀ (i :
 Nat),let A82:=(t.1.g i);i<w.n -> [I (w.g i).id,I (w.g i).colour,I (w.g i).grain,SV.sl A12 (w.g i).ol.n fun (i1:Nat)=>[I ((w.g i).ol.g i1).x,I ((w.g i).ol.g i1).y]] = [I A82.id,I A82.colour,I A82.grain,SV.sl A12 A82.ol.n fun (i1:Nat)=>[I (A82.ol.g i1).x,I (A82.ol.g i1).y]]);let A7:=(t.1.n=w.n /\ ∀ (i:Nat),let A83:=(t.1.g i);i<t.1.n -> [I A83.id,I
 A83.colour,I A83.grain,SV.sl A12 A83.ol.n fun (i1:Nat)=>[I (A83.ol.g i1).x,I (A83.ol.g i1).y]] = [I (w.g i).id,I (w.g i).colour,I (w.g i).grain,SV.sl A12 (w.g i).ol.n fun (i1:Nat)=>[I ((w.g i).ol.g i1).x,I ((w.g i).ol.g i1).y]]);A31+A57=(↑t.snd.2.1:Int)/\i+nat_lit 1=t.snd.2.1/\sum+L.asM s G g_1=t.snd.snd.snd.snd.2.1/\nat_lit 0=A13/\nat_lit 0=A13 /\
 SV.ref A3 A16=SV.ref [SV.sl A90 t.1.n fun (i:Nat)=>let A84:=(t.1.g i);[I A84.id,I A84.colour,I A84.grain,SV.sl A12 A84.ol.n fun (i1:Nat)=>[I (A84.ol.g i1).x,I (A84.ol.g i1).y]]] A13/\nat_lit 0=A13/\SV.ref A4 A16=SV.ref [SV.sl (5:Nat) t.2.1.n fun (i:Nat)=>let A70:=(t.2.1.g i);[I A70.id,I A70.colour,I A70.w,I A70.h,I
 A70.grain]] A13/\nat_lit 0=A13/\nat_lit 0=A13/\nat_lit 0=A13/\A10.fd=t.snd.snd.snd.snd.snd.2.2.fd/\A10.ls=t.snd.snd.snd.snd.snd.2.2.ls/\(A27.n=A64.n /\ ∀ (i_1:Nat),i_1<A27.n -> [I (A27.g i_1)] = [I (A64.g i_1)])/\EV.cl A36 A1=EV.cl A66 [EV.loc A91 A16,EV.loc A92 A16,EV.p A29,EV.loc A93 A16,EV.p A33,EV.loc A94 A16,
 EV.loc A95 A16,EV.loc A96 A16]/\s.n=t.2.1.n/\L.isLt A13 s.n=L.isLt A13 t.2.1.n/\A9/\A39.grain=A85.grain/\L.isLt A13 s.n=L.isLt A13 t.2.1.n/\(∀ (x:Int),L.memo A45 x=L.memo A103 x)/\L.isLt A15 s.n=L.isLt A15 t.2.1.n/\A9/\A38.grain=A86.grain/\L.isLt A15 s.n=L.isLt A15 t.2.1.n/\(∀ (x:Int),L.memo A44 x=L.memo A104 x)/\L.isLt A12 s.n=L.isLt A12 t.2.1.n
 /\ A9/\A40.grain=A87.grain/\L.isLt A12 s.n=L.isLt A12 t.2.1.n/\(∀ (x:Int),L.memo A46 x=L.memo A105 x)/\L.isLt A17 s.n=L.isLt A17 t.2.1.n/\A9/\A37.grain=A88.grain/\L.isLt A17 s.n=L.isLt A17 t.2.1.n/\(∀ (x:Int),L.memo A43 x=L.memo A106 x)/\(s.n=t.2.1.n /\ ∀ (i_1:Nat),i_1<s.n->setRow (fun (k:Nat)=>[I (G k)]) (T A11) A16 A80 i_1 = [I
 (t.snd.snd.snd.snd.snd.2.1 i_1)])/\(w.n=t.1.n /\ ∀ (i_1:Nat),i_1<w.n->(if i <= i_1/\i_1<i+nat_lit 1 then [I A11] else [I (L.atI A g.2 i_1)]) = [I (L.atI t.snd.snd.2.1 t.snd.snd.snd.2.1 i_1)])/\((L.okW t.1/\t.2.1.n <= A90/\(∀ (k:Nat),k<t.2.1.n->L.vSheet (t.2.1.g k)=true)/\t.snd.2.1 <= t.1.n/\L.lenI t.snd.snd.2.1=t.snd.2.1/\L.okG t.2.1.n t.snd.2.1
 t.snd.snd.snd.snd.snd.2.1/\A34 <= t.snd.snd.snd.snd.2.1/\t.snd.snd.snd.snd.2.1 <= (↑t.snd.2.1:Int) * (16777216:Int))/\t.1.n - t.snd.2.1<rn) /\ ∀ (u:Nat->Int),True->A65/\T A11<t.2.1.n/\A34 <= A31/\InK .i64 A25/\A65/\T A11<t.2.1.n/\InK .i64 (A11+A57) /\ ∃ (g':Nat × (Nat->Int)),let A50:=(L.putK w s i A sum G st g'.1);A11+A57=(↑g'.1 :
 Int)/\A30=A30/\A31=A31/\i=i/\sum=sum/\nat_lit 0=nat_lit 0/\nat_lit 0=nat_lit 0/\SV.ref A3 A16=SV.ref A3 A16/\nat_lit 0=nat_lit 0/\SV.ref A4 A16=SV.ref A4 A16/\nat_lit 0=nat_lit 0/\nat_lit 0=nat_lit 0/\nat_lit 0=nat_lit 0/\A19.fd=A50.fd/\A19.ls=A50.ls/\(A98.n=(L.sqI A50.bt).n /\ ∀ (i_1:Nat),i_1<A98.n -> [I (A98.g i_1)] = [I
 ((L.sqI A50.bt).g i_1)])/\(t.1.n=w.n /\ ∀ (i:Nat),i<t.1.n -> [I (L.atI t.snd.snd.2.1 u i)] = [I (L.atI A g'.2 i)])/\EV.cl A36 [EV.loc (1000:Nat) A16,EV.loc (1001:Nat) A16,EV.p A29,EV.loc (1002:Nat) A16,EV.p A33,EV.loc (1003:Nat) A16,EV.loc (1004:Nat) A16,EV.loc (1005:Nat) A16]=EV.cl A36 A1/\t.2.1.n=s.n /\
 L.isLt A13 t.2.1.n=L.isLt A13 s.n/\A7/\A85.grain=A39.grain/\L.isLt A13 t.2.1.n=L.isLt A13 s.n/\(∀ (x:Int),L.memo A103 x=L.memo A45 x)/\L.isLt A15 t.2.1.n=L.isLt A15 s.n/\A7/\A86.grain=A38.grain/\L.isLt A15 t.2.1.n=L.isLt A15 s.n/\(∀ (x:Int),L.memo A104 x=L.memo A44 x)/\L.isLt A12 t.2.1.n=L.isLt A12 s.n/\A7/\A87.grain=A40.grain/\L.isLt A12 t.2.1.n=L.isLt A12
 s.n/\(∀ (x:Int),L.memo A105 x=L.memo A46 x)/\L.isLt A17 t.2.1.n=L.isLt A17 s.n/\A7/\A88.grain=A37.grain/\L.isLt A17 t.2.1.n=L.isLt A17 s.n/\(∀ (x:Int),L.memo A106 x=L.memo A43 x)/\(t.2.1.n=s.n /\ ∀ (i_1:Nat),i_1<t.2.1.n->setRow (fun (k:Nat)=>[I (t.snd.snd.snd.snd.snd.2.1 k)]) (T A11) A16 [I (L.iandNot (t.snd.snd.snd.snd.snd.2.1 (T A11)) A25)] i_1 = [I
 (G i_1)])/\g'.1 <= s.n/\s.n - g'.1<s.n - g.1))/\(decide (A11<A30)=false -> ∃ (u:Nat->Int),A10.fd=A26.fd/\A10.ls=A26.ls/\(A27.n=A56.n /\ ∀ (i_1:Nat),i_1<A27.n -> [I (A27.g i_1)] = [I (A56.g i_1)])/\EV.cl A36 A1=EV.cl A66 A1/\s.n=s.n/\L.isLt A13 s.n=L.isLt A13 s.n/\A2/\A39.grain=A39.grain/\L.isLt A13 s.n=L.isLt A13 s.n/\A20/\L.isLt
 A15 s.n=L.isLt A15 s.n/\A2/\A38.grain=A38.grain/\L.isLt A15 s.n=L.isLt A15 s.n/\A21/\L.isLt A12 s.n=L.isLt A12 s.n/\A2/\A40.grain=A40.grain/\L.isLt A12 s.n=L.isLt A12 s.n/\A22/\L.isLt A17 s.n=L.isLt A17 s.n/\A2/\A37.grain=A37.grain/\L.isLt A17 s.n=L.isLt A17 s.n/\A23/\A24/\(w.n=w.n /\ ∀ (i:Nat),i<w.n -> [I (L.atI A g.2 i)] = [I (L.atI A u i)])/\True)))) (by kernel_rfl) (by
  conv=>zeta
  have hp:L.okW w/\s.n <= 4/\(∀ k,k<s.n->L.vSheet (s.g k)=true)/\i <= w.n/\L.lenI A=i/\L.okG s.n i G/\0 <= sum/\sum <= (i:Int) * 16777216:=hp
  have hmu:w.n - i<rn+1:=hmu
  obtain ⟨hok,hs4,hsv,hi,hA,hG,hs0,hs1⟩:=hp
  have hA2:A.length=i:=hA
  have hw4:=hok.1
  have ei:((i:Int)).toNat=i:=Int.toNat_natCast i
  have atA:∀ (X:Nat->Int) j,j<i->L.atI A X j=A.getD j 0:=fun X j hj=>by unfold L.atI;rw [if_pos (by omega)]
  refine ⟨fun h1=>?_,fun h1=>⟨fun h2=>?_,fun h2=>?_⟩⟩
  ·rw [band] at h1
   rw [putF_cut w s A G hi h1]
   exact ⟨X,(by (try dsimp only);(repeat' with_reducible apply And.intro) <;> first | with_reducible rfl | with_reducible exact fun _=>rfl | with_reducible exact fun _ _=>rfl | with_reducible exact trivial | exact rfl | (intro _;exact rfl) | (intro _ _;exact rfl) | exact trivial | (intro _ h_;exact absurd h_ (Nat.not_lt_zero _)))⟩
  ·rw [band] at h1
   have h2:(i:Int)=(w.n:Int):=of_decide_eq_true h2
   obtain rfl:i=w.n:=by omega
   rw [putF_end w s A G h1]
   have c1:w.n <= 1000000:=by omega
   exact ⟨Nat.le_refl _,⟨fun _ _=>rfl,c1⟩,fun _ _=>⟨fun _ _=>rfl,X,(by (try dsimp only);(repeat' with_reducible apply And.intro) <;> first | with_reducible rfl | with_reducible exact hA.symm | with_reducible exact fun _=>rfl | with_reducible exact fun _ _=>rfl | with_reducible exact trivial | (intro j hj;exact congrArg (fun x=>[SV.int .i64 x]) (atA X j hj)) | exact rfl | (intro _;exact rfl) | (intro _ _;exact rfl) | exact hA.symm | exact trivial | (intro _ h_;exact absurd h_ (Nat.not_lt_zero _)))⟩⟩
  ·rw [band] at h1
   have h2:¬ (i:Int)=(w.n:Int):=of_decide_eq_false h2
   have hlt:i<w.n:=by omega
   have hi4:i<4:=by omega
   rw [putF_go w s A G hlt h1]
   refine ⟨⟨(0,X),(by (try dsimp only);(repeat' with_reducible apply And.intro) <;> first | with_reducible rfl | with_reducible exact Nat.zero_le _ | with_reducible exact congrArg L.AS.fd (putK_0 w s i A sum G st).symm | with_reducible exact congrArg L.AS.ls (putK_0 w s i A sum G st).symm | with_reducible exact fun _=>rfl | with_reducible exact fun _ _=>rfl | with_reducible exact trivial | (intro j _;exact congrArg (fun x:L.AS=>[SV.int .i64 ((L.sqI x.bt).g j)]) (putK_0 w s i A sum G st).symm) | exact rfl | (intro _;exact rfl) | (intro _ _;exact rfl) | exact Nat.zero_le _ | exact congrArg L.AS.fd (putK_0 w s i A sum G st).symm | exact congrArg L.AS.ls (putK_0 w s i A sum G st).symm | exact congrArg (fun x:L.AS=>(L.sqI x.bt).n) (putK_0 w s i A sum G st).symm | exact trivial | (intro _ h_;exact absurd h_ (Nat.not_lt_zero _)))⟩,fun g hg=>?_⟩
   obtain ⟨k,Y⟩:=g
   dsimp only at hg ⊢
   have ek:((k:Int)).toNat=k:=Int.toNat_natCast k
   rw [ei,ek]
   refine ⟨fun hc=>?_,fun hc=>?_⟩
   ·have hc:(k:Int)<(s.n:Int):=of_decide_eq_true hc
    have hk:k<s.n:=by omega
    obtain ⟨g0,g1⟩:=hG k hk
    obtain ⟨wd1,wd2,wd3,wd4⟩:=wider_of hi4 g0 g1
    obtain ⟨wa1,wa2⟩:=wider_all hw4 hlt g0 g1
    have c0:0 <= (k:Int)/\(k:Int)<(s.n:Int):=⟨Int.natCast_nonneg _,hc⟩
    have ci:0 <= (i:Int):=Int.natCast_nonneg _
    have ci2:0 <= (i:Int)/\(i:Int)<(w.n:Int):=by omega
    have k1:InK .i64 (L.ishl 1 (i:Int)):=jK
    have k2:InK .i64 ((k:Int)+1):=jK
    have k3:InK .i64 ((i:Int)+1):=jK
    have kk:k+1 <= s.n:=hk
    have mm:s.n - (k+1)<s.n - k:=by omega
    have cn:(k:Int)+1=((k+1:Nat):Int):=by omega
    refine ⟨c0,ci2,fun _=>c0,fun _=>hk,fun _=>c0,fun _=>hk,fun _=>ci,fun _=>k1,fun _=>c0,fun _=>c0,(w,(s.g k).grain,L.wider (G k) i,⟨(s.g k).w,(s.g k).h⟩),fun _=>(by omega),?_,?_,?_,?_,fun _=>rfl,fun _=>rfl,fun _=>⟨hok,wa1,wa2⟩,fun h=>?_,fun h=>?_⟩
    ·intro _ e;subst e;exact ⟨decide_eq_true hk,decide_eq_true hk,rfl,fun _=>rfl⟩
    ·intro _ e;subst e;exact ⟨decide_eq_true hk,decide_eq_true hk,rfl,fun _=>rfl⟩
    ·intro _ e;subst e;exact ⟨decide_eq_true hk,decide_eq_true hk,rfl,fun _=>rfl⟩
    ·intro _ e;subst e;exact ⟨decide_eq_true hk,decide_eq_true hk,rfl,fun _=>rfl⟩
    ·have h:L.asNo w s G i k=true:=h
     have e2:L.putK w s i A sum G st k=L.putK w s i A sum G st (k+1):=by rw [putK_succ,h];rfl
     exact ⟨k2,(k+1,Y),(by (try dsimp only);(repeat' with_reducible apply And.intro) <;> first | with_reducible rfl | with_reducible assumption | with_reducible exact congrArg L.AS.fd e2 | with_reducible exact congrArg L.AS.ls e2 | with_reducible exact fun _=>rfl | with_reducible exact fun _ _=>rfl | with_reducible exact trivial | (intro j _;exact congrArg (fun x:L.AS=>[SV.int .i64 ((L.sqI x.bt).g j)]) e2) | exact rfl | (intro _;exact rfl) | (intro _ _;exact rfl) | exact cn | exact kk | exact mm | exact congrArg L.AS.fd e2 | exact congrArg L.AS.ls e2 | exact congrArg (fun x:L.AS=>(L.sqI x.bt).n) e2 | exact trivial | (intro _ h_;exact absurd h_ (Nat.not_lt_zero _)))⟩
    ·have h:L.asNo w s G i k=false:=h
     have e3:L.putF w s (i+1) (L.snocI A k) (sum+L.asM s G k) (L.asG G k i) (L.putK w s i A sum G st k)=L.putK w s i A sum G st (k+1):=by rw [putK_succ,h];rfl
     obtain ⟨v1,v2,v3,v4⟩:=vSheet_b5 (hsv k hk)
     have ar0:0 <= (s.g k).w * (s.g k).h:=Int.mul_nonneg (by omega) (by omega)
     have ar1:(s.g k).w * (s.g k).h <= 4096 * 4096:=Int.mul_le_mul (by omega) (by omega) (by omega) (by omega)
     have k4:InK .i64 ((s.g k).w * (s.g k).h):=jK
     have am:0 <= L.asM s G k/\L.asM s G k <= 16777216:=by
      unfold L.asM
      cases decide (G k=0) <;> simp only [cond_true,cond_false] <;> omega
     refine ⟨⟨c0,hk,fun hz=>?_,fun hz=>?_⟩,fun k2' hk2=>?_⟩
     ·have em:(s.g k).w * (s.g k).h=L.asM s G k:=by unfold L.asM;rw [hz];rfl
      exact ⟨c0,c0,k4,k,(by (try dsimp only);(repeat' with_reducible apply And.intro) <;> first | with_reducible rfl | with_reducible assumption | with_reducible exact fun _=>rfl | with_reducible exact fun _ _=>rfl | with_reducible exact trivial | exact rfl | (intro _;exact rfl) | (intro _ _;exact rfl) | exact em | exact trivial | (intro _ h_;exact absurd h_ (Nat.not_lt_zero _)))⟩
     ·have em:0=L.asM s G k:=by unfold L.asM;rw [hz];rfl
      exact ⟨k,(by (try dsimp only);(repeat' with_reducible apply And.intro) <;> first | with_reducible rfl | with_reducible assumption | with_reducible exact fun _=>rfl | with_reducible exact fun _ _=>rfl | with_reducible exact trivial | exact rfl | (intro _;exact rfl) | (intro _ _;exact rfl) | exact em | exact trivial | (intro _ h_;exact absurd h_ (Nat.not_lt_zero _)))⟩
     ·obtain rfl:k2'=k:=by have:=hk2.1;omega
      have k5:InK .i64 (sum+L.asM s G k2'):=jK
      have i1:i+1 <= w.n:=hlt
      have l1:L.lenI (L.snocI A k2')=i+1:=by show (A ++ [(k2':Int)]).length=i+1;simp [hA2]
      have hG1:=okG_next hi4 hG hk
      have s0:0 <= sum+L.asM s G k2':=by omega
      have s1:sum+L.asM s G k2' <= ((i+1:Nat):Int) * 16777216:=by push_cast;omega
      have m1:w.n - (i+1)<rn:=by omega
      have p0:0<1:=Nat.one_pos
      have row1:∀ j,j<s.n->setRow (fun k=>[SV.int .i64 (G k)]) k2' 0 [SV.int .i64 (L.ior (G k2') (L.ishl 1 (i:Int)))] j = [SV.int .i64 (L.asG G k2' i j)]:=fun j _=>by
       unfold setRow L.asG
       by_cases e:j=k2'
       ·rw [if_pos e,if_pos e];rfl
       ·rw [if_neg e,if_neg e]
      have row2:∀ j,j<s.n->setRow (fun k=>[SV.int .i64 (L.asG G k2' i k)]) k2' 0 [SV.int .i64 (L.iandNot (L.asG G k2' i k2') (L.ishl 1 (i:Int)))] j = [SV.int .i64 (G j)]:=fun j _=>by
       unfold setRow
       by_cases e:j=k2'
       ·subst e
        rw [if_pos rfl]
        have:L.asG G j i j=G j+2 ^ i:=by unfold L.asG;rw [if_pos rfl];exact wd1
        rw [this,wd2];rfl
       ·rw [if_neg e]
        have:L.asG G k2' i j=G j:=by unfold L.asG;rw [if_neg e]
        dsimp only
        rw [this]
      have getS:∀ j,j<i->(L.snocI A k2').getD j 0=A.getD j 0:=fun j hj=>by
       unfold L.snocI
       rw [List.getD_eq_getElem?_getD,List.getD_eq_getElem?_getD,List.getElem?_append_left (by omega)]
      have len2:(L.snocI A k2').length=i+1:=l1
      have at1:∀ j,j<w.n->(if i <= j/\j<i+1 then [SV.int .i64 (k2':Int)] else [SV.int .i64 (L.atI A Y j)]) = [SV.int .i64 (L.atI (L.snocI A k2') Y j)]:=fun j _=>by
       by_cases e:j<i
       ·rw [if_neg (by omega),atA Y j e]
        unfold L.atI
        rw [if_pos (by omega),getS j e]
       ·by_cases e2:j=i
        ·subst e2
         rw [if_pos (by omega)]
         unfold L.atI
         rw [if_pos (by omega)]
         have:(L.snocI A k2').getD j 0=(k2':Int):=by
          unfold L.snocI
          rw [List.getD_eq_getElem?_getD,List.getElem?_append_right (by omega),show j - A.length=0 by omega];rfl
         rw [this]
        ·rw [if_neg (by omega)]
         unfold L.atI
         rw [if_neg (by omega),if_neg (by omega)]
      have at2:∀ (u:Nat->Int) j,j<w.n -> [SV.int .i64 (L.atI (L.snocI A k2') u j)] = [SV.int .i64 (L.atI A (fun j=>L.atI (L.snocI A k2') u j) j)]:=fun u j _=>by
       by_cases e:j<i
       ·rw [atA _ j e]
        unfold L.atI
        rw [if_pos (by omega),getS j e]
       ·conv=>rhs;unfold L.atI
        rw [if_neg (by omega)]
        unfold L.atI
        rfl
      repeat' with_reducible apply And.intro
      all_goals first | exact c0.1 | exact c0.2 | exact hk | exact ci | exact k1 | exact k3 | exact k5 | exact p0 | exact i1 | exact ⟨(w,s,i+1,L.snocI A k2',Y,sum+L.asM s G k2',L.asG G k2' i,L.putK w s i A sum G st k2'),(by (try dsimp only);(repeat' with_reducible apply And.intro) <;> first | with_reducible rfl | with_reducible assumption | with_reducible exact fun _=>rfl | with_reducible exact fun _ _=>rfl | with_reducible exact trivial | (intro u _;exact ⟨c0,hk,ci,k1,c0,hk,k2,(k2'+1,fun j=>L.atI (L.snocI A k2') u j),(by (try dsimp only);(repeat' with_reducible apply And.intro) <;> first | with_reducible rfl | with_reducible assumption | with_reducible exact at2 u | with_reducible exact congrArg L.AS.fd e3 | with_reducible exact congrArg L.AS.ls e3 | with_reducible exact fun _=>rfl | with_reducible exact fun _ _=>rfl | with_reducible exact trivial | (intro j _;exact congrArg (fun x:L.AS=>[SV.int .i64 ((L.sqI x.bt).g j)]) e3) | exact rfl | (intro _;exact rfl) | (intro _ _;exact rfl) | exact cn | exact kk | exact mm | exact row2 | exact at2 u | exact congrArg L.AS.fd e3 | exact congrArg L.AS.ls e3 | exact congrArg (fun x:L.AS=>(L.sqI x.bt).n) e3 | exact trivial | (intro _ h_;exact absurd h_ (Nat.not_lt_zero _)))⟩) | exact rfl | (intro _;exact rfl) | (intro _ _;exact rfl) | exact hok | exact hs4 | exact hsv | exact i1 | exact l1 | exact hG1 | exact s0 | exact s1 | exact m1 | exact row1 | exact at1 | exact trivial | (intro _ h_;exact absurd h_ (Nat.not_lt_zero _)))⟩
   ·have hc:¬ (k:Int)<(s.n:Int):=of_decide_eq_false hc
    obtain rfl:k=s.n:=by omega
    exact ⟨Y,(by (try dsimp only);(repeat' with_reducible apply And.intro) <;> first | with_reducible rfl | with_reducible exact fun _=>rfl | with_reducible exact fun _ _=>rfl | with_reducible exact trivial | exact rfl | (intro _;exact rfl) | (intro _ _;exact rfl) | exact trivial | (intro _ h_;exact absurd h_ (Nat.not_lt_zero _)))⟩)
theorem c_as1_en:Enters Tryz.prog 127:=fun args w=>by kernel_rfl
theorem c_as1_mok:MkOk Tryz.prog 127 c_as1_mk:=mk_rec c_as1_mu ⟨fun t=>rfl,fun t u=>rfl,fun t u=>rfl,fun t u=>⟨rfl,rfl,rfl⟩,.inl rfl,fun k h=>(by cases h)⟩ (fun rn ih=>mk_ok (n:=11) Tryz.func127 (c:=bodyOf Tryz.f127) (by kernel_rfl) mixed ⟨fun t=>rfl,fun t=>rfl,fun t u=>rfl,fun t u=>rfl,fun t u=>rfl,fun t u=>⟨rfl,rfl⟩,by kernel_rfl,by kernel_rfl⟩ (fun ⟨w,s,i,A,X,sum,G,st⟩ hp=>⟨_,c_as1_vc rn w s i A X sum G st hp.1 hp.2,⟨show SpecsL Tryz.prog _ from (SpecsL.cons s_cloneI_ok s_cloneI_en SpecsL.nil),rfl,⟨show ItersL Tryz.prog _ from ItersL.nil,⟨TrsOk.no1 (fun _=>rfl),⟨show MksL Tryz.prog _ from (MksL.cons ih c_as1_en MksL.nil),show FamsL Tryz.prog _ from (FamsL.cons c_roomF_fcok c_roomF_en FamsL.nil)⟩⟩⟩⟩⟩))
end
end Go.Proofs.YtpgaejicfbpcmaaGreat
namespace Go.Proofs.YtpgaejicfbpcmaaGreat
open Go.SE Go.RowKit
set_option maxRecDepth 100000
set_option maxHeartbeats 4000000
set_option linter.unusedVariables false
attribute [local irreducible] vc
def L.as0:L.AS:=⟨false,0,[]⟩
theorem isLt_succ (j g:Nat):(L.isLt j g || decide (g=j))=L.isLt j (g+1):=by
 unfold L.isLt
 by_cases h1:j<g
 ·rw [decide_eq_true h1,decide_eq_true (show j<g+1 by omega)];rfl
 ·by_cases h2:g=j
  ·rw [decide_eq_true h2,decide_eq_true (show j<g+1 by omega),Bool.or_true]
  ·rw [decide_eq_false h1,decide_eq_false h2,decide_eq_false (show ¬ j<g+1 by omega)];rfl
theorem isLt_self (j:Nat):L.isLt j j=false:=decide_eq_false (Nat.lt_irrefl j)
theorem isLt_0 (j:Nat):false=L.isLt j 0:=(decide_eq_false (Nat.not_lt_zero j)).symm
def L.asgF (w:L.Sq L.Want) (s:L.Sq L.Sheet):L.AS:=L.putF w s 0 [] 0 (fun _=>0) L.as0
section
attribute [local irreducible] L.putK L.putF L.asP L.roomB L.tabF L.tab L.all L.part L.iandNot L.ior L.ishl L.isLt
abbrev c_assign_mk:Mk:={ T:=(L.Sq L.Want) × (L.Sq L.Sheet),U:=Nat,args:=fun t=>(fun w s=>[.p ((.sl 4 w.n (fun i=>[.int .i64 ((w.g i).id),.int .i64 ((w.g i).colour),.int .i64 ((w.g i).grain),.sl 2 (w.g i).ol.n (fun i1=>[.int .i64 (((w.g i).ol.g i1).x),.int .i64 (((w.g i).ol.g i1).y)])]))),.p ((.sl 5 s.n (fun i=>[.int .i64 ((s.g i).id),.int .i64 ((s.g i).colour),.int .i64 ((s.g i).w),.int .i64 ((s.g i).h),.int .i64 ((s.g i).grain)])))]) t.1 t.2,lkeys:=[],keys:=[],lent:=fun t=>(fun w s=>[]) t.1 t.2,pre:=fun t=>(fun w s=>L.okW w/\s.n <= 4/\(∀ k,k<s.n->L.vSheet (s.g k)=true)) t.1 t.2,post:=fun t u=>(fun w s=>fun uu=>True) t.1 t.2 u,lent':=fun t u=>(fun w s=>fun uu=>[]) t.1 t.2 u,own:=fun t u=>(fun w s=>fun uu=>[]) t.1 t.2 u,res:=fun t u=>(fun w s=>fun uu=>.p (.tup [.sl 1 (L.sqI (L.asgF w s).bt).n (fun i=>[.int .i64 ((L.sqI (L.asgF w s).bt).g i)]),.int .i64 (L.asgF w s).ls,.bool (L.asgF w s).fd])) t.1 t.2 u }
theorem c_assign_vc (w:L.Sq L.Want) (s:L.Sq L.Sheet) (hp:c_assign_mk.pre (w,s)):vc Tryz.prog ({ muts:=[7,8,9,10,12,13,16,35,40],frz:=lookN [],specs:=lookS [],loops:=lookL [(5,{ T:=Nat,keep:=[2,3,7,8,9,10,18],keepO:=[7,8,9,10,16],chg:=fun k=>[(19,.p (.int .i64 (k:Int)))],own:=fun k=>[(17,.oblk (L.isLt 0 (k)) 162 [.p ((.sl 4 w.n (fun i=>[.int .i64 ((w.g i).id),.int .i64 ((w.g i).colour),.int .i64 ((w.g i).grain),.sl 2 (w.g i).ol.n (fun i1=>[.int .i64 (((w.g i).ol.g i1).x),.int .i64 (((w.g i).ol.g i1).y)])]))),.p (.int .i64 (s.g 0).grain),.mapv 18]),(18,.omq (L.isLt 0 (k)) 3 27 (L.memo (L.tabF w (s.g 0).grain))),(20,.oblk (L.isLt 1 (k)) 162 [.p ((.sl 4 w.n (fun i=>[.int .i64 ((w.g i).id),.int .i64 ((w.g i).colour),.int .i64 ((w.g i).grain),.sl 2 (w.g i).ol.n (fun i1=>[.int .i64 (((w.g i).ol.g i1).x),.int .i64 (((w.g i).ol.g i1).y)])]))),.p (.int .i64 (s.g 1).grain),.mapv 21]),(21,.omq (L.isLt 1 (k)) 3 27 (L.memo (L.tabF w (s.g 1).grain))),(23,.oblk (L.isLt 2 (k)) 162 [.p ((.sl 4 w.n (fun i=>[.int .i64 ((w.g i).id),.int .i64 ((w.g i).colour),.int .i64 ((w.g i).grain),.sl 2 (w.g i).ol.n (fun i1=>[.int .i64 (((w.g i).ol.g i1).x),.int .i64 (((w.g i).ol.g i1).y)])]))),.p (.int .i64 (s.g 2).grain),.mapv 24]),(24,.omq (L.isLt 2 (k)) 3 27 (L.memo (L.tabF w (s.g 2).grain))),(25,.oblk (L.isLt 3 (k)) 162 [.p ((.sl 4 w.n (fun i=>[.int .i64 ((w.g i).id),.int .i64 ((w.g i).colour),.int .i64 ((w.g i).grain),.sl 2 (w.g i).ol.n (fun i1=>[.int .i64 (((w.g i).ol.g i1).x),.int .i64 (((w.g i).ol.g i1).y)])]))),.p (.int .i64 (s.g 3).grain),.mapv 26]),(26,.omq (L.isLt 3 (k)) 3 27 (L.memo (L.tabF w (s.g 3).grain)))],inv:=fun k=>k <= s.n,mu:=fun k=>s.n - k })],iters:=lookI [],rfs:=lookR [],nils:=lookM [],mks:=lookK [(62,c_shapesOf_mk),(127,c_as1_mk)],ren:=fun k=>if k=9 then 27 else if k=7 then 28 else if k=1000 then 9 else if k=1001 then 8 else if k=1002 then 7 else if k=1003 then 10 else if k=1004 then 12 else if k=1005 then 13 else if k=1010 then 16 else if k=1011 then 35 else if k=1012 then 40 else if k=1020 then 17 else if k=1021 then 18 else if k=1022 then 20 else if k=1023 then 21 else if k=1024 then 23 else if k=1025 then 24 else if k=1026 then 25 else if k=1027 then 26 else k,anys:=[1007,1012],pres:=[40],prows:=lookP [(16,{ bs:=[17,18,20,21,23,24,25,26],t:=162,kt:=3,vt:=27,head:=fun j=>[(.sl 4 w.n (fun i=>[.int .i64 ((w.g i).id),.int .i64 ((w.g i).colour),.int .i64 ((w.g i).grain),.sl 2 (w.g i).ol.n (fun i1=>[.int .i64 (((w.g i).ol.g i1).x),.int .i64 (((w.g i).ol.g i1).y)])])),.int .i64 (s.g j).grain],val:=fun j=>L.memo (L.tabF w (s.g j).grain) })] }) (bodyOf Tryz.f78) (stTr Tryz.f78 (c_assign_mk.args (w,s)) (c_assign_mk.lent (w,s))) (retMk Tryz.prog Tryz.f78 c_assign_mk (w,s)) :=
  @Eq.mpr _ (let I:=SV.int .i64;let T:=Int.toNat;let A59:=(4:Nat);let A58:=(1:Int);let A57:=(140737488355328:Int);let A34:=(↑w.n:Int);let A31:=(L.asgF w s);let A39:=(L.sqI A31.bt);let A23:=(0:Int);let A28:=(A23 <= A23/\A23 <= A34/\A34 * (↑(nat_lit 8):Int) <= A57);let A16:=(3:Nat);let A32:=(s.g A16);let A20:=(L.tabF w A32.grain);let A37:=(∀
 (x:Int),L.memo A20 x=L.memo A20 x);let A15:=(↑s.n:Int);let A30:=(A23 <= A15/\A15 <= A15/\A15 * (↑(nat_lit 8):Int) <= A57);let A13:=(nat_lit 0);let A12:=(2:Nat);let A33:=(s.g A12);let A19:=(L.tabF w A33.grain);let A36:=(∀ (x:Int),L.memo A19 x=L.memo A19 x);let A9:=(1:Nat);let A22:=(L.tabF w (s.g A9).grain);let A35:=(∀ (x:Int),L.memo A22 x=L.memo
 A22 x);let A8:=(0:Nat);let A54:=(s.g (A8+A9+A9+A9));let A18:=(L.tabF w (s.g A8).grain);let A29:=(∀ (x:Int),L.memo A18 x=L.memo A18 x);let A7:=[SV.sl (nat_lit 5) s.n fun (i:Nat)=>[I (s.g i).id,I (s.g i).colour,I (s.g i).w,I (s.g i).h,I (s.g i).grain]];let A2:=[SV.sl (nat_lit 4) w.n fun (i:Nat)=>[I (w.g i).id,I (w.g i).colour,I (w.g i).grain,
 SV.sl A12 (w.g i).ol.n fun (i1:Nat)=>[I ((w.g i).ol.g i1).x,I ((w.g i).ol.g i1).y]]];let A17:=[EV.loc (nat_lit 9) A13,EV.loc (nat_lit 8) A13,EV.p (SV.ref A2 A13),EV.loc (nat_lit 7) A13,EV.p (SV.ref A7 A13),EV.loc (nat_lit 10) A13,EV.loc (nat_lit 12) A13,EV.loc (nat_lit 13) A13];let A1:=(w.n=w.n /\ ∀ (i:Nat),let
 A26:=[I (w.g i).id,I (w.g i).colour,I (w.g i).grain,SV.sl A12 (w.g i).ol.n fun (i1:Nat)=>[I ((w.g i).ol.g i1).x,I ((w.g i).ol.g i1).y]];i<w.n->A26=A26);A30/\A12 * T A15 <= A8+A9+A9+A9+A9+A9+A9+A9+A9/\(∃ (g:Nat),A23=(↑g:Int)/\false=L.isLt A8 g/\A1/\(s.g A8).grain=(s.g A8).grain/\false=L.isLt A8 g/\A29/\false=L.isLt A9 g/\A1
 /\ (s.g (A8+A9)).grain=(s.g A9).grain/\false=L.isLt A9 g/\(∀ (x:Int),L.memo (L.tabF w (s.g (A8+A9)).grain) x=L.memo A22 x)/\false=L.isLt A12 g/\A1/\(s.g (A8+A9+A9)).grain=A33.grain/\false=L.isLt A12 g/\(∀ (x:Int),L.memo (L.tabF w (s.g (A8+A9+A9)).grain) x=L.memo A19 x)/\false=L.isLt A16 g/\A1/\A54.grain=A32.grain/\false =
 L.isLt A16 g/\(∀ (x:Int),L.memo (L.tabF w A54.grain) x=L.memo A20 x)/\g <= s.n) /\ ∀ (g:Nat),let A14:=(↑g:Int);let A38:=(A23 <= A14/\A14<(↑(T A15):Int));let A27:=(L.isLt A8 g || decide (T A14=A8));let A25:=(L.isLt A9 g || decide (T A14=A8+A9));let A24:=(L.isLt A12 g || decide (T A14=A8+A9+A9));let A21:=(L.isLt A16 g ||
 decide (T A14=A8+A9+A9+A9));g <= s.n->(decide (A14<A15)=true->(A23 <= A14/\A14<A15)/\(∃ (t:L.Sq L.Want × Int × (Int->L.Sq L.Size)),let A3:=(t.1.n=w.n /\ ∀ (i:Nat),let A44:=(t.1.g i);i<t.1.n -> [I A44.id,I A44.colour,I A44.grain,SV.sl A12 A44.ol.n fun (i1:Nat)=>[I (A44.ol.g i1).x,I (A44.ol.g i1).y]] = [I (w.g i).id,I (w.g
 i).colour,I (w.g i).grain,SV.sl A12 (w.g i).ol.n fun (i1:Nat)=>[I ((w.g i).ol.g i1).x,I ((w.g i).ol.g i1).y]]);(w.n=t.1.n /\ ∀ (i:Nat),let A45:=(t.1.g i);i<w.n -> [I (w.g i).id,I (w.g i).colour,I (w.g i).grain,SV.sl A12 (w.g i).ol.n fun (i1:Nat)=>[I ((w.g i).ol.g i1).x,I ((w.g i).ol.g i1).y]] = [I A45.id,I A45.colour,I A45.grain,SV.sl A12 A45.ol.n fun (i1
:Nat)=>[I (A45.ol.g i1).x,I (A45.ol.g i1).y]])/\(s.g (T A14)).grain=t.2.1/\True /\ ∀ (u:Nat),True->A38/\T A14<T A15/\(T A14=A8->L.isLt A8 g=false/\L.isLt A8 g=false/\(∀ (x:Int),false=true->L.memo t.2.2 x=L.memo A18 x)/\A3/\t.2.1=(s.g A8).grain)/\(T A14=A8+A9->L.isLt A9 g=false/\L.isLt A9 g=false/\(∀ (x:Int),false
 = true->L.memo t.2.2 x=L.memo A22 x)/\A3/\t.2.1=(s.g A9).grain)/\(T A14=A8+A9+A9->L.isLt A12 g=false/\L.isLt A12 g=false/\(∀ (x:Int),false=true->L.memo t.2.2 x=L.memo A19 x)/\A3/\t.2.1=A33.grain)/\(T A14=A8+A9+A9+A9->L.isLt A16 g=false/\L.isLt A16 g=false/\(∀ (x:Int),false=true->L.memo t.2.2 x =
 L.memo A20 x)/\A3/\t.2.1=A32.grain)/\InK .i64 (A14+A58) /\ ∃ (g':Nat),A14+A58=(↑g':Int)/\A15=A15/\nat_lit 0=nat_lit 0/\nat_lit 0=nat_lit 0/\nat_lit 0=nat_lit 0/\nat_lit 0=nat_lit 0/\SV.ref A7 A13=SV.ref A7 A13/\SV.ref A2 A13=SV.ref A2 A13/\A27=L.isLt A8 g'/\A1/\(s.g A8).grain=(s.g A8).grain/\A27=L.isLt A8 g' /\
 A29/\A25=L.isLt A9 g'/\A1/\(s.g A9).grain=(s.g A9).grain/\A25=L.isLt A9 g'/\A35/\A24=L.isLt A12 g'/\A1/\A33.grain=A33.grain/\A24=L.isLt A12 g'/\A36/\A21=L.isLt A16 g'/\A1/\A32.grain=A32.grain/\A21=L.isLt A16 g'/\A37/\T A15=T A15/\false=false/\A23=A23/\Value.slice Option.none A8 A8=Value.slice Option.none A8 A8/\g' <= s.n/\s.n - g'<s.n
 - g) /\ ∃ (t:L.Sq L.Want × Int × (Int->L.Sq L.Size)),let A4:=(t.1.n=w.n /\ ∀ (i:Nat),let A46:=(t.1.g i);i<t.1.n -> [I A46.id,I A46.colour,I A46.grain,SV.sl A12 A46.ol.n fun (i1:Nat)=>[I (A46.ol.g i1).x,I (A46.ol.g i1).y]] = [I (w.g i).id,I (w.g i).colour,I (w.g i).grain,SV.sl A12 (w.g i).ol.n fun (i1:Nat)=>[I ((w.g i).ol.g i1).x,I ((w.g i).ol.g i1).y]]);(w.n
 = t.1.n /\ ∀ (i:Nat),let A47:=(t.1.g i);i<w.n -> [I (w.g i).id,I (w.g i).colour,I (w.g i).grain,SV.sl A12 (w.g i).ol.n fun (i1:Nat)=>[I ((w.g i).ol.g i1).x,I ((w.g i).ol.g i1).y]] = [I A47.id,I A47.colour,I A47.grain,SV.sl A12 A47.ol.n fun (i1:Nat)=>[I (A47.ol.g i1).x,I (A47.ol.g i1).y]])/\(s.g (T A14)).grain=t.2.1/\True /\ ∀ (u:Nat),True->A38/\T A14<T A15
 /\ (T A14=A8->L.isLt A8 g=false/\L.isLt A8 g=false/\(∀ (x:Int),false=true->L.memo t.2.2 x=L.memo A18 x)/\A4/\t.2.1=(s.g A8).grain)/\(T A14=A8+A9->L.isLt A9 g=false/\L.isLt A9 g=false/\(∀ (x:Int),false=true->L.memo t.2.2 x=L.memo A22 x)/\A4/\t.2.1=(s.g A9).grain)/\(T A14=A8+A9+A9->L.isLt A12 g=false /\
 L.isLt A12 g=false/\(∀ (x:Int),false=true->L.memo t.2.2 x=L.memo A19 x)/\A4/\t.2.1=A33.grain)/\(T A14=A8+A9+A9+A9->L.isLt A16 g=false/\L.isLt A16 g=false/\(∀ (x:Int),false=true->L.memo t.2.2 x=L.memo A20 x)/\A4/\t.2.1=A32.grain)/\InK .i64 (A14+A58) /\ ∃ (g':Nat),A14+A58=(↑g':Int)/\A15=A15 /\
 nat_lit 0=nat_lit 0/\nat_lit 0=nat_lit 0/\nat_lit 0=nat_lit 0/\nat_lit 0=nat_lit 0/\SV.ref A7 A13=SV.ref A7 A13/\SV.ref A2 A13=SV.ref A2 A13/\A27=L.isLt A8 g'/\A1/\(s.g A8).grain=(s.g A8).grain/\A27=L.isLt A8 g'/\A29/\A25=L.isLt A9 g'/\A1/\(s.g A9).grain=(s.g A9).grain/\A25=L.isLt A9 g'/\A35/\A24=L.isLt A12 g'/\A1/\A33.grain =
 A33.grain/\A24=L.isLt A12 g'/\A36/\A21=L.isLt A16 g'/\A1/\A32.grain=A32.grain/\A21=L.isLt A16 g'/\A37/\T A15=T A15/\false=false/\A23=A23/\Value.slice Option.none A8 A8=Value.slice Option.none A8 A8/\g' <= s.n/\s.n - g'<s.n - g)/\(decide (A14<A15)=false->A30/\(A28 /\ ∃ (t:L.Sq L.Want × L.Sq L.Sheet × Nat × List Int × (Nat->Int) ×
 Int × (Nat->Int) × L.AS),let A10:=(L.putF t.1 t.2.1 t.snd.2.1 t.snd.snd.2.1 t.snd.snd.snd.snd.2.1 t.snd.snd.snd.snd.snd.2.1 t.snd.snd.snd.snd.snd.2.2);let A55:=(L.sqI A10.bt);let A5:=(w.n=t.1.n /\ ∀ (i:Nat),let A48:=(t.1.g i);i<w.n -> [I (w.g i).id,I (w.g i).colour,I (w.g i).grain,SV.sl A12 (w.g i).ol.n fun (i1:Nat)=>[I ((w.g i).ol.g i1).x,I ((w.g i).ol.g i1).y]] =
 [I A48.id,I A48.colour,I A48.grain,SV.sl A12 A48.ol.n fun (i1:Nat)=>[I (A48.ol.g i1).x,I (A48.ol.g i1).y]]);A23=(↑t.snd.2.1:Int)/\nat_lit 0=t.snd.2.1/\A23=t.snd.snd.snd.snd.2.1/\nat_lit 0=A8/\nat_lit 0=A8/\SV.ref A2 A13=SV.ref [SV.sl A59 t.1.n fun (i:Nat)=>let A49:=(t.1.g i);[I A49.id,I A49.colour,I A49.grain,SV.sl A12 A49.ol.n fun
 (i1:Nat)=>[I (A49.ol.g i1).x,I (A49.ol.g i1).y]]] A8/\nat_lit 0=A8/\SV.ref A7 A13=SV.ref [SV.sl (5:Nat) t.2.1.n fun (i:Nat)=>let A40:=(t.2.1.g i);[I A40.id,I A40.colour,I A40.w,I A40.h,I A40.grain]] A8/\nat_lit 0=A8/\nat_lit 0=A8/\nat_lit 0=A8/\false=t.snd.snd.snd.snd.snd.2.2.fd/\A23=t.snd.snd.snd.snd.snd.2.2.ls/\(L.sqI
 t.snd.snd.snd.snd.snd.2.2.bt).n=A8/\EV.cl (nat_lit 127) A17=EV.cl (127:Nat) [EV.loc (9:Nat) A13,EV.loc (8:Nat) A13,EV.p (SV.ref [SV.sl (nat_lit 4) t.1.n fun (i:Nat)=>let A50:=(t.1.g i);[I A50.id,I A50.colour,I A50.grain,SV.sl A12 A50.ol.n fun (i1:Nat)=>[I (A50.ol.g i1).x,I (A50.ol.g i1).y]]] A13),EV.loc (7:Nat) A13,
 EV.p (SV.ref [SV.sl (nat_lit 5) t.2.1.n fun (i:Nat)=>let A41:=(t.2.1.g i);[I A41.id,I A41.colour,I A41.w,I A41.h,I A41.grain]] A13),EV.loc (10:Nat) A13,EV.loc (12:Nat) A13,EV.loc (13:Nat) A13]/\T A15=t.2.1.n/\L.isLt A8 g=L.isLt A8 t.2.1.n/\A5/\(s.g A8).grain=(t.2.1.g A8).grain/\L.isLt A8 g=L.isLt A8 t.2.1.n/\(∀ (x:Int),L.memo
 A18 x=L.memo (L.tabF t.1 (t.2.1.g A8).grain) x)/\L.isLt A9 g=L.isLt A9 t.2.1.n/\A5/\(s.g A9).grain=(t.2.1.g A9).grain/\L.isLt A9 g=L.isLt A9 t.2.1.n/\(∀ (x:Int),L.memo A22 x=L.memo (L.tabF t.1 (t.2.1.g A9).grain) x)/\L.isLt A12 g=L.isLt A12 t.2.1.n/\A5/\A33.grain=(t.2.1.g A12).grain/\L.isLt A12 g=L.isLt A12 t.2.1.n/\(∀ (x:Int),L.memo A19 x=L.memo (L.tabF t.1
 (t.2.1.g A12).grain) x)/\L.isLt A16 g=L.isLt A16 t.2.1.n/\A5/\A32.grain=(t.2.1.g A16).grain/\L.isLt A16 g=L.isLt A16 t.2.1.n/\(∀ (x:Int),L.memo A20 x=L.memo (L.tabF t.1 (t.2.1.g A16).grain) x)/\(T A15=t.2.1.n /\ ∀ (i:Nat),i<T A15 -> [I A23] = [I (t.snd.snd.snd.snd.snd.2.1 i)])/\(T A34=t.1.n /\ ∀ (i:Nat),i<T A34 -> [I A23] = [I (L.atI t.snd.snd.2.1 t.snd.snd.snd.2.1 i)])
 /\ (L.okW t.1/\t.2.1.n <= A59/\(∀ (k:Nat),k<t.2.1.n->L.vSheet (t.2.1.g k)=true)/\t.snd.2.1 <= t.1.n/\L.lenI t.snd.snd.2.1=t.snd.2.1/\L.okG t.2.1.n t.snd.2.1 t.snd.snd.snd.snd.snd.2.1/\A23 <= t.snd.snd.snd.snd.2.1/\t.snd.snd.snd.snd.2.1 <= (↑t.snd.2.1:Int) * (16777216:Int)) /\ ∀ (u:Nat->Int),True -> ∃ (u:Nat),(A55.n=A39.n /\ ∀ (i:Nat),i<A55.n -> [I (A55.g i)] = [I
 (A39.g i)])/\A10.ls=A31.ls/\A10.fd=A31.fd/\True)/\A28 /\ ∃ (t:L.Sq L.Want × L.Sq L.Sheet × Nat × List Int × (Nat->Int) × Int × (Nat->Int) × L.AS),let A11:=(L.putF t.1 t.2.1 t.snd.2.1 t.snd.snd.2.1 t.snd.snd.snd.snd.2.1 t.snd.snd.snd.snd.snd.2.1 t.snd.snd.snd.snd.snd.2.2);let A56:=(L.sqI A11.bt);let A6:=(w.n=t.1.n /\ ∀ (i:Nat),let A51:=(t.1.g i);i<w.n -> [I (w.g i).id,I
 (w.g i).colour,I (w.g i).grain,SV.sl A12 (w.g i).ol.n fun (i1:Nat)=>[I ((w.g i).ol.g i1).x,I ((w.g i).ol.g i1).y]] = [I A51.id,I A51.colour,I A51.grain,SV.sl A12 A51.ol.n fun (i1:Nat)=>[I (A51.ol.g i1).x,I (A51.ol.g i1).y]]);A23=(↑t.snd.2.1:Int)/\nat_lit 0=t.snd.2.1/\A23=t.snd.snd.snd.snd.2.1/\nat_lit 0=A8/\nat_lit 0=A8/\SV.ref A2 A13=SV.ref
 [SV.sl A59 t.1.n fun (i:Nat)=>let A52:=(t.1.g i);[I A52.id,I A52.colour,I A52.grain,SV.sl A12 A52.ol.n fun (i1:Nat)=>[I (A52.ol.g i1).x,I (A52.ol.g i1).y]]] A8/\nat_lit 0=A8/\SV.ref A7 A13=SV.ref [SV.sl (5:Nat) t.2.1.n fun (i:Nat)=>let A42:=(t.2.1.g i);[I A42.id,I A42.colour,I A42.w,I A42.h,I A42.grain]] A8/\nat_lit 0=A8/\nat_lit 0 =
 A8/\nat_lit 0=A8/\false=t.snd.snd.snd.snd.snd.2.2.fd/\A23=t.snd.snd.snd.snd.snd.2.2.ls/\(L.sqI t.snd.snd.snd.snd.snd.2.2.bt).n=A8/\EV.cl (nat_lit 127) A17=EV.cl (127:Nat) [EV.loc (9:Nat) A13,EV.loc (8:Nat) A13,EV.p (SV.ref [SV.sl (nat_lit 4) t.1.n fun (i:Nat)=>let A53:=(t.1.g i);[I A53.id,I A53.colour,I A53.grain,
 SV.sl A12 A53.ol.n fun (i1:Nat)=>[I (A53.ol.g i1).x,I (A53.ol.g i1).y]]] A13),EV.loc (7:Nat) A13,EV.p (SV.ref [SV.sl (nat_lit 5) t.2.1.n fun (i:Nat)=>let A43:=(t.2.1.g i);[I A43.id,I A43.colour,I A43.w,I A43.h,I A43.grain]] A13),EV.loc (10:Nat) A13,EV.loc (12:Nat) A13,EV.loc (13:Nat) A13]/\T A15=t.2.1.n/\L.isLt A8 g =
 L.isLt A8 t.2.1.n/\A6/\(s.g A8).grain=(t.2.1.g A8).grain/\L.isLt A8 g=L.isLt A8 t.2.1.n/\(∀ (x:Int),L.memo A18 x=L.memo (L.tabF t.1 (t.2.1.g A8).grain) x)/\L.isLt A9 g=L.isLt A9 t.2.1.n/\A6/\(s.g A9).grain=(t.2.1.g A9).grain/\L.isLt A9 g=L.isLt A9 t.2.1.n/\(∀ (x:Int),L.memo A22 x=L.memo (L.tabF t.1 (t.2.1.g A9).grain) x)/\L.isLt A12 g=L.isLt A12 t.2.1.n/\A6 /\
 A33.grain=(t.2.1.g A12).grain/\L.isLt A12 g=L.isLt A12 t.2.1.n/\(∀ (x:Int),L.memo A19 x=L.memo (L.tabF t.1 (t.2.1.g A12).grain) x)/\L.isLt A16 g=L.isLt A16 t.2.1.n/\A6/\A32.grain=(t.2.1.g A16).grain/\L.isLt A16 g=L.isLt A16 t.2.1.n/\(∀ (x:Int),L.memo A20 x=L.memo (L.tabF t.1 (t.2.1.g A16).grain) x)/\(T A15=t.2.1.n /\ ∀ (i:Nat),i<T A15 -> [I A23] = [I
 (t.snd.snd.snd.snd.snd.2.1 i)])/\(T A34=t.1.n /\ ∀ (i:Nat),i<T A34 -> [I A23] = [I (L.atI t.snd.snd.2.1 t.snd.snd.snd.2.1 i)])/\(L.okW t.1/\t.2.1.n <= A59/\(∀ (k:Nat),k<t.2.1.n->L.vSheet (t.2.1.g k)=true)/\t.snd.2.1 <= t.1.n/\L.lenI t.snd.snd.2.1=t.snd.2.1/\L.okG t.2.1.n t.snd.2.1 t.snd.snd.snd.snd.snd.2.1/\A23 <= t.snd.snd.snd.snd.2.1/\t.snd.snd.snd.snd.2.1 <= (↑t.snd.2.1
:Int) * (16777216:Int)) /\ ∀ (u:Nat->Int),True -> ∃ (u:Nat),(A56.n=A39.n /\ ∀ (i:Nat),i<A56.n -> [I (A56.g i)] = [I (A39.g i)])/\A11.ls=A31.ls/\A11.fd=A31.fd/\True)) (by kernel_rfl) (by
 conv=>zeta
 have hp:L.okW w/\s.n <= 4/\(∀ k,k<s.n->L.vSheet (s.g k)=true):=hp
 obtain ⟨hok,hs4,hsv⟩:=hp
 have hw4:=hok.1
 have b1:0 <= (s.n:Int):=Int.natCast_nonneg _
 have b2:(s.n:Int) * 8 <= 140737488355328:=by omega
 have b3:0 <= (w.n:Int):=Int.natCast_nonneg _
 have b4:(w.n:Int) * 8 <= 140737488355328:=by omega
 have b5:2 * s.n <= 0+1+1+1+1+1+1+1+1:=by omega
 rw [Int.toNat_natCast s.n,Int.toNat_natCast w.n]
 refine ⟨⟨b1,Int.le_refl _,b2⟩,b5,⟨0,(by (try dsimp only);(repeat' with_reducible apply And.intro) <;> first | with_reducible rfl | with_reducible exact Nat.zero_le _ | with_reducible exact isLt_0 _ | with_reducible exact fun _=>rfl | with_reducible exact fun _ _=>rfl | with_reducible exact trivial | exact rfl | (intro _;exact rfl) | (intro _ _;exact rfl) | exact Nat.zero_le _ | exact isLt_0 _ | exact trivial | (intro _ h_;exact absurd h_ (Nat.not_lt_zero _)))⟩,fun g hg=>?_⟩
 rw [Int.toNat_natCast g]
 refine ⟨fun hc=>?_,fun hc=>?_⟩
 ·have hc:(g:Int)<(s.n:Int):=of_decide_eq_true hc
  have hk:g<s.n:=by omega
  have c0:0 <= (g:Int)/\(g:Int)<(s.n:Int):=⟨Int.natCast_nonneg _,hc⟩
  have k2:InK .i64 ((g:Int)+1):=jK
  have kk:g+1 <= s.n:=hk
  have mm:s.n - (g+1)<s.n - g:=by omega
  have cn:(g:Int)+1=((g+1:Nat):Int):=by omega
  repeat' with_reducible apply And.intro
  all_goals first | exact c0.1 | exact c0.2 | exact ⟨(w,(s.g g).grain,L.tabF w (s.g g).grain),(by (try dsimp only);(repeat' with_reducible apply And.intro) <;> first | with_reducible rfl | with_reducible exact fun _=>rfl | with_reducible exact fun _ _=>rfl | with_reducible exact trivial | (intro u _;exact (by (try dsimp only);(repeat' with_reducible apply And.intro) <;> first | with_reducible rfl | with_reducible assumption | with_reducible exact c0.1 | with_reducible exact c0.2 | with_reducible exact fun _=>rfl | with_reducible exact fun _ _=>rfl | with_reducible exact trivial | (intro e;exact by subst e;exact ⟨isLt_self _,isLt_self _,fun _ h=>(by cases h),⟨rfl,fun _ _=>rfl⟩,rfl⟩) | exact ⟨g+1,(by (try dsimp only);(repeat' with_reducible apply And.intro) <;> first | with_reducible rfl | with_reducible assumption | with_reducible exact isLt_succ 0 g | with_reducible exact isLt_succ 1 g | with_reducible exact isLt_succ 2 g | with_reducible exact isLt_succ 3 g | with_reducible exact fun _=>rfl | with_reducible exact fun _ _=>rfl | with_reducible exact trivial | exact rfl | (intro _;exact rfl) | (intro _ _;exact rfl) | exact cn | exact kk | exact mm | exact isLt_succ 0 g | exact isLt_succ 1 g | exact isLt_succ 2 g | exact isLt_succ 3 g | exact trivial | (intro _ h_;exact absurd h_ (Nat.not_lt_zero _)))⟩ | exact rfl | (intro _;exact rfl) | (intro _ _;exact rfl) | exact c0.1 | exact c0.2 | exact hk | exact k2 | exact trivial | (intro _ h_;exact absurd h_ (Nat.not_lt_zero _)))) | exact rfl | (intro _;exact rfl) | (intro _ _;exact rfl) | exact trivial | (intro _ h_;exact absurd h_ (Nat.not_lt_zero _)))⟩
 ·have hc:¬ (g:Int)<(s.n:Int):=of_decide_eq_false hc
  obtain rfl:g=s.n:=by omega
  have z0:(0:Int) <= 0:=Int.le_refl _
  have og:L.okG s.n 0 (fun _=>0):=fun k _=>⟨Int.le_refl _,(by show (0:Int)<2 ^ 0;decide)⟩
  have at0:∀ i,i<w.n -> [SV.int .i64 0] = [SV.int .i64 (L.atI [] (fun _=>0) i)]:=fun i _=>by
   unfold L.atI;rfl
  have s1:(0:Int) <= ((0:Nat):Int) * 16777216:=by decide
  repeat' with_reducible apply And.intro
  all_goals first | exact b1 | exact b2 | exact b3 | exact b4 | exact z0 | exact Int.le_refl _ | exact ⟨(w,s,0,[],fun _=>0,0,fun _=>0,L.as0),(by (try dsimp only);(repeat' with_reducible apply And.intro) <;> first | with_reducible rfl | with_reducible assumption | with_reducible exact Nat.zero_le _ | with_reducible exact fun _=>rfl | with_reducible exact fun _ _=>rfl | with_reducible exact trivial | (intro u _;exact ⟨(0:Nat),(by (try dsimp only);(repeat' with_reducible apply And.intro) <;> first | with_reducible rfl | with_reducible exact fun _=>rfl | with_reducible exact fun _ _=>rfl | with_reducible exact trivial | exact rfl | (intro _;exact rfl) | (intro _ _;exact rfl) | exact trivial | (intro _ h_;exact absurd h_ (Nat.not_lt_zero _)))⟩) | exact rfl | (intro _;exact rfl) | (intro _ _;exact rfl) | exact hok | exact hs4 | exact hsv | exact Nat.zero_le _ | exact og | exact z0 | exact s1 | exact at0 | exact trivial | (intro _ h_;exact absurd h_ (Nat.not_lt_zero _)))⟩)
theorem c_assign_en:Enters Tryz.prog 78:=fun args w=>by kernel_rfl
theorem c_assign_mok:MkOk Tryz.prog 78 c_assign_mk:=mk_ok (n:=2) Tryz.func78 (c:=bodyOf Tryz.f78) (by kernel_rfl) mixed ⟨fun t=>rfl,fun t=>rfl,fun t u=>rfl,fun t u=>rfl,fun t u=>rfl,fun t u=>⟨rfl,rfl⟩,by kernel_rfl,by kernel_rfl⟩ (fun ⟨w,s⟩ hp=>⟨_,c_assign_vc w s hp,⟨show SpecsL Tryz.prog _ from SpecsL.nil,rfl,⟨show ItersL Tryz.prog _ from ItersL.nil,⟨TrsOk.no1 (fun _=>rfl),⟨show MksL Tryz.prog _ from (MksL.cons c_shapesOf_mok c_shapesOf_en (MksL.cons c_as1_mok c_as1_en MksL.nil)),FamsOk.none (fun _=>rfl)⟩⟩⟩⟩⟩)
end
end Go.Proofs.YtpgaejicfbpcmaaGreat
namespace Go.Proofs.YtpgaejicfbpcmaaGreat
open Go.SE Go.RowKit
set_option maxRecDepth 100000
set_option maxHeartbeats 4000000
set_option linter.unusedVariables false
attribute [local irreducible] vc
def L.inS (n:Nat) (l:List Int):Prop:=∀ x,x ∈ l->0 <= x/\x<(n:Int)
theorem asP_in (w:L.Sq L.Want) (s:L.Sq L.Sheet):∀ (f i:Nat) (A:List Int) (sum:Int) (G:Nat->Int) (st:L.AS),L.inS s.n A->L.inS s.n st.bt->L.inS s.n (L.asP w s f i A sum G st).bt
 | 0,_,_,_,_,_,_,h=>h
 | f+1,i,A,sum,G,st,hA,h=>by
   rw [L.asP]
   split
   ·exact h
   ·split
    ·exact hA
    ·have key : ∀ (l : List Nat) (st : L.AS), (∀ k, k ∈ l -> k < s.n) -> L.inS s.n st.bt -> L.inS s.n (l.foldl (fun st k => bif L.asNo w s G i k then st else L.asP w s f (i + 1) (L.snocI A k) (sum + L.asM s G k) (L.asG G k i) st) st).bt := fun l => by
      induction l with
      | nil=>intro st _ h;exact h
      | cons k l ih =>
        intro st hl h
        rw [List.foldl_cons]
        refine ih _ (fun k hk=>hl k (List.mem_cons_of_mem _ hk)) ?_
        cases L.asNo w s G i k with
        | true=>exact h
        | false =>
          refine asP_in w s f _ _ _ _ _ (fun x hx=>?_) h
          unfold L.snocI at hx
          rcases List.mem_append.1 hx with hx | hx
          ·exact hA x hx
          ·have:=hl k (List.mem_cons_self ..)
           rw [List.mem_singleton.1 hx];omega
     exact key _ st (fun k hk=>List.mem_range.1 hk) h
theorem asgF_in (w:L.Sq L.Want) (s:L.Sq L.Sheet) {i:Nat} (hi:i<(L.sqI (L.asgF w s).bt).n):0 <= (L.sqI (L.asgF w s).bt).g i/\(L.sqI (L.asgF w s).bt).g i<(s.n:Int):=by
 have h:L.inS s.n (L.asgF w s).bt:=asP_in w s _ _ _ _ _ _ (fun x hx=>by cases hx) (fun x hx=>by cases hx)
 have hi:i<(L.asgF w s).bt.length:=hi
 have e:(L.sqI (L.asgF w s).bt).g i=(L.asgF w s).bt[i]:=by
  show (L.asgF w s).bt.getD i 0=_
  rw [List.getD_eq_getElem?_getD,List.getElem?_eq_getElem hi];rfl
 rw [e]
 exact h _ (List.getElem_mem hi)
theorem asP_len (w:L.Sq L.Want) (s:L.Sq L.Sheet):∀ (f i:Nat) (A:List Int) (sum:Int) (G:Nat->Int) (st:L.AS),A.length=i->(st.bt.length=0\/st.bt.length=w.n)->(L.asP w s f i A sum G st).bt.length=0\/(L.asP w s f i A sum G st).bt.length=w.n
 | 0,_,_,_,_,_,_,h=>h
 | f+1,i,A,sum,G,st,hA,h=>by
   rw [L.asP]
   split
   ·exact h
   ·split
    ·rename_i e;exact .inr (hA.trans e)
    ·have key : ∀ (l : List Nat) (st : L.AS), (st.bt.length = 0 \/ st.bt.length = w.n) -> ((l.foldl (fun st k => bif L.asNo w s G i k then st else L.asP w s f (i + 1) (L.snocI A k) (sum + L.asM s G k) (L.asG G k i) st) st).bt.length = 0 \/ (l.foldl (fun st k => bif L.asNo w s G i k then st else L.asP w s f (i + 1) (L.snocI A k) (sum + L.asM s G k) (L.asG G k i) st) st).bt.length = w.n) := fun l => by
      induction l with
      | nil=>intro st h;exact h
      | cons k l ih =>
        intro st h
        rw [List.foldl_cons]
        refine ih _ ?_
        cases L.asNo w s G i k with
        | true=>exact h
        | false=>exact asP_len w s f _ _ _ _ _ (by unfold L.snocI;simp [hA]) h
     exact key _ st h
theorem asgF_len (w:L.Sq L.Want) (s:L.Sq L.Sheet):(L.sqI (L.asgF w s).bt).n <= w.n:=by
 have:=asP_len w s (w.n+1 - 0) 0 [] 0 (fun _=>0) L.as0 rfl (.inl rfl)
 have:(L.asgF w s).bt.length=0\/(L.asgF w s).bt.length=w.n:=this
 show (L.asgF w s).bt.length <= w.n
 omega
def L.preS (s:L.Sq L.Sheet):Prop:=(s.n <= 4\/7<s.n)/\s.n <= 1000000
def L.agE (w:L.Sq L.Want) (s:L.Sq L.Sheet):Int:=bif !decide (L.badE w s true=0) then L.badE w s true else bif !(L.asgF w s).fd then 52 else 0
def L.agN (w:L.Sq L.Want) (s:L.Sq L.Sheet):Nat:=bif decide (L.agE w s=0) then (L.sqI (L.asgF w s).bt).n else 0
def L.agA (w:L.Sq L.Want) (s:L.Sq L.Sheet):Int:=bif decide (L.agE w s=0) then (L.asgF w s).ls else 0
def L.agI (w:L.Sq L.Want) (s:L.Sq L.Sheet) (i:Nat):Int:=(s.g ((L.sqI (L.asgF w s).bt).g i).toNat).id
theorem vSheets_o9 {s:L.Sq L.Sheet} (h:L.vSheets s=true):∀ i,i<s.n->L.vSheet (s.g i)=true:=fun i hi=>by
 have:=allB_iff.1 h i hi
 simp only [Bool.not_eq_true'] at this
 unfold L.badAt at this
 cases h1:L.vSheet (s.g i)
 ·simp only [h1] at this;cases this
 ·rfl
section
attribute [local irreducible] L.putK L.putF L.asP L.asgF L.roomB L.tabF L.tab L.all
def c_Assign_p (w:(L.Sq L.Want)) (s:(L.Sq L.Sheet)):Prop:=L.preW w/\L.preS s
def c_Assign_r (w:(L.Sq L.Want)) (s:(L.Sq L.Sheet)):SV:=.tup [.sl 1 (L.agN w s) (fun i=>[.int .i64 (L.agI w s i)]),.int .i64 (L.agA w s),.int .i64 (L.agE w s)]
def c_Assign_s:List EV->Option (Prop × SV)
 | [.p (.sl 4 w_n w_g),.p (.sl 5 s_n s_g)]=>some ((∀ i,i<w_n->okWant (w_g i))/\(∀ i,i<s_n->s_g i = [.int .i64 ((ofSheet (s_g i)).id),.int .i64 ((ofSheet (s_g i)).colour),.int .i64 ((ofSheet (s_g i)).w),.int .i64 ((ofSheet (s_g i)).h),.int .i64 ((ofSheet (s_g i)).grain)])/\c_Assign_p (⟨w_n,fun i=>ofWant (w_g i)⟩:(L.Sq L.Want)) (⟨s_n,fun i=>ofSheet (s_g i)⟩:(L.Sq L.Sheet)),c_Assign_r (⟨w_n,fun i=>ofWant (w_g i)⟩:(L.Sq L.Want)) (⟨s_n,fun i=>ofSheet (s_g i)⟩:(L.Sq L.Sheet)))
 | _=>none
abbrev c_Assign_S:SE.Spec:=(specO c_Assign_s)
def c_Assign_C:Cfg:={ cC with muts:=[40],frz:=lookN [(12,[40])],specs:=lookS [(60,c_bad_S)],mks:=lookK [(78,c_assign_mk)],ren:=fun k=>k,nilsL:=lookM [(8,[(4,40,3,1)])] }
theorem c_Assign_vc (w:(L.Sq L.Want)) (s:(L.Sq L.Sheet)) (hp:c_Assign_p w s):vc Tryz.prog ({ c_Assign_C with loops:=lookL [(8,{ T:=Nat,keep:=[1,4,5,27,28],keepO:=[],chg:=fun i=>[(29,.p (.int .i64 (i:Int)))],own:=fun i=>[(40,.row 3 1 i (fun j=>[.int .i64 (L.agI w s j)]))],inv:=fun i=>i <= (L.sqI (L.asgF w s).bt).n,mu:=fun i=>(L.sqI (L.asgF w s).bt).n - i })],rfs:=lookR [] }) (bodyOf Tryz.f27) (st0 Tryz.f27 [.p (.sl 4 w.n (fun i=>[.int .i64 ((w.g i).id),.int .i64 ((w.g i).colour),.int .i64 ((w.g i).grain),.sl 2 (w.g i).ol.n (fun i1=>[.int .i64 (((w.g i).ol.g i1).x),.int .i64 (((w.g i).ol.g i1).y)])])),.p (.sl 5 s.n (fun i=>[.int .i64 ((s.g i).id),.int .i64 ((s.g i).colour),.int .i64 ((s.g i).w),.int .i64 ((s.g i).h),.int .i64 ((s.g i).grain)]))]) (retFn Tryz.prog Tryz.f27 (c_Assign_r w s)) :=
 @Eq.mpr _ (let I:=SV.int .i64;let T:=Int.toNat;let A16:=(0:Nat);let A14:=(1000000:Nat);let A12:=(L.Sq.mk s.n fun (i:Nat)=>s.g i);let A11:=(0:Int);let A4:=(L.sqI (L.asgF w s).bt);let A2:=(L.Sq.mk w.n fun (i:Nat)=>L.Want.mk (w.g i).id (w.g i).colour (w.g i).grain (L.Sq.mk (w.g i).ol.n fun (i_1:Nat)=>(w.g i).ol.g i_1));let A3:=(!decide (L.badE A2 A12 true=A11));((∀ (i:Nat),i<w.n -> ∀ (i_1:Nat),let A9:=((w.g i).ol.g i_1);i_1<(w.g i).ol.n -> [I A9.x,I A9.y] = [I A9.x,I A9.y])/\(∀ (i:Nat),let A5:=[I (s.g i).id,I (s.g i).colour,I (s.g i).w,I (s.g i).h,I (s.g i).grain];i<s.n->A5=A5)/\w.n <= A14/\(∀ (i:Nat),i<w.n->(w.g i).ol.n <= A14)/\s.n <= A14)/\(A3=true->L.agN w s=A16/\A11=L.agA w s/\L.badE A2 A12 true=L.agE w s)/\(A3=false -> ∃ (t:L.Sq L.Want × L.Sq L.Sheet),let A7:=(L.asgF t.1 t.2);let A1:=(L.sqI A7.bt);let A10:=(↑A1.n:Int);(w.n=t.1.n /\ ∀ (i:Nat),let A13:=(t.1.g i);i<w.n -> [I (w.g i).id,I (w.g i).colour,I (w.g i).grain,SV.sl (2:Nat) (w.g i).ol.n fun (i1:Nat)=>[I ((w.g i).ol.g i1).x,I ((w.g i).ol.g i1).y]] = [I A13.id,I A13.colour,I A13.grain,SV.sl (2:Nat) A13.ol.n fun (i1:Nat)=>[I (A13.ol.g i1).x,I (A13.ol.g i1).y]])/\(s.n=t.2.n /\ ∀ (i:Nat),let A15:=(t.2.g i);i<s.n -> [I (s.g i).id,I (s.g i).colour,I (s.g i).w,I (s.g i).h,I (s.g i).grain] = [I A15.id,I A15.colour,I A15.w,I A15.h,I A15.grain])/\(L.okW t.1/\t.2.n <= (4:Nat) /\ ∀ (k:Nat),k<t.2.n->L.vSheet (t.2.g k)=true) /\ ∀ (u:Nat),True->((!A7.fd)=true->L.agN w s=A16/\A11=L.agA w s/\(52:Int)=L.agE w s)/\((!A7.fd)=false->(∃ (g:Nat),A11=(↑g:Int)/\(A16=g /\ ∀ (i:Nat),i<A16 -> [] = [I (L.agI w s i)])/\g <= A4.n) /\ ∀ (g:Nat),let A8:=(↑g:Int);g <= A4.n->(decide (A8<A10)=true->(A11 <= A8/\A8<A10)/\(A11 <= A1.g (T A8)/\A1.g (T A8)<(↑s.n:Int))/\(g+nat_lit 1) * nat_lit 8 <= (140737488355328:Nat)/\InK .i64 (A8+(1:Int)) /\ ∃ (g':Nat),A8+(1:Int)=(↑g':Int)/\A10=A10/\(A1.n=A1.n /\ ∀ (i:Nat),i<A1.n -> [I (A1.g i)] = [I (A1.g i)])/\A7.ls=A7.ls/\(s.n=s.n /\ ∀ (i:Nat),let A6:=[I (s.g i).id,I (s.g i).colour,I (s.g i).w,I (s.g i).h,I (s.g i).grain];i<s.n->A6=A6)/\(g+nat_lit 1=g' /\ ∀ (i:Nat),i<g+nat_lit 1->appGet g (fun (j:Nat)=>[I (L.agI w s j)]) (fun (x:Nat)=>[I (s.g (T (A1.g (T A8)))).id]) i = [I (L.agI w s i)])/\g' <= A4.n/\A4.n - g'<A4.n - g)/\(decide (A8<A10)=false->(g=L.agN w s /\ ∀ (i:Nat),i<g -> [I (L.agI w s i)] = [I (L.agI w s i)])/\A7.ls=L.agA w s/\A11=L.agE w s)))) (by kernel_rfl) (by
 conv=>zeta
 obtain ⟨hw,hs⟩:=(show L.preW w/\L.preS s from hp)
 have fin:∀ e,L.agE w s=e->e ≠ 0->L.agN w s=0/\0=L.agA w s/\e=L.agE w s:=fun e h h0=>⟨by unfold L.agN;rw [h,decide_eq_false h0];rfl,by unfold L.agA;rw [h,decide_eq_false h0];rfl,h.symm⟩
 refine ⟨⟨fun _ _ _ _=>rfl,fun _ _=>rfl,hw.2.1,hw.2.2,hs.2⟩,fun h=>?_,fun h=>?_⟩
 ·have h:(!decide (L.badE w s true=0))=true:=h
  exact fin _ (by unfold L.agE;rw [h];rfl) (of_decide_eq_false (notT h))
 ·have h:(!decide (L.badE w s true=0))=false:=h
  obtain ⟨-,v2,-,v4,v5⟩:=badE_0 (of_decide_eq_true (notF h))
  have ok:=okW_of hw v4
  have s4:s.n <= 4:=by have:=hs.1;omega
  refine ⟨(w,s),⟨rfl,fun _ _=>rfl⟩,⟨rfl,fun _ _=>rfl⟩,⟨ok,s4,vSheets_o9 v2⟩,fun _ _=>⟨fun h2=>?_,fun h2=>?_⟩⟩
  ·have h2:(!(L.asgF w s).fd)=true:=h2
   exact fin 52 (by unfold L.agE;rw [h,h2];rfl) (by decide)
  ·have h2:(!(L.asgF w s).fd)=false:=h2
   have e:L.agE w s=0:=by unfold L.agE;rw [h,h2];rfl
   have eN:L.agN w s=(L.sqI (L.asgF w s).bt).n:=by unfold L.agN;rw [e];rfl
   have eA:L.agA w s=(L.asgF w s).ls:=by unfold L.agA;rw [e];rfl
   rw [e,eN,eA]
   have hl:=asgF_len w s
   have hw4:=ok.1
   dsimp only
   refine ⟨⟨0,rfl,⟨rfl,fun i hi=>absurd hi (Nat.not_lt_zero _)⟩,Nat.zero_le _⟩,fun g hg=>⟨fun hc=>?_,fun hc=>?_⟩⟩
   ·have hc:(g:Int)<((L.sqI (L.asgF w s).bt).n:Int):=of_decide_eq_true hc
    have hlt:g<(L.sqI (L.asgF w s).bt).n:=by omega
    have hin:=asgF_in w s hlt
    rw [Int.toNat_natCast g]
    refine ⟨⟨Int.natCast_nonneg _,hc⟩,hin,by show (g+1) * 8 <= 140737488355328;omega,jK,g+1,by omega,rfl,⟨rfl,fun _ _=>rfl⟩,rfl,⟨rfl,fun _ _=>rfl⟩,⟨rfl,fun i hi=>?_⟩,hlt,by omega⟩
    unfold appGet
    by_cases e:i<g
    ·rw [if_pos e]
    ·rw [if_neg e]
     obtain rfl:i=g:=by omega
     rfl
   ·have hc:¬ (g:Int)<((L.sqI (L.asgF w s).bt).n:Int):=of_decide_eq_false hc
    exact ⟨⟨by omega,fun _ _=>rfl⟩,rfl,rfl⟩)
theorem c_Assign_ok:SpecOk Tryz.prog 27 c_Assign_S:=fnX Tryz.func27 (c:=bodyOf Tryz.f27) (by kernel_rfl) mixed (fun args p r hs hp=>by
 unfold c_Assign_s at hs
 split at hs
 ·cases hs;exact ⟨_,_,c_Assign_vc _ _ hp.2.2,(.p (Want_ext hp.1) (.p (.sl hp.2.1) .nil)),⟨show SpecsL Tryz.prog _ from (SpecsL.cons c_bad_ok c_bad_en SpecsL.nil),rfl,⟨show ItersL Tryz.prog _ from ItersL.nil,⟨TrsOk.no1 (fun _=>rfl),⟨show MksL Tryz.prog _ from (MksL.cons c_assign_mok c_assign_en MksL.nil),FamsOk.none (fun _=>rfl)⟩⟩⟩⟩⟩
 ·cases hs)
theorem c_Assign_en:Enters Tryz.prog 27:=fun args w=>by kernel_rfl
end
end Go.Proofs.YtpgaejicfbpcmaaGreat
namespace Go.Proofs.YtpgaejicfbpcmaaGreat
open Go.SE Go.RowKit
set_option maxRecDepth 100000
set_option maxHeartbeats 4000000
set_option linter.unusedVariables false
attribute [local irreducible] vc
def L.ptsL (l:List (Int × Int)):L.Sq L.Pt:=⟨l.length,fun i=>⟨(l.getD i (0,0)).1,(l.getD i (0,0)).2⟩⟩
def L.w1:L.Want:=⟨1,1,0,L.ptsL [(0,0),(8,0),(8,4),(4,3),(0,4)]⟩
def L.w2:L.Want:=⟨2,1,0,L.ptsL [(0,0),(6,0),(6,2),(0,2)]⟩
def L.gt (a:Nat) (b:Int):Bool:=decide (b<(a:Int))
def L.lee (a:Nat) (b:Int):Bool:=decide ((a:Int) <= b)
def L.fewN (a b:Nat):Bool:=bif bif bif bif L.gt a 4 then L.lee a 7 else false then true else L.gt a 20 then true else bif L.gt b 4 then L.lee b 7 else false then true else L.gt b 20
def L.few (w:L.Sq L.Want) (s:L.Sq L.Sheet):Bool:=bif L.fewN w.n s.n then false else L.allB w.n fun i=>!L.gt (w.g i).ol.n 60
def w_first_p :Prop:=True
def w_first_r :SV:=(.agg [.int .i64 L.w1.id,.int .i64 L.w1.colour,.int .i64 L.w1.grain,.sl 2 L.w1.ol.n (fun i=>[.int .i64 ((L.w1.ol.g i).x),.int .i64 ((L.w1.ol.g i).y)])])
def w_first_s:List EV->Option (Prop × SV)
 | []=>some (w_first_p , w_first_r )
 | _=>none
abbrev w_first_S:SE.Spec:=(specO w_first_s)
def w_first_C:Cfg:={ cC with muts:=[0] }
theorem w_first_vc  (hp:w_first_p):vc Tryz.prog (w_first_C) (bodyOf Tryz.f58) (st0 Tryz.f58 []) (retFn Tryz.prog Tryz.f58 (w_first_r )) :=
 @Eq.mpr _ (let I:=SV.int .i64;let A1:=(0:Int);(1:Int)=L.w1.id/\(1:Int)=L.w1.colour/\A1=L.w1.grain/\nat_lit 5=nat_lit 5 /\ ∀ (i:Nat),i<nat_lit 5->rowsOf [I A1,I A1,I (8:Int),I A1,I (8:Int),I (4:Int),I (4:Int),I (3:Int),I A1,I (4:Int)] (nat_lit 2) i = [I (L.w1.ol.g i).x,I (L.w1.ol.g i).y]) (by kernel_rfl) (by
 conv=>zeta
 refine ⟨rfl,rfl,rfl,rfl,fun i hi=>?_⟩
 match i,hi with
 | 0,_=>rfl
 | 1,_=>rfl
 | 2,_=>rfl
 | 3,_=>rfl
 | 4,_=>rfl)
theorem w_first_ok:SpecOk Tryz.prog 58 w_first_S:=fnX Tryz.func58 (c:=bodyOf Tryz.f58) (by kernel_rfl) mixed (fun args p r hs hp=>by
 unfold w_first_s at hs
 split at hs
 ·cases hs;exact ⟨_,_,w_first_vc  hp,.nil,⟨show SpecsL Tryz.prog _ from SpecsL.nil,rfl,⟨show ItersL Tryz.prog _ from ItersL.nil,(TrsOk.none (fun _=>rfl))⟩⟩⟩
 ·cases hs)
theorem w_first_en:Enters Tryz.prog 58:=fun args w=>by kernel_rfl
def w_second_p :Prop:=True
def w_second_r :SV:=(.agg [.int .i64 L.w2.id,.int .i64 L.w2.colour,.int .i64 L.w2.grain,.sl 2 L.w2.ol.n (fun i=>[.int .i64 ((L.w2.ol.g i).x),.int .i64 ((L.w2.ol.g i).y)])])
def w_second_s:List EV->Option (Prop × SV)
 | []=>some (w_second_p , w_second_r )
 | _=>none
abbrev w_second_S:SE.Spec:=(specO w_second_s)
def w_second_C:Cfg:={ cC with muts:=[0] }
theorem w_second_vc  (hp:w_second_p):vc Tryz.prog (w_second_C) (bodyOf Tryz.f59) (st0 Tryz.f59 []) (retFn Tryz.prog Tryz.f59 (w_second_r )) :=
 @Eq.mpr _ (let I:=SV.int .i64;let A1:=(0:Int);(2:Int)=L.w2.id/\(1:Int)=L.w2.colour/\A1=L.w2.grain/\nat_lit 4=nat_lit 4 /\ ∀ (i:Nat),i<nat_lit 4->rowsOf [I A1,I A1,I (6:Int),I A1,I (6:Int),I (2:Int),I A1,I (2:Int)] (nat_lit 2) i = [I (L.w2.ol.g i).x,I (L.w2.ol.g i).y]) (by kernel_rfl) (by
 conv=>zeta
 refine ⟨rfl,rfl,rfl,rfl,fun i hi=>?_⟩
 match i,hi with
 | 0,_=>rfl
 | 1,_=>rfl
 | 2,_=>rfl
 | 3,_=>rfl)
theorem w_second_ok:SpecOk Tryz.prog 59 w_second_S:=fnX Tryz.func59 (c:=bodyOf Tryz.f59) (by kernel_rfl) mixed (fun args p r hs hp=>by
 unfold w_second_s at hs
 split at hs
 ·cases hs;exact ⟨_,_,w_second_vc  hp,.nil,⟨show SpecsL Tryz.prog _ from SpecsL.nil,rfl,⟨show ItersL Tryz.prog _ from ItersL.nil,(TrsOk.none (fun _=>rfl))⟩⟩⟩
 ·cases hs)
theorem w_second_en:Enters Tryz.prog 59:=fun args w=>by kernel_rfl
def w_few_p (w:(L.Sq L.Want)) (s:(L.Sq L.Sheet)):Prop:=True
def w_few_r (w:(L.Sq L.Want)) (s:(L.Sq L.Sheet)):SV:=.bool (L.few w s)
def w_few_s:List EV->Option (Prop × SV)
 | [.p (.sl 4 w_n w_g),.p (.sl 5 s_n s_g)]=>some ((∀ i,i<w_n->okWant (w_g i))/\(∀ i,i<s_n->s_g i = [.int .i64 ((ofSheet (s_g i)).id),.int .i64 ((ofSheet (s_g i)).colour),.int .i64 ((ofSheet (s_g i)).w),.int .i64 ((ofSheet (s_g i)).h),.int .i64 ((ofSheet (s_g i)).grain)])/\w_few_p (⟨w_n,fun i=>ofWant (w_g i)⟩:(L.Sq L.Want)) (⟨s_n,fun i=>ofSheet (s_g i)⟩:(L.Sq L.Sheet)),w_few_r (⟨w_n,fun i=>ofWant (w_g i)⟩:(L.Sq L.Want)) (⟨s_n,fun i=>ofSheet (s_g i)⟩:(L.Sq L.Sheet)))
 | _=>none
abbrev w_few_S:SE.Spec:=(specO w_few_s)
def w_few_C:Cfg:={ muts:=[],frz:=lookN [],specs:=lookS [],loops:=fun _=>none,iters:=lookI [],rfs:=lookR [],nils:=lookM [] }
theorem w_few_vc (w:(L.Sq L.Want)) (s:(L.Sq L.Sheet)) (hp:w_few_p w s):vc Tryz.prog ({ w_few_C with loops:=lookL [(4,{ T:=Nat,keep:=[0],keepO:=[],chg:=fun i=>[(5,.p (.int .i64 (i:Int)))],own:=fun _=>[],inv:=fun i=>i <= w.n /\ ∀ j,j<i->L.gt (w.g j).ol.n 60=false,mu:=fun i=>w.n - i })],rfs:=lookR [] }) (bodyOf Tryz.f13) (st0 Tryz.f13 [.p (.sl 4 w.n (fun i=>[.int .i64 ((w.g i).id),.int .i64 ((w.g i).colour),.int .i64 ((w.g i).grain),.sl 2 (w.g i).ol.n (fun i1=>[.int .i64 (((w.g i).ol.g i1).x),.int .i64 (((w.g i).ol.g i1).y)])])),.p (.sl 5 s.n (fun i=>[.int .i64 ((s.g i).id),.int .i64 ((s.g i).colour),.int .i64 ((s.g i).w),.int .i64 ((s.g i).h),.int .i64 ((s.g i).grain)]))]) (retFn Tryz.prog Tryz.f13 (w_few_r w s)) :=
 @Eq.mpr _ (let I:=SV.int .i64;let A7:=(↑s.n:Int);let A6:=(60:Int);let A4:=(↑w.n:Int);let A1:=(bif bif bif bif decide ((4:Int)<A4) then decide (A4 <= (7:Int)) else false then true else decide ((20:Int)<A4) then true else bif decide ((4:Int)<A7) then decide (A7 <= (7:Int)) else false then true else decide ((20:Int)<A7));(A1=true->false=L.few w s)/\(A1=false->(∃ (g:Nat),(0:Int)=(↑g:Int)/\g <= w.n /\ ∀ (j:Nat),j<g->L.gt (w.g j).ol.n A6=false) /\ ∀ (g:Nat),let A3:=(↑g:Int);let A5:=(↑(w.g (Int.toNat A3)).ol.n:Int);(g <= w.n /\ ∀ (j:Nat),j<g->L.gt (w.g j).ol.n A6=false)->(decide (A3<A4)=true->((0:Int) <= A3/\A3<A4)/\(decide (A6<A5)=true->false=L.few w s)/\(decide (A6<A5)=false->InK .i64 (A3+(1:Int)) /\ ∃ (g':Nat),A3+(1:Int)=(↑g':Int)/\(w.n=w.n /\ ∀ (i:Nat),let A2:=[I (w.g i).id,I (w.g i).colour,I (w.g i).grain,SV.sl (2:Nat) (w.g i).ol.n fun (i1:Nat)=>[I ((w.g i).ol.g i1).x,I ((w.g i).ol.g i1).y]];i<w.n->A2=A2)/\(g' <= w.n /\ ∀ (j:Nat),j<g'->L.gt (w.g j).ol.n A6=false)/\w.n - g'<w.n - g))/\(decide (A3<A4)=false->true=L.few w s))) (by kernel_rfl) (by
 conv=>zeta
 refine ⟨fun h=>?_,fun h=>?_⟩
 ·have h:L.fewN w.n s.n=true:=h
  unfold L.few;rw [h];rfl
 have h:L.fewN w.n s.n=false:=h
 have hn:w.n <= 20:=by
  apply Decidable.byContradiction
  intro hn
  have e:L.gt w.n 20=true:=decide_eq_true (by omega)
  unfold L.fewN at h
  rw [e] at h
  revert h
  cases (bif L.gt w.n 4 then L.lee w.n 7 else false) <;> simp
 refine ⟨⟨(0:Nat),rfl,Nat.zero_le _,fun j hj=>absurd hj (Nat.not_lt_zero _)⟩,fun g hg=>⟨fun hc=>?_,fun hc=>?_⟩⟩
 ·have hc:(g:Int)<(w.n:Int):=of_decide_eq_true hc
  have hlt:g<w.n:=by omega
  rw [Int.toNat_natCast g]
  refine ⟨⟨Int.natCast_nonneg _,hc⟩,fun h3=>?_,fun h3=>?_⟩
  ·have h3:L.gt (w.g g).ol.n 60=true:=h3
   unfold L.few
   rw [h]
   exact (allB_false (i:=g) (f:=fun i=>!L.gt (w.g i).ol.n 60) hlt (by show (!_)=false;rw [h3];rfl)).symm
  ·have h3:L.gt (w.g g).ol.n 60=false:=h3
   refine ⟨jK,g+1,by omega,⟨rfl,fun _ _=>rfl⟩,⟨hlt,fun j hj=>?_⟩,by omega⟩
   rcases Nat.lt_succ_iff_lt_or_eq.1 hj with h' | rfl
   ·exact hg.2 j h'
   ·exact h3
 ·have hc:¬ (g:Int)<(w.n:Int):=of_decide_eq_false hc
  unfold L.few
  rw [h]
  exact (allB_iff.2 (fun i hi=>by show (!_)=true;rw [hg.2 i (by omega)];rfl)).symm)
theorem w_few_ok:SpecOk Tryz.prog 13 w_few_S:=fnX Tryz.func13 (c:=bodyOf Tryz.f13) (by kernel_rfl) mixed (fun args p r hs hp=>by
 unfold w_few_s at hs
 split at hs
 ·cases hs;exact ⟨_,_,w_few_vc _ _ hp.2.2,(.p (Want_ext hp.1) (.p (.sl hp.2.1) .nil)),⟨show SpecsL Tryz.prog _ from SpecsL.nil,rfl,⟨show ItersL Tryz.prog _ from ItersL.nil,(TrsOk.none (fun _=>rfl))⟩⟩⟩
 ·cases hs)
theorem w_few_en:Enters Tryz.prog 13:=fun args w=>by kernel_rfl
end Go.Proofs.YtpgaejicfbpcmaaGreat
namespace Go.Proofs.YtpgaejicfbpcmaaGreat
open Go.SE Go.RowKit
set_option maxRecDepth 100000
set_option maxHeartbeats 4000000
set_option linter.unusedVariables false
attribute [local irreducible] vc
def w_awake_p :Prop:=True
def w_awake_r :SV:=.bool true
def w_awake_s:List EV->Option (Prop × SV)
 | []=>some (w_awake_p , w_awake_r )
 | _=>none
abbrev w_awake_S:SE.Spec:=(specO w_awake_s)
def w_awake_C:Cfg:={ cC with specs:=lookS [(58,w_first_S),(59,w_second_S),(14,c_Sizes_S),(19,c_Lay_S),(27,c_Assign_S),(47,c_Pocket_S)] }
theorem w_awake_vc  (hp:w_awake_p):vc Tryz.prog (w_awake_C) (bodyOf Tryz.f12) (st0 Tryz.f12 []) (retFn Tryz.prog Tryz.f12 (w_awake_r )) :=
 @Eq.mpr _ (let I:=SV.int .i64;let A10:=(1:Int);let A9:=(nat_lit 4);let A7:=(L.Sq.mk (nat_lit 5) fun (i:Nat)=>L.w1.ol.g i);let A6:=(nat_lit 2);let A5:=(0:Int);let A4:=[I (9:Int),I A10,I (10:Int),I (6:Int),I A5];let A3:=(∀ (i:Nat),i<nat_lit 2->okWant (rowsOf [I L.w1.id,I L.w1.colour,I L.w1.grain,SV.sl A6 (nat_lit 5) fun (i:Nat)=>[I (L.w1.ol.g i).x,I (L.w1.ol.g i).y],I L.w2.id,I L.w2.colour,I L.w2.grain,SV.sl A6 A9 fun (i:Nat)=>[I (L.w2.ol.g i).x,I (L.w2.ol.g i).y]] A9 i));let A2:=(L.Sq.mk A6 fun (i:Nat)=>ofWant (rowsOf [I L.w1.id,I L.w1.colour,I L.w1.grain,SV.sl A6 (nat_lit 5) fun (i:Nat)=>[I (L.w1.ol.g i).x,I (L.w1.ol.g i).y],I L.w2.id,I L.w2.colour,I L.w2.grain,SV.sl A6 A9 fun (i:Nat)=>[I (L.w2.ol.g i).x,I (L.w2.ol.g i).y]] A9 i));let A1:=(A3/\L.preW A2);True/\True/\A1/\A1/\(A3/\(∀ (i:Nat),i<nat_lit 1->A4=A4)/\L.preW A2/\L.preS (L.Sq.mk (nat_lit 1) fun (i:Nat)=>L.Sheet.mk (9:Int) A10 (10:Int) (6:Int) A5))/\(A5 <= A5/\A5<(↑A6:Int))/\((∀ (i:Nat),let A8:=[I (L.w1.ol.g i).x,I (L.w1.ol.g i).y];i<nat_lit 5->A8=A8)/\nat_lit 5 <= (1000000:Nat)/\(L.validOutline A7=true->L.okPks A7))/\(true=true->A5 <= A10/\A10<(↑A9:Int))/\(false=true->false=true)/\(false=false->(A5 <= A10/\A10<(↑A6:Int))/\(true=true->A5 <= A5/\A5<(↑(nat_lit 1):Int))/\true=true)) (by kernel_rfl) (by
 conv=>zeta
 have ok:∀ (g:Nat->List SV),g 0 = [.int .i64 L.w1.id,.int .i64 L.w1.colour,.int .i64 L.w1.grain,.sl 2 5 fun (i:Nat)=>[.int .i64 (L.w1.ol.g i).x,.int .i64 (L.w1.ol.g i).y]]->g 1 = [.int .i64 L.w2.id,.int .i64 L.w2.colour,.int .i64 L.w2.grain,.sl 2 4 fun (i:Nat)=>[.int .i64 (L.w2.ol.g i).x,.int .i64 (L.w2.ol.g i).y]]->(∀ i,i<2->okWant (g i))/\L.preW ⟨2,fun i=>ofWant (g i)⟩:=fun g h0 h1=>by
  have two:∀ i:Nat,i<2->i=0\/i=1:=fun i hi=>by omega
  refine ⟨fun i hi=>?_,.inl (show 2 <= 4 by decide),show 2 <= 1000000 by decide,fun i hi=>?_⟩
  ·rcases two i hi with rfl | rfl
   ·rw [h0];exact fun _ _=>rfl
   ·rw [h1];exact fun _ _=>rfl
  ·rcases two i hi with rfl | rfl
   ·show (ofWant (g 0)).ol.n <= 1000000
    rw [h0];show 5 <= 1000000;decide
   ·show (ofWant (g 1)).ol.n <= 1000000
    rw [h1];show 4 <= 1000000;decide
 have e1:(L.pks L.w1.ol).n=1:=by kernel_rfl
 have e2:(L.pks L.w1.ol).g 0=⟨2,4,8⟩:=by kernel_rfl
 have pk:L.okPks L.w1.ol:=fun i hi=>by
  rw [e1] at hi
  obtain rfl:i=0:=by omega
  rw [e2]
  show (((0:Int) <= 2/\(2:Int)<5)/\((0:Int) <= 4/\(4:Int)<5)/\(2:Int) ≠ 4)
  decide
 refine ⟨trivial,trivial,ok _ rfl rfl,ok _ rfl rfl,⟨(ok _ rfl rfl).1,fun _ _=>rfl,(ok _ rfl rfl).2,.inl (show 1 <= 4 by decide),show 1 <= 1000000 by decide⟩,by decide,⟨fun _ _=>rfl,by decide,fun _=>pk⟩,fun _=>(by decide),fun h=>(by cases h),fun _=>⟨by decide,fun _=>(by decide),rfl⟩⟩)
theorem w_awake_ok:SpecOk Tryz.prog 12 w_awake_S:=fnX Tryz.func12 (c:=bodyOf Tryz.f12) (by kernel_rfl) mixed (fun args p r hs hp=>by
 unfold w_awake_s at hs
 split at hs
 ·cases hs;exact ⟨_,_,w_awake_vc  hp,.nil,⟨show SpecsL Tryz.prog _ from (SpecsL.cons w_first_ok w_first_en (SpecsL.cons w_second_ok w_second_en (SpecsL.cons c_Sizes_ok c_Sizes_en (SpecsL.cons c_Lay_ok c_Lay_en (SpecsL.cons c_Assign_ok c_Assign_en (SpecsL.cons c_Pocket_ok c_Pocket_en SpecsL.nil)))))),rfl,⟨show ItersL Tryz.prog _ from ItersL.nil,(TrsOk.none (fun _=>rfl))⟩⟩⟩
 ·cases hs)
theorem w_awake_en:Enters Tryz.prog 12:=fun args w=>by kernel_rfl
end Go.Proofs.YtpgaejicfbpcmaaGreat
namespace Go.Proofs.YtpgaejicfbpcmaaGreat
open Go.SE Go.RowKit
set_option maxRecDepth 100000
set_option maxHeartbeats 4000000
set_option linter.unusedVariables false
attribute [local irreducible] vc
def L.bitI (g:Int) (i:Nat):Bool:=decide (L.iand (L.ishr g i) 1=1)
def L.posL (m:Int):List Nat:=(List.range 4).filter (L.bitI m)
def L.expG (b:Int):Nat->List Nat->Int
 | _,[]=>0
 | i,p :: l=>(bif L.bitI b i then 2 ^ p else 0)+L.expG b (i+1) l
def L.expI (m b:Int):Int:=L.expG b 0 (L.posL m)
attribute [local irreducible] L.tab L.expI L.part L.cmp_ L.partN L.isOne L.ix1
def Jn (p q:L.Size->Prop) (s:L.Size):Prop:=(∃ x y,x+y <= s.w/\p ⟨x,s.h⟩ /\ q ⟨y,s.h⟩)\/(∃ x y,x+y <= s.h/\p ⟨s.w,x⟩ /\ q ⟨s.w,y⟩)
theorem cov_prs {A B:List L.Size} {s:L.Size}:Cu.cov (L.prs A B) s ↔ Jn (Cu.cov A) (Cu.cov B) s:=by
 constructor
 ·rintro ⟨x,hx,h1,h2⟩
  unfold L.prs at hx
  obtain ⟨a,ha,hx⟩:=List.mem_flatMap.1 hx
  obtain ⟨b,hb,hx⟩:=List.mem_flatMap.1 hx
  unfold L.mrg at hx
  rcases List.mem_cons.1 hx with rfl | hx
  ·simp only at h1 h2
   exact .inl ⟨a.w,b.w,h1,⟨a,ha,Int.le_refl _,by simp only;omega⟩,⟨b,hb,Int.le_refl _,by simp only;omega⟩⟩
  ·rcases List.mem_cons.1 hx with rfl | hx
   ·simp only at h1 h2
    exact .inr ⟨a.h,b.h,h2,⟨a,ha,by simp only;omega,Int.le_refl _⟩,⟨b,hb,by simp only;omega,Int.le_refl _⟩⟩
   ·cases hx
 ·rintro (⟨x,y,h,⟨a,ha,a1,a2⟩,⟨b,hb,b1,b2⟩⟩ | ⟨x,y,h,⟨a,ha,a1,a2⟩,⟨b,hb,b1,b2⟩⟩)
  ·simp only at a1 a2 b1 b2
   refine ⟨⟨a.w+b.w,max a.h b.h⟩,List.mem_flatMap.2 ⟨a,ha,List.mem_flatMap.2 ⟨b,hb,by simp [L.mrg]⟩⟩,?_,?_⟩ <;> simp only <;> omega
  ·simp only at a1 a2 b1 b2
   refine ⟨⟨max a.w b.w,a.h+b.h⟩,List.mem_flatMap.2 ⟨a,ha,List.mem_flatMap.2 ⟨b,hb,by simp [L.mrg]⟩⟩,?_,?_⟩ <;> simp only <;> omega
theorem cov_psK {T:Int->List L.Size} {g:Int} {s:L.Size}:∀ {n},Cu.cov (L.psK T g n) s ↔ ∃ k,k<n/\Jn (Cu.cov (T (L.part g k))) (Cu.cov (T (L.cmp_ g k))) s
 | 0=>⟨fun ⟨x,hx,_⟩=>(by cases hx),fun ⟨k,hk,_⟩=>(by omega)⟩
 | n+1=>by
   rw [L.psK,Cu.cov_append,cov_psK,cov_prs]
   constructor
   ·rintro (⟨k,hk,h⟩ | h)
    ·exact ⟨k,by omega,h⟩
    ·exact ⟨n,by omega,h⟩
   ·rintro ⟨k,hk,h⟩
    by_cases e:k=n
    ·exact .inr (e ▸ h)
    ·exact .inl ⟨k,by omega,h⟩
def L.fits (w:L.Sq L.Want) (gr g:Int) (s:L.Size):Prop:=Cu.cov (L.tab w gr g) s
theorem fits_mono {w:L.Sq L.Want} {gr g:Int} {s t:L.Size} (h:L.fits w gr g s) (k:Cu.le s t):L.fits w gr g t:=by
 obtain ⟨x,hx,hl⟩:=h
 exact ⟨x,hx,Cu.le_trans hl k⟩
theorem fits_1 {w:L.Sq L.Want} {gr g:Int} {s:L.Size} (h:1 <= g) (h15:g <= 15) (h1:L.isOne g=true):L.fits w gr g s ↔ ∃ t:Int,(t=0\/t=1)/\L.alw (w.g (L.ix1 g)).grain gr t=true/\Cu.le (L.box (w.g (L.ix1 g)).ol t) s:=by
 unfold L.fits
 rw [tab_1 w gr h h15 h1,(Cu.stair_ok _).2 s]
 unfold L.oneC
 constructor
 ·rintro ⟨x,hx,hl⟩
  obtain ⟨t,ht,rfl⟩:=List.mem_map.1 hx
  obtain ⟨h2,h3⟩:=List.mem_filter.1 ht
  exact ⟨t,by simpa using h2,h3,hl⟩
 ·rintro ⟨t,ht,h2,h3⟩
  exact ⟨_,List.mem_map.2 ⟨t,List.mem_filter.2 ⟨by simpa using ht,h2⟩,rfl⟩,h3⟩
theorem fits_2 {w:L.Sq L.Want} {gr g:Int} {s:L.Size} (h:1 <= g) (h15:g <= 15) (h1:L.isOne g=false):L.fits w gr g s ↔ ∃ k,k<L.partN g/\Jn (L.fits w gr (L.part g k)) (L.fits w gr (L.cmp_ g k)) s:=by
 unfold L.fits
 rw [tab_2 w gr h h15 h1,(Cu.stair_ok _).2 s,cov_psK]
theorem roomB_iff {w:L.Sq L.Want} {gr g:Int} {s:L.Size}:L.roomB w gr g s=true ↔ L.fits w gr g s:=by
 unfold L.roomB L.fits Cu.cov
 rw [anyB_iff]
 constructor
 ·rintro ⟨i,hi,h⟩
  refine ⟨_,tabF_mem hi,?_⟩
  unfold L.fitsB at h
  by_cases h1:((L.tabF w gr g).g i).w <= s.w
  ·rw [decide_eq_true h1] at h
   exact ⟨h1,of_decide_eq_true h⟩
  ·rw [decide_eq_false h1] at h;cases h
 ·rintro ⟨x,hx,h1,h2⟩
  obtain ⟨i,hi,rfl⟩:=List.getElem_of_mem hx
  refine ⟨i,hi,?_⟩
  have e:(L.tabF w gr g).g i=(L.tab w gr g)[i]:=by
   show (L.tab w gr g).getD i ⟨0,0⟩=_
   rw [List.getD_eq_getElem?_getD,List.getElem?_eq_getElem hi];rfl
  unfold L.fitsB
  rw [e,decide_eq_true h1]
  exact decide_eq_true h2
theorem few_pre {w:L.Sq L.Want} {s:L.Sq L.Sheet} (h:L.few w s=true):L.preW w/\w.n <= 20/\(s.n <= 4\/7<s.n)/\s.n <= 20:=by
 unfold L.few at h
 cases hf:L.fewN w.n s.n with
 | true=>rw [hf] at h;cases h
 | false =>
   rw [hf] at h
   have hall:∀ i,i<w.n->(w.g i).ol.n <= 1000000:=fun i hi=>by
    have h1:=allB_iff.1 h i hi
    have h2:(!L.gt (w.g i).ol.n 60)=true:=h1
    cases e:L.gt (w.g i).ol.n 60 with
    | true=>rw [e] at h2;cases h2
    | false=>have:¬ (60:Int)<((w.g i).ol.n:Int):=of_decide_eq_false e;omega
   unfold L.fewN at hf
   unfold L.preW
   cases e1:L.gt w.n 4 <;> cases e2:L.lee w.n 7 <;> cases e3:L.gt w.n 20 <;> cases e4:L.gt s.n 4 <;> cases e5:L.lee s.n 7 <;> cases e6:L.gt s.n 20 <;> rw [e1,e2,e3,e4,e5,e6] at hf <;> first
    | exact absurd hf (by decide)
    | (simp only [L.gt,L.lee,decide_eq_true_eq,decide_eq_false_iff_not] at e1 e2 e3 e4 e5 e6;exact ⟨⟨by omega,by omega,hall⟩,by omega,by omega,by omega⟩)
theorem vSheet_gr {s:L.Sheet} (h:L.vSheet s=true):L.within s.grain 0 2=true:=by
 unfold L.vSheet at h
 generalize (bif (bif (bif L.within s.id 1 65535 then L.within s.colour 1 16 else false) then L.within s.w 1 4096 else false) then L.within s.h 1 4096 else false)=b at h
 cases b with
 | true=>exact h
 | false=>cases h
theorem vWants_at {w:L.Sq L.Want} (h:L.vWants w=true) {i:Nat} (hi:i<w.n):L.vWant (w.g i)=true/\(0<i->(w.g (i - 1)).id<(w.g i).id):=by
 have h1:=allB_iff.1 h i hi
 have h2:(!L.badAt (fun i=>L.vWant (w.g i)) (fun i=>(w.g i).id) i)=true:=h1
 unfold L.badAt at h2
 cases e:L.vWant (w.g i) with
 | false=>simp only [e] at h2;cases h2
 | true =>
   refine ⟨rfl,fun h0=>?_⟩
   simp only [e,decide_eq_true (show 0<(i:Int) by omega)] at h2
   have h3:(!decide ((w.g i).id <= (w.g (i - 1)).id))=true:=h2
   simp only [Bool.not_eq_true',decide_eq_false_iff_not] at h3
   omega
end Go.Proofs.YtpgaejicfbpcmaaGreat
namespace Go.Proofs.YtpgaejicfbpcmaaGreat
open Go.SE Go.RowKit
set_option maxRecDepth 100000
set_option maxHeartbeats 4000000
set_option linter.unusedVariables false
attribute [local irreducible] vc
structure L.Rc where
 a:L.Pt
 b:L.Pt
def L.rcA (r:L.Area):L.Rc:=⟨r.at_,⟨r.at_.x+r.size.w,r.at_.y+r.size.h⟩⟩
def L.neR (r:L.Rc):Prop:=r.a.x<r.b.x/\r.a.y<r.b.y
def L.apt (r s:L.Rc):Prop:=r.b.x <= s.a.x\/s.b.x <= r.a.x\/r.b.y <= s.a.y\/s.b.y <= r.a.y
def L.inR (r s:L.Rc):Prop:=s.a.x <= r.a.x/\s.a.y <= r.a.y/\r.b.x <= s.b.x/\r.b.y <= s.b.y
def L.arR (r:L.Rc):Int:=(r.b.x - r.a.x) * (r.b.y - r.a.y)
def L.arL:List L.Rc->Int
 | []=>0
 | r :: l=>L.arR r+L.arL l
theorem apt_symm {r s:L.Rc} (h:L.apt r s):L.apt s r:=by unfold L.apt at *;omega
theorem inR_refl (r:L.Rc):L.inR r r:=⟨Int.le_refl _,Int.le_refl _,Int.le_refl _,Int.le_refl _⟩
theorem inR_trans {r s t:L.Rc} (h:L.inR r s) (k:L.inR s t):L.inR r t:=by unfold L.inR at *;omega
theorem apt_in {r s t:L.Rc} (h:L.inR r s) (k:L.apt s t):L.apt r t:=by unfold L.apt L.inR at *;omega
structure Gd (l:List L.Rc):Prop where
 ne:∀ x,x ∈ l->L.neR x
 ap:l.Pairwise L.apt
theorem Gd.perm {l m:List L.Rc} (h:Gd l) (p:l.Perm m):Gd m:=⟨fun x hx=>h.ne x (p.mem_iff.2 hx),(p.pairwise_iff (fun {_ _} h=>apt_symm h)).1 h.ap⟩
theorem arL_perm {l m:List L.Rc} (p:l.Perm m):L.arL l=L.arL m:=by
 induction p with
 | nil=>rfl
 | cons x _ ih=>simp only [L.arL,ih]
 | swap x y l=>simp only [L.arL];omega
 | trans _ _ h1 h2=>exact h1.trans h2
theorem arL_app (l m:List L.Rc):L.arL (l ++ m)=L.arL l+L.arL m:=by
 induction l with
 | nil=>simp [L.arL]
 | cons x l ih=>simp only [List.cons_append,L.arL,ih];omega
theorem Gd.repl {r:L.Rc} {l n:List L.Rc} (h:Gd (r :: l)) (hn:Gd n) (hi:∀ x,x ∈ n->L.inR x r):Gd (n ++ l):=by
 obtain ⟨h1,h2⟩:=List.pairwise_cons.1 h.ap
 refine ⟨fun x hx=>?_,List.pairwise_append.2 ⟨hn.ap,h2,fun x hx y hy=>apt_in (hi x hx) (h1 y hy)⟩⟩
 rcases List.mem_append.1 hx with hx | hx
 ·exact hn.ne x hx
 ·exact h.ne x (List.mem_cons_of_mem _ hx)
def L.sideV (r:L.Rc) (p q:L.Pt):Bool:=decide (p.x=q.x) && (decide (r.a.x<p.x) && (decide (p.x<r.b.x) && (decide (p.y=r.a.y) && decide (q.y=r.b.y))))
def L.sideH (r:L.Rc) (p q:L.Pt):Bool:=decide (p.y=q.y) && (decide (r.a.y<p.y) && (decide (p.y<r.b.y) && (decide (p.x=r.a.x) && decide (q.x=r.b.x))))
def L.side (r:L.Rc) (p q:L.Pt):Bool:=L.sideV r p q || L.sideH r p q
def L.dvd1 (l:List L.Rc) (p q:L.Pt):Option (List L.Rc):=match l.findIdx? (fun r=>L.side r p q) with
 | none=>none
 | some k=>some (l.set k ⟨(l.getD k ⟨⟨0,0⟩,⟨0,0⟩⟩).a,q⟩ ++ [⟨p,(l.getD k ⟨⟨0,0⟩,⟨0,0⟩⟩).b⟩])
def L.dvS (id:Int) (l:List L.Rc) (x:L.Score):Option (List L.Rc):=if x.kind=1/\x.sheet=id/\x.pts.n=2 then L.dvd1 l (x.pts.g 0) (x.pts.g 1) else none
def L.dvR (id:Int) (l:List L.Rc):List L.Score->Option (List L.Rc)
 | []=>some l
 | x :: S=>match L.dvS id l x with
   | none=>none
   | some m=>L.dvR id m S
theorem dvR_app (id:Int):∀ (S T:List L.Score) (l m:List L.Rc),L.dvR id l S=some m->L.dvR id l (S ++ T)=L.dvR id m T
 | [],T,l,m,h=>by cases h;rfl
 | x :: S,T,l,m,h=>by
   rw [List.cons_append,L.dvR]
   rw [L.dvR] at h
   cases hx:L.dvS id l x with
   | none=>rw [hx] at h;cases h
   | some m'=>rw [hx] at h;exact dvR_app id S T m' m h
theorem side_iff {r:L.Rc} {p q:L.Pt}:L.side r p q=true ↔ (p.x=q.x/\r.a.x<p.x/\p.x<r.b.x/\p.y=r.a.y/\q.y=r.b.y)\/(p.y=q.y/\r.a.y<p.y/\p.y<r.b.y/\p.x=r.a.x/\q.x=r.b.x):=by
 unfold L.side L.sideV L.sideH
 simp only [Bool.or_eq_true,Bool.and_eq_true,decide_eq_true_eq]
theorem set_perm {l:List L.Rc} {k:Nat} (h:k<l.length) (y:L.Rc):(l.set k y).Perm (y :: l.eraseIdx k):=by
 induction l generalizing k with
 | nil=>simp at h
 | cons x l ih =>
   cases k with
   | zero=>simp
   | succ k =>
     simp only [List.set_cons_succ,List.eraseIdx_cons_succ]
     exact ((ih (by simpa using h)).cons x).trans (List.Perm.swap _ _ _)
theorem dvd1_ok {l rest:List L.Rc} {r:L.Rc} {p q:L.Pt} (hp:l.Perm (r :: rest)) (hg:Gd l) (hs:L.side r p q=true):∃ l',L.dvd1 l p q=some l'/\l'.Perm (⟨r.a,q⟩ :: ⟨p,r.b⟩ :: rest):=by
 have hr:r ∈ l:=hp.mem_iff.2 (List.mem_cons_self ..)
 unfold L.dvd1
 cases hf:l.findIdx? (fun r=>L.side r p q) with
 | none =>
   rw [List.findIdx?_eq_none_iff] at hf
   have:=hf r hr
   rw [hs] at this;cases this
 | some k =>
   rw [List.findIdx?_eq_some_iff_getElem] at hf
   obtain ⟨hk,h1,_⟩:=hf
   have e:l[k]=r:=by
    have hk2:l[k] ∈ l:=List.getElem_mem hk
    have hq:l[k]=r\/L.apt l[k] r:=by
     rcases List.mem_cons.1 (hp.mem_iff.1 hk2) with h | h
     ·exact .inl h
     ·exact .inr (apt_symm ((List.pairwise_cons.1 (hg.perm hp).ap).1 _ h))
    rcases hq with h | h
    ·exact h
    ·have n1:=hg.ne _ hk2
     have n2:=hg.ne _ hr
     rw [side_iff] at h1 hs
     unfold L.apt at h
     unfold L.neR at n1 n2
     exfalso
     omega
   have e2:l.getD k ⟨⟨0,0⟩,⟨0,0⟩⟩=r:=by rw [List.getD_eq_getElem?_getD,List.getElem?_eq_getElem hk];exact e
   refine ⟨_,rfl,?_⟩
   rw [e2]
   have h2:(l.eraseIdx k).Perm rest:=by
    have:l.Perm (l[k] :: l.eraseIdx k):=by
     have:=set_perm hk l[k]
     rwa [List.set_getElem_self] at this
    rw [e] at this
    exact (this.symm.trans hp).cons_inv
   refine ((set_perm hk _).append_right _).trans ?_
   simp only [List.cons_append]
   refine List.Perm.cons _ ?_
   exact (List.perm_append_comm (l₁:=l.eraseIdx k)).trans (h2.cons _)
theorem side_T {r:L.Area} {b:Int} (hb:1 <= b) (h:b<r.size.w):L.side (L.rcA r) (L.spA r true b) (L.spB r true b)=true:=by
 rw [side_iff]
 exact .inl ⟨rfl,by show r.at_.x<r.at_.x+b;omega,by show r.at_.x+b<r.at_.x+r.size.w;omega,rfl,rfl⟩
theorem side_F {r:L.Area} {b:Int} (hb:1 <= b) (h:b<r.size.h):L.side (L.rcA r) (L.spA r false b) (L.spB r false b)=true:=by
 rw [side_iff]
 exact .inr ⟨rfl,by show r.at_.y<r.at_.y+b;omega,by show r.at_.y+b<r.at_.y+r.size.h;omega,rfl,rfl⟩
theorem dvS_split {l rest:List L.Rc} {r:L.Area} {id:Int} {up:Bool} {b:Int} (hp:l.Perm (L.rcA r :: rest)) (hg:Gd l) (hb:1 <= b) (hb':up=true->b<r.size.w) (hb2:up=false->b<r.size.h) :
  ∃ l',L.dvS id l (L.splt r id up b)=some l'/\l'.Perm (L.rcA (L.divA r up b) :: L.rcA (L.divB r up b) :: rest):=by
 have hs:L.side (L.rcA r) (L.spA r up b) (L.spB r up b)=true:=by
  cases up with
  | true=>exact side_T hb (hb' rfl)
  | false=>exact side_F hb (hb2 rfl)
 obtain ⟨l',h1,h2⟩:=dvd1_ok hp hg hs
 refine ⟨l',?_,?_⟩
 ·unfold L.dvS
  rw [if_pos ⟨rfl,rfl,rfl⟩];exact h1
 ·have e1 : (⟨(L.rcA r).a, L.spB r up b⟩ : L.Rc) = L.rcA (L.divA r up b) := by
   cases up <;> rfl
  have e2:(⟨L.spA r up b,(L.rcA r).b⟩:L.Rc)=L.rcA (L.divB r up b):=by
   cases up
   ·show (⟨⟨r.at_.x,r.at_.y+b⟩,⟨r.at_.x+r.size.w,r.at_.y+r.size.h⟩⟩:L.Rc)=⟨⟨r.at_.x,r.at_.y+b⟩,⟨r.at_.x+r.size.w,r.at_.y+b+(r.size.h - b)⟩⟩
    rw [show r.at_.y+b+(r.size.h - b)=r.at_.y+r.size.h by omega]
   ·show (⟨⟨r.at_.x+b,r.at_.y⟩,⟨r.at_.x+r.size.w,r.at_.y+r.size.h⟩⟩:L.Rc)=⟨⟨r.at_.x+b,r.at_.y⟩,⟨r.at_.x+b+(r.size.w - b),r.at_.y+r.size.h⟩⟩
    rw [show r.at_.x+b+(r.size.w - b)=r.at_.x+r.size.w by omega]
  rw [e1,e2] at h2
  exact h2
structure Dvs (id:Int) (r:L.Area) (X:List L.Score) (N:List L.Rc):Prop where
 run:∀ l rest:List L.Rc,l.Perm (L.rcA r :: rest)->Gd l -> ∃ l',L.dvR id l X=some l'/\l'.Perm (N ++ rest)
 gd:Gd N
 ins:∀ x,x ∈ N->L.inR x (L.rcA r)
 ar:L.arL N=L.arR (L.rcA r)
theorem Dvs.none (id:Int) {r:L.Area} (hw:1 <= r.size.w) (hh:1 <= r.size.h):Dvs id r [] [L.rcA r] :=
 ⟨fun l rest hp _=>⟨l,rfl,hp⟩,⟨fun x hx=>by rw [List.mem_singleton.1 hx];unfold L.neR L.rcA;simp only;omega,List.pairwise_singleton _ _⟩,fun x hx=>by rw [List.mem_singleton.1 hx];exact inR_refl _,by simp [L.arL]⟩
theorem ar_div {r:L.Area} {up:Bool} {b:Int}:L.arR (L.rcA (L.divA r up b))+L.arR (L.rcA (L.divB r up b))=L.arR (L.rcA r):=by
 cases up
 ·simp only [L.arR,L.rcA,L.divA,L.divB,cond_false]
  have e1:r.at_.x+r.size.w - r.at_.x=r.size.w:=by omega
  have e2:r.at_.y+b - r.at_.y=b:=by omega
  have e3:r.at_.y+b+(r.size.h - b) - (r.at_.y+b)=r.size.h - b:=by omega
  have e4:r.at_.y+r.size.h - r.at_.y=r.size.h:=by omega
  rw [e1,e2,e3,e4,<- Int.mul_add]
  congr 1;omega
 ·simp only [L.arR,L.rcA,L.divA,L.divB,cond_true]
  have e1:r.at_.x+b - r.at_.x=b:=by omega
  have e2:r.at_.y+r.size.h - r.at_.y=r.size.h:=by omega
  have e3:r.at_.x+b+(r.size.w - b) - (r.at_.x+b)=r.size.w - b:=by omega
  have e4:r.at_.x+r.size.w - r.at_.x=r.size.w:=by omega
  rw [e1,e2,e3,e4,<- Int.add_mul]
  congr 1;omega
theorem in_T {r:L.Area} {b:Int} (hb:1 <= b) (h0:0 <= r.size.w) (h1:0 <= r.size.h) (h:b<r.size.w):L.inR (L.rcA (L.divA r true b)) (L.rcA r)/\L.inR (L.rcA (L.divB r true b)) (L.rcA r)/\L.apt (L.rcA (L.divA r true b)) (L.rcA (L.divB r true b)):=by
 simp only [L.inR,L.apt,L.rcA,L.divA,L.divB,cond_true]
 omega
theorem in_F {r:L.Area} {b:Int} (hb:1 <= b) (h0:0 <= r.size.w) (h1:0 <= r.size.h) (h:b<r.size.h):L.inR (L.rcA (L.divA r false b)) (L.rcA r)/\L.inR (L.rcA (L.divB r false b)) (L.rcA r)/\L.apt (L.rcA (L.divA r false b)) (L.rcA (L.divB r false b)):=by
 simp only [L.inR,L.apt,L.rcA,L.divA,L.divB,cond_false]
 omega
theorem in_div {r:L.Area} {up:Bool} {b:Int} (hb:1 <= b) (h0:0 <= r.size.w) (h1:0 <= r.size.h) (hb':up=true->b<r.size.w) (hb2:up=false->b<r.size.h):L.inR (L.rcA (L.divA r up b)) (L.rcA r)/\L.inR (L.rcA (L.divB r up b)) (L.rcA r)/\L.apt (L.rcA (L.divA r up b)) (L.rcA (L.divB r up b)):=by
 cases up with
 | true=>exact in_T hb h0 h1 (hb' rfl)
 | false=>exact in_F hb h0 h1 (hb2 rfl)
theorem Dvs.split {id:Int} {r:L.Area} {up:Bool} {b:Int} {X Y:List L.Score} {N M:List L.Rc} (hw:1 <= r.size.w) (hh:1 <= r.size.h) (hb:1 <= b) (hb':up=true->b<r.size.w) (hb2:up=false->b<r.size.h)
  (h1:Dvs id (L.divA r up b) X N) (h2:Dvs id (L.divB r up b) Y M):Dvs id r (L.splt r id up b :: (X ++ Y)) (N ++ M):=by
 obtain ⟨i1,i2,i3⟩:=in_div hb (by omega) (by omega) hb' hb2
 have gAB:Gd [L.rcA (L.divA r up b),L.rcA (L.divB r up b)]:=by
  refine ⟨fun x hx=>?_,List.pairwise_cons.2 ⟨fun y hy=>by rw [List.mem_singleton.1 hy];exact i3,List.pairwise_singleton _ _⟩⟩
  rcases List.mem_cons.1 hx with rfl | hx
  ·cases up with
   | true=>have:=hb' rfl;unfold L.neR L.rcA L.divA;simp only [cond_true];omega
   | false=>have:=hb2 rfl;unfold L.neR L.rcA L.divA;simp only [cond_false];omega
  ·rw [List.mem_singleton.1 hx]
   cases up with
   | true=>have:=hb' rfl;unfold L.neR L.rcA L.divB;simp only [cond_true];omega
   | false=>have:=hb2 rfl;unfold L.neR L.rcA L.divB;simp only [cond_false];omega
 refine ⟨fun l rest hp hg=>?_,?_,fun x hx=>?_,?_⟩
 ·obtain ⟨l1,r1,p1⟩:=dvS_split (id:=id) hp hg hb hb' hb2
  have g1:Gd l1:=by
   have:=(hg.perm hp).repl gAB (fun x hx=>by
    rcases List.mem_cons.1 hx with rfl | hx
    ·exact i1
    ·rw [List.mem_singleton.1 hx];exact i2)
   exact this.perm p1.symm
  obtain ⟨l2,r2,p2⟩:=h1.run l1 (L.rcA (L.divB r up b) :: rest) p1 g1
  have g2:Gd l2:=((g1.perm p1).repl h1.gd h1.ins).perm p2.symm
  have p2':l2.Perm (L.rcA (L.divB r up b) :: (N ++ rest)):=p2.trans List.perm_middle
  obtain ⟨l3,r3,p3⟩:=h2.run l2 (N ++ rest) p2' g2
  refine ⟨l3,?_,?_⟩
  ·rw [L.dvR,r1]
   simp only
   rw [dvR_app id X Y l1 l2 r2,r3]
  ·refine p3.trans ?_
   rw [<- List.append_assoc]
   exact List.perm_append_comm.append_right _
 ·have:=(Gd.repl (r:=L.rcA (L.divA r up b)) (l:=[L.rcA (L.divB r up b)]) gAB h1.gd h1.ins)
  have:=(this.perm (List.perm_append_comm (l₁:=N) (l₂:=[L.rcA (L.divB r up b)])))
  have:=Gd.repl (r:=L.rcA (L.divB r up b)) (l:=N) this h2.gd h2.ins
  exact this.perm List.perm_append_comm
 ·rcases List.mem_append.1 hx with hx | hx
  ·exact inR_trans (h1.ins x hx) i1
  ·exact inR_trans (h2.ins x hx) i2
 ·rw [arL_app,h1.ar,h2.ar,ar_div]
theorem box_pos {l:L.Sq L.Pt} (hv:L.validOutline l=true) (t:Int):1 <= (L.box l t).w/\1 <= (L.box l t).h:=by
 obtain ⟨n3,_,_,_⟩:=validOutline_of hv
 have hc:=(outline_all hv).2 1 (by omega)
 have e1:L.prev l.n 1=0:=by
  unfold L.prev
  rw [show ((1:Nat):Int)+(l.n:Int) - 1=(l.n:Int) by omega,Int.tmod_self];rfl
 have l0:=lowTo_le (l:=l) l.n 0 (by omega)
 have l1:=lowTo_le (l:=l) l.n 1 (by omega)
 have h0:=highTo_ge (l:=l) l.n 0 (by omega)
 have h1:=highTo_ge (l:=l) l.n 1 (by omega)
 have hn:L.next l.n 1<l.n:=next_lt (by omega)
 have l2:=lowTo_le (l:=l) l.n _ hn
 have h2:=highTo_ge (l:=l) l.n _ hn
 rw [e1] at hc
 generalize l.g (L.next l.n 1)=c at *
 have eL:L.boxL l=L.lowTo l l.n:=by unfold L.boxL;rw [hv];rfl
 have eH:L.boxH l=L.highTo l l.n:=by unfold L.boxH;rw [hv];rfl
 have hx:(L.boxL l).x<(L.boxH l).x:=by
  rw [eL,eH]
  refine Int.not_le.1 fun hle=>hc ?_
  have q1:(l.g 1).x=(l.g 0).x:=by omega
  have q2:c.x=(l.g 0).x:=by omega
  unfold L.cross
  rw [q1,q2];simp
 have hy:(L.boxL l).y<(L.boxH l).y:=by
  rw [eL,eH]
  refine Int.not_le.1 fun hle=>hc ?_
  have q1:(l.g 1).y=(l.g 0).y:=by omega
  have q2:c.y=(l.g 0).y:=by omega
  unfold L.cross
  rw [q1,q2];simp
 unfold L.box
 cases decide (t=1) <;> simp only [cond_true,cond_false] <;> omega
def chkQ1 (n k:Nat):Bool:=let p:=L.part n k;let c:=L.cmp_ n k;(L.posL n).isPerm (L.posL p ++ L.posL c) && (List.range 4).all fun i=>(L.bitI n i == (L.bitI p i || L.bitI c i)) && !(L.bitI p i && L.bitI c i)
def chkQ (n:Nat):Bool:=if n=0 then true else if L.isOne n=true then decide (L.posL n = [L.ix1 n]) && L.bitI n (L.ix1 n) && (List.range 4).all fun i=>L.bitI n i == decide (i=L.ix1 n) else (List.range (L.partN n)).all (chkQ1 n)
theorem chkQ_all:((List.range 16).all chkQ)=true:=by kernel_rfl
theorem pos_one {n:Nat} (h:1 <= n) (h15:n <= 15) (h1:L.isOne n=true):L.posL n = [L.ix1 n] /\ ∀ i,i<4->L.bitI n i=decide (i=L.ix1 n):=by
 have:=List.all_eq_true.1 chkQ_all n (List.mem_range.2 (by omega))
 unfold chkQ at this
 rw [if_neg (by omega),if_pos h1] at this
 simp only [Bool.and_eq_true,decide_eq_true_eq,List.all_eq_true,beq_iff_eq] at this
 exact ⟨this.1.1,fun i hi=>this.2 i (List.mem_range.2 hi)⟩
theorem pos_two {n:Nat} (h:1 <= n) (h15:n <= 15) (h1:L.isOne n=false) {k:Nat} (hk:k<L.partN n):(L.posL n).Perm (L.posL (L.part n k) ++ L.posL (L.cmp_ n k)) /\ ∀ i,i<4->L.bitI n i=(L.bitI (L.part n k) i || L.bitI (L.cmp_ n k) i)/\(L.bitI (L.part n k) i && L.bitI (L.cmp_ n k) i)=false:=by
 have:=List.all_eq_true.1 chkQ_all n (List.mem_range.2 (by omega))
 unfold chkQ at this
 rw [if_neg (by omega),if_neg (by rw [h1];decide)] at this
 have:=List.all_eq_true.1 this k (List.mem_range.2 hk)
 unfold chkQ1 at this
 simp only [Bool.and_eq_true,List.all_eq_true,beq_iff_eq,Bool.not_eq_true'] at this
 exact ⟨List.isPerm_iff.1 this.1,fun i hi=>this.2 i (List.mem_range.2 hi)⟩
theorem posL_mem {m:Int} {i:Nat}:i ∈ L.posL m ↔ i<4/\L.bitI m i=true:=by
 unfold L.posL
 rw [List.mem_filter,List.mem_range]
def L.ownR (w:L.Sq L.Want) (P:Nat->L.Placed) (i:Nat):L.Rc:=⟨(P i).at_,⟨(P i).at_.x+(L.box (w.g i).ol (P i).turn).w,(P i).at_.y+(L.box (w.g i).ol (P i).turn).h⟩⟩
def L.plOk (w:L.Sq L.Want) (sh:L.Sheet) (P:Nat->L.Placed) (i:Nat):Prop:=(P i).want=(w.g i).id/\(P i).sheet=sh.id/\((P i).turn=0\/(P i).turn=1)/\L.alw (w.g i).grain sh.grain (P i).turn=true
theorem fit0_iff {w:L.Sq L.Want} {gr:Int} {i:Nat} {r:L.Area} {t:Int}:L.fit0 w gr i r t=true ↔ L.alw (w.g i).grain gr t=true/\Cu.le (L.box (w.g i).ol t) r.size:=by
 unfold L.fit0 Cu.le
 cases h1:L.alw (w.g i).grain gr t
 ·simp
 ·by_cases h2:(L.box (w.g i).ol t).w <= r.size.w <;> by_cases h3:(L.box (w.g i).ol t).h <= r.size.h <;> simp [h2,h3]
theorem turnOf_ok {w:L.Sq L.Want} {gr g:Int} {r:L.Area} (h:1 <= g) (h15:g <= 15) (h1:L.isOne g=true) (hf:L.fits w gr g r.size):(L.turnOf w gr (L.ix1 g) r=0\/L.turnOf w gr (L.ix1 g) r=1)/\L.alw (w.g (L.ix1 g)).grain gr (L.turnOf w gr (L.ix1 g) r)=true/\Cu.le (L.box (w.g (L.ix1 g)).ol (L.turnOf w gr (L.ix1 g) r)) r.size:=by
 obtain ⟨t,ht,h2,h3⟩:=(fits_1 h h15 h1).1 hf
 unfold L.turnOf
 cases h0:L.fit0 w gr (L.ix1 g) r 0 with
 | true=>exact ⟨.inl rfl,fit0_iff.1 h0⟩
 | false =>
   rcases ht with rfl | rfl
   ·rw [fit0_iff.2 ⟨h2,h3⟩] at h0;cases h0
   ·exact ⟨.inr rfl,h2,h3⟩
theorem dvs_low (id:Int) {r:L.Area} {h:Int} (hw:1 <= r.size.w) (h1:1 <= h) (hh:h <= r.size.h):∃ M,Dvs id r (bif decide (h<r.size.h) then [L.splt r id false h] else []) (L.rcA ⟨r.at_,⟨r.size.w,h⟩⟩ :: M):=by
 by_cases e:h<r.size.h
 ·rw [decide_eq_true e]
  exact ⟨[_],Dvs.split hw (by omega) h1 (fun h=>by cases h) (fun _=>e) (Dvs.none id (r:=L.divA r false h) hw h1) (Dvs.none id (r:=L.divB r false h) hw (by show 1 <= r.size.h - h;omega))⟩
 ·rw [decide_eq_false e]
  have:h=r.size.h:=by omega
  subst this
  exact ⟨[],Dvs.none id hw h1⟩
theorem dvs_one (w:L.Sq L.Want) (sh:L.Sheet) (i:Nat) (r:L.Area) (S:List L.Score) (hw:1 <= (L.oneB w sh i r).w) (hh:1 <= (L.oneB w sh i r).h) (h1:(L.oneB w sh i r).w <= r.size.w) (h2:(L.oneB w sh i r).h <= r.size.h) :
  ∃ X M,L.oneQ w sh i r S=S ++ X/\Dvs sh.id r X (L.rcA ⟨r.at_,L.oneB w sh i r⟩ :: M):=by
 unfold L.oneQ L.oneS1 L.oneR1
 by_cases e:(L.oneB w sh i r).w<r.size.w
 ·rw [decide_eq_true e]
  simp only [cond_true]
  obtain ⟨M,hM⟩:=dvs_low sh.id (r:=L.divA r true (L.oneB w sh i r).w) hw hh h2
  refine ⟨_,_,?_,Dvs.split (by omega) (by omega) hw (fun _=>e) (fun h=>by cases h) hM (Dvs.none sh.id (r:=L.divB r true (L.oneB w sh i r).w) (by show 1 <= r.size.w - _;omega) (by show 1 <= r.size.h;omega))⟩
  cases decide ((L.oneB w sh i r).h<(L.divA r true (L.oneB w sh i r).w).size.h) <;> simp [L.snocC]
 ·rw [decide_eq_false e]
  simp only [cond_false]
  have e1:(L.oneB w sh i r).w=r.size.w:=by omega
  obtain ⟨M,hM⟩:=dvs_low sh.id (r:=r) (by omega) hh h2
  rw [<- e1] at hM
  refine ⟨_,M,?_,hM⟩
  cases decide ((L.oneB w sh i r).h<r.size.h) <;> simp [L.snocC]
theorem fits_pos1 {w:L.Sq L.Want} {gr:Int}:∀ (n:Nat),1 <= n->n <= 15->(∀ i,i<4->L.bitI n i=true->L.validOutline (w.g i).ol=true) -> ∀ s:L.Size,L.fits w gr n s->1 <= s.w/\1 <= s.h:=fun n=>by
 induction n using Nat.strongRecOn with
 | _ n ih =>
   intro h h15 hv s hf
   cases h1:L.isOne n with
   | true =>
     obtain ⟨t,_,_,h2,h3⟩:=(fits_1 (by omega) (by omega) h1).1 hf
     have hi:=(grp_one (show 1 <= (n:Int) by omega) (by omega) h1).2
     have:=box_pos (hv _ hi (by rw [(pos_one h h15 h1).2 _ hi];exact decide_eq_true rfl)) t
     omega
   | false =>
     obtain ⟨k,hk,hj⟩:=(fits_2 (by omega) (by omega) h1).1 hf
     obtain ⟨p1,p2,p3,p4,_⟩:=(grp_prt (show 1 <= (n:Int) by omega) (by omega) h1).2 k hk
     have hb:=(pos_two h h15 h1 hk).2
     obtain ⟨x,hx⟩:=Int.eq_ofNat_of_zero_le (Int.le_of_lt p1)
     obtain ⟨y,hy⟩:=Int.eq_ofNat_of_zero_le (Int.le_of_lt p3)
     rw [hx,hy] at hj hb
     have ix:=ih x (by omega) (by omega) (by omega) (fun i hi hbi=>hv i hi (by rw [(hb i hi).1,hbi];rfl))
     have iy:=ih y (by omega) (by omega) (by omega) (fun i hi hbi=>hv i hi (by rw [(hb i hi).1,hbi,Bool.or_true]))
     rcases hj with ⟨a,b,h,q1,q2⟩ | ⟨a,b,h,q1,q2⟩
     ·have:=ix _ q1;have:=iy _ q2;simp only at *;omega
     ·have:=ix _ q1;have:=iy _ q2;simp only at *;omega
end Go.Proofs.YtpgaejicfbpcmaaGreat
namespace Go.Proofs.YtpgaejicfbpcmaaGreat
open Go.SE Go.RowKit
set_option maxRecDepth 100000
set_option maxHeartbeats 4000000
set_option linter.unusedVariables false
attribute [local irreducible] vc
theorem dvF_ex {w:L.Sq L.Want} {gr:Int} {n:Nat} (h:1 <= n) (h15:n <= 15) (h1:L.isOne n=false) (hv:∀ i,i<4->L.bitI n i=true->L.validOutline (w.g i).ol=true) {r:L.Area} (hf:L.fits w gr n r.size):∃ k j,L.dvF w gr n r=some (k,j):=by
 obtain ⟨k,hk,hj⟩:=(fits_2 (by omega) (by omega) h1).1 hf
 obtain ⟨p1,p2,p3,p4,_⟩:=(grp_prt (show 1 <= (n:Int) by omega) (by omega) h1).2 k hk
 have hb:=(pos_two h h15 h1 hk).2
 have px:∀ s,L.fits w gr (L.part n k) s->1 <= s.w/\1 <= s.h:=fun s hs=>by
  obtain ⟨x,hx⟩:=Int.eq_ofNat_of_zero_le (Int.le_of_lt p1)
  rw [hx] at hs hb
  exact fits_pos1 x (by omega) (by omega) (fun i hi hbi=>hv i hi (by rw [(hb i hi).1,hbi];rfl)) s hs
 have py:∀ s,L.fits w gr (L.cmp_ n k) s->1 <= s.w/\1 <= s.h:=fun s hs=>by
  obtain ⟨x,hx⟩:=Int.eq_ofNat_of_zero_le (Int.le_of_lt p3)
  rw [hx] at hs hb
  exact fits_pos1 x (by omega) (by omega) (fun i hi hbi=>hv i hi (by rw [(hb i hi).1,hbi,Bool.or_true])) s hs
 have key:∃ j,j<L.dvN r/\L.dvOk w gr n r k j=true:=by
  have eW:L.dvW r=(r.size.w - 1).toNat:=rfl
  have eN:L.dvN r=(r.size.w - 1).toNat+(r.size.h - 1).toNat:=rfl
  rcases hj with ⟨a,b,h,q1,q2⟩ | ⟨a,b,h,q1,q2⟩
  ·have a1:=(px _ q1).1
   have b1:=(py _ q2).1
   simp only at a1 b1
   obtain ⟨j,rfl⟩:∃ j:Nat,a=(j:Int)+1:=⟨(a - 1).toNat,by omega⟩
   have eU:L.dvU r j=true:=decide_eq_true (by omega)
   have eI:L.dvI r j=(j:Int)+1:=by unfold L.dvI;rw [eU];rfl
   refine ⟨j,by omega,?_⟩
   unfold L.dvOk
   rw [eU,eI]
   have r1:L.roomB w gr (L.part n k) (L.divA r true ((j:Int)+1)).size=true:=roomB_iff.2 q1
   have r2:L.roomB w gr (L.cmp_ n k) (L.divB r true ((j:Int)+1)).size=true:=roomB_iff.2 (fits_mono q2 ⟨by show b <= r.size.w - _;omega,Int.le_refl _⟩)
   rw [r1,r2];rfl
  ·have a1:=(px _ q1).2
   have b1:=(py _ q2).2
   simp only at a1 b1
   obtain ⟨j,rfl⟩:∃ j:Nat,a=(j:Int)+1:=⟨(a - 1).toNat,by omega⟩
   have eU:L.dvU r (L.dvW r+j)=false:=decide_eq_false (by omega)
   have eI:L.dvI r (L.dvW r+j)=(j:Int)+1:=by unfold L.dvI;rw [eU,Nat.add_sub_cancel_left];rfl
   refine ⟨L.dvW r+j,by omega,?_⟩
   unfold L.dvOk
   rw [eU,eI]
   have r1:L.roomB w gr (L.part n k) (L.divA r false ((j:Int)+1)).size=true:=roomB_iff.2 q1
   have r2:L.roomB w gr (L.cmp_ n k) (L.divB r false ((j:Int)+1)).size=true:=roomB_iff.2 (fits_mono q2 ⟨Int.le_refl _,by show b <= r.size.h - _;omega⟩)
   rw [r1,r2];rfl
 obtain ⟨j,hj1,hj2⟩:=key
 cases hd:L.dvF w gr n r with
 | some x=>exact ⟨x.1,x.2,rfl⟩
 | none =>
   unfold L.dvF at hd
   have:=List.findSome?_eq_none_iff.1 hd k (List.mem_range.2 hk)
   rw [Option.map_eq_none_iff,List.find?_eq_none] at this
   exact absurd hj2 (this j (List.mem_range.2 hj1))
theorem lay_ok (w:L.Sq L.Want) (sh:L.Sheet):∀ (n:Nat),1 <= n->n <= 15->(∀ i,i<4->L.bitI n i=true->L.validOutline (w.g i).ol=true) -> ∀ (r:L.Area) (s:L.LS),1 <= r.size.w->1 <= r.size.h->L.fits w sh.grain n r.size ->
  ∃ X N M,(L.layF w sh n r s).sc=s.sc ++ X/\Dvs sh.id r X N/\N.Perm ((L.posL n).map (L.ownR w (L.layF w sh n r s).pl) ++ M)/\(∀ i,i<4->L.bitI n i=false->(L.layF w sh n r s).pl i=s.pl i) /\ ∀ i,i<4->L.bitI n i=true->L.plOk w sh (L.layF w sh n r s).pl i:=fun n=>by
 induction n using Nat.strongRecOn with
 | _ n ih =>
   intro h h15 hv r s hw hh hf
   cases h1:L.isOne n with
   | true =>
     obtain ⟨q1,q2⟩:=pos_one h h15 h1
     have hi:=(grp_one (show 1 <= (n:Int) by omega) (by omega) h1).2
     rw [layF_1 w sh r s (by omega) h1]
     obtain ⟨t1,t2,t3,t4⟩:=turnOf_ok (by omega) (by omega) h1 hf
     have hb:=box_pos (hv _ hi (by rw [q2 _ hi];exact decide_eq_true rfl)) (L.turnOf w sh.grain (L.ix1 n) r)
     obtain ⟨X,M,e1,e2⟩:=dvs_one w sh (L.ix1 n) r s.sc hb.1 hb.2 t3 t4
     refine ⟨X,_,M,e1,e2,?_,fun i hi' hb'=>?_,fun i hi' hb'=>?_⟩
     ·rw [q1]
      have:L.ownR w (L.oneP w sh (L.ix1 n) r s.pl) (L.ix1 n)=L.rcA ⟨r.at_,L.oneB w sh (L.ix1 n) r⟩:=by
       unfold L.ownR L.oneP L.setP
       simp only [if_true]
       rfl
      simp only [List.map_cons,List.map_nil,this]
      exact List.Perm.refl _
     ·rw [q2 i hi',decide_eq_false_iff_not] at hb'
      dsimp only
      unfold L.oneP L.setP
      rw [if_neg hb']
     ·rw [q2 i hi',decide_eq_true_eq] at hb'
      subst hb'
      dsimp only
      unfold L.plOk L.oneP L.setP
      simp only [if_true]
      exact ⟨trivial,trivial,t1,t2⟩
   | false =>
     obtain ⟨k,j,hd⟩:=dvF_ex h h15 h1 hv hf
     obtain ⟨hk,hj,hok⟩:=dvF_some hd
     obtain ⟨p1,p2,p3,p4,_⟩:=(grp_prt (show 1 <= (n:Int) by omega) (by omega) h1).2 k hk
     obtain ⟨hpm,hb⟩:=pos_two h h15 h1 hk
     have hok2:L.fits w sh.grain (L.part n k) (L.divA r (L.dvU r j) (L.dvI r j)).size/\L.fits w sh.grain (L.cmp_ n k) (L.divB r (L.dvU r j) (L.dvI r j)).size:=by
      unfold L.dvOk at hok
      cases e1:L.roomB w sh.grain (L.part n k) (L.divA r (L.dvU r j) (L.dvI r j)).size with
      | false=>rw [e1] at hok;cases hok
      | true =>
        rw [e1,cond_true] at hok
        exact ⟨roomB_iff.1 e1,roomB_iff.1 hok⟩
     have bd:1 <= L.dvI r j/\(L.dvU r j=true->L.dvI r j<r.size.w)/\(L.dvU r j=false->L.dvI r j<r.size.h):=by
      have eW:L.dvW r=(r.size.w - 1).toNat:=rfl
      have eN:L.dvN r=(r.size.w - 1).toNat+(r.size.h - 1).toNat:=rfl
      by_cases hl:j<L.dvW r
      ·have e:L.dvU r j=true:=decide_eq_true hl
       unfold L.dvI
       rw [e,cond_true]
       exact ⟨by omega,fun _=>by omega,(fun h=>by cases h)⟩
      ·have e:L.dvU r j=false:=decide_eq_false hl
       unfold L.dvI
       rw [e,cond_false]
       exact ⟨by omega,(fun h=>by cases h),fun _=>by omega⟩
     rw [layF_some w sh s (by omega) (by omega) h1 hd]
     generalize hup:L.dvU r j=up at *
     generalize hby:L.dvI r j=by_ at *
     obtain ⟨b1,b2,b3⟩:=bd
     obtain ⟨f1,f2⟩:=hok2
     have sA:1 <= (L.divA r up by_).size.w/\1 <= (L.divA r up by_).size.h:=by
      cases up with
      | true=>have:=b2 rfl;unfold L.divA;simp only [cond_true];omega
      | false=>have:=b3 rfl;unfold L.divA;simp only [cond_false];omega
     have sB:1 <= (L.divB r up by_).size.w/\1 <= (L.divB r up by_).size.h:=by
      cases up with
      | true=>have:=b2 rfl;unfold L.divB;simp only [cond_true];omega
      | false=>have:=b3 rfl;unfold L.divB;simp only [cond_false];omega
     obtain ⟨x,hx⟩:=Int.eq_ofNat_of_zero_le (Int.le_of_lt p1)
     obtain ⟨y,hy⟩:=Int.eq_ofNat_of_zero_le (Int.le_of_lt p3)
     rw [hx] at f1 hb hpm p1 p2 ⊢
     rw [hy] at f2 hb hpm p3 p4 ⊢
     obtain ⟨X,N,M,e1,e2,e3,e4,e5⟩:=ih x (by omega) (by omega) (by omega) (fun i hi hbi=>hv i hi (by rw [(hb i hi).1,hbi];rfl)) (L.divA r up by_) ⟨s.pl,L.snocC s.sc (L.splt r sh.id up by_)⟩ sA.1 sA.2 f1
     generalize L.layF w sh x (L.divA r up by_) ⟨s.pl,L.snocC s.sc (L.splt r sh.id up by_)⟩=s1 at *
     obtain ⟨Y,N2,M2,g1,g2,g3,g4,g5⟩:=ih y (by omega) (by omega) (by omega) (fun i hi hbi=>hv i hi (by rw [(hb i hi).1,hbi,Bool.or_true])) (L.divB r up by_) s1 sB.1 sB.2 f2
     generalize L.layF w sh y (L.divB r up by_) s1=s2 at *
     refine ⟨L.splt r sh.id up by_ :: (X ++ Y),N ++ N2,M ++ M2,?_,Dvs.split hw hh b1 b2 b3 e2 g2,?_,fun i hi hbi=>?_,fun i hi hbi=>?_⟩
     ·rw [g1,e1];simp [L.snocC]
     ·have hm : (L.posL x).map (L.ownR w s1.pl) = (L.posL x).map (L.ownR w s2.pl) := List.map_congr_left fun i hi => by
       obtain ⟨h4,hbx⟩:=posL_mem.1 hi
       have:=(hb i h4).2
       rw [hbx,Bool.true_and] at this
       unfold L.ownR
       rw [g4 i h4 this]
      rw [hm] at e3
      refine (e3.append g3).trans ?_
      refine List.Perm.trans ?_ ((hpm.map (L.ownR w s2.pl)).symm.append_right _)
      rw [List.map_append]
      simp only [List.append_assoc]
      refine List.Perm.append_left _ ?_
      rw [<- List.append_assoc,<- List.append_assoc]
      exact List.perm_append_comm.append_right _
     ·rw [(hb i hi).1,Bool.or_eq_false_iff] at hbi
      rw [g4 i hi hbi.2,e4 i hi hbi.1]
     ·cases hbx:L.bitI x i with
      | true =>
        have:=(hb i hi).2
        rw [hbx,Bool.true_and] at this
        have h5:=e5 i hi hbx
        unfold L.plOk at h5 ⊢
        rw [g4 i hi this];exact h5
      | false =>
        rw [(hb i hi).1,hbx,Bool.false_or] at hbi
        exact g5 i hi hbi
end Go.Proofs.YtpgaejicfbpcmaaGreat
namespace Go.Proofs.YtpgaejicfbpcmaaGreat
open Go.SE Go.RowKit
set_option maxRecDepth 100000
set_option maxHeartbeats 4000000
set_option linter.unusedVariables false
attribute [local irreducible] vc
def ofScore:List SV->L.Score
 | [.int _ a,.int _ b,.int _ c,.sl _ n g]=>⟨a,b,c,⟨n,fun i=>ofPt (g i)⟩⟩
 | _=>⟨0,0,0,⟨0,fun _=>⟨0,0⟩⟩⟩
def okScore:List SV->Prop
 | [.int .i64 _,.int .i64 _,.int .i64 _,.sl 2 n g]=>∀ i,i<n->g i = [.int .i64 (ofPt (g i)).x,.int .i64 (ofPt (g i)).y]
 | _=>False
theorem score_row {l:List SV} (h:okScore l):l.length=4 /\ ∀ j,j<4->Ext (SV.at l j) (SV.at [.int .i64 (ofScore l).sheet,.int .i64 (ofScore l).kind,.int .i64 (ofScore l).want,.sl 2 (ofScore l).pts.n (fun i=>[.int .i64 ((ofScore l).pts.g i).x,.int .i64 ((ofScore l).pts.g i).y])] j):=by
 unfold okScore at h
 split at h
 ·rename_i a b c n g
  refine ⟨rfl,fun j hj=>?_⟩
  match j,hj with
  | 0,_=>exact .refl _
  | 1,_=>exact .refl _
  | 2,_=>exact .refl _
  | 3,_=>exact .sl h
 ·exact h.elim
theorem Score_ext {n:Nat} {g:Nat->List SV} (h:∀ i,i<n->okScore (g i)):Ext (.sl 4 n g) (.sl 4 n (fun i=>[.int .i64 (ofScore (g i)).sheet,.int .i64 (ofScore (g i)).kind,.int .i64 (ofScore (g i)).want,.sl 2 (ofScore (g i)).pts.n (fun i1=>[.int .i64 ((ofScore (g i)).pts.g i1).x,.int .i64 ((ofScore (g i)).pts.g i1).y])])) :=
 .sl2 (fun i hi=>by rw [(score_row (h i hi)).1];rfl) (fun i hi j hj=>(score_row (h i hi)).2 j (by rw [(score_row (h i hi)).1] at hj;exact hj))
def L.sqR (l:List L.Rc):L.Sq L.Rc:=⟨l.length,fun i=>l.getD i ⟨⟨0,0⟩,⟨0,0⟩⟩⟩
def L.rcC (r:L.Rc):List SV:=[.int .i64 r.a.x,.int .i64 r.a.y,.int .i64 r.b.x,.int .i64 r.b.y]
def L.dqN (id:Int) (l:List L.Rc) (x:L.Sq L.Score):Nat->Option (List L.Rc)
 | 0=>some l
 | k+1=>match L.dqN id l x k with
   | none=>none
   | some m=>L.dvS id m (x.g k)
def L.dqO (s:L.Sheet) (x:L.Sq L.Score) (k:Nat):Option (List L.Rc):=L.dqN s.id [⟨⟨0,0⟩,⟨s.w,s.h⟩⟩] x k
def L.dqL (s:L.Sheet) (x:L.Sq L.Score) (k:Nat):L.Sq L.Rc:=L.sqR ((L.dqO s x k).getD [])
def L.dqH (s:L.Sheet) (x:L.Sq L.Score):Bool:=(L.dqO s x x.n).isSome
def L.dqI (i:Nat) (f:Bool):Nat:=bif f then i+1 else i
def L.dqM (s:L.Sheet) (x:L.Sq L.Score) (k:Nat) (f:Bool) (i:Nat):Nat:=bif f then (L.dqL s x (i+1)).n - k else (L.dqL s x i).n - k+1
def L.okD (s:L.Sheet) (x:L.Sq L.Score) (i:Nat):Prop:=(L.dqO s x i).isSome=true
def L.scA (x:L.Sq L.Score) (s:L.Sheet) (i:Nat):Prop:=(x.g i).kind=1/\(x.g i).sheet=s.id/\(x.g i).pts.n=2
def L.sdA (x:L.Sq L.Score) (s:L.Sheet) (i j:Nat):Bool:=L.side ((L.dqL s x i).g j) ((x.g i).pts.g 0) ((x.g i).pts.g 1)
theorem dq_side (r:L.Rc) (p q:L.Pt):(bif bif bif bif bif decide (p.x=q.x) then decide (r.a.x<p.x) else false then decide (p.x<r.b.x) else false then decide (p.y=r.a.y) else false then decide (q.y=r.b.y) else false then true else bif bif bif bif decide (p.y=q.y) then decide (r.a.y<p.y) else false then decide (p.y<r.b.y) else false then decide (p.x=r.a.x) else false then decide (q.x=r.b.x) else false)=L.side r p q:=by
 have h:∀ a b c d e:Bool,(bif bif bif bif a then b else false then c else false then d else false then e else false)=(a && (b && (c && (d && e)))):=by decide
 rw [h,h]
 unfold L.side L.sideV L.sideH
 generalize (decide (p.x=q.x) && _)=u
 generalize (decide (p.y=q.y) && _)=v
 cases u <;> rfl
theorem okD_0 (s:L.Sheet) (x:L.Sq L.Score):L.okD s x 0:=rfl
theorem okD_some {s:L.Sheet} {x:L.Sq L.Score} {i:Nat} (h:L.okD s x i):∃ l,L.dqO s x i=some l/\L.dqL s x i=L.sqR l:=by
 obtain ⟨l,hl⟩:=Option.isSome_iff_exists.1 h
 exact ⟨l,hl,by unfold L.dqL;rw [hl];rfl⟩
theorem dq_next {s:L.Sheet} {x:L.Sq L.Score} {i:Nat} {l:List L.Rc} (h:L.dqO s x i=some l):L.dqO s x (i+1)=L.dvS s.id l (x.g i):=by
 unfold L.dqO at h ⊢
 rw [L.dqN,h]
theorem dq_up {s:L.Sheet} {x:L.Sq L.Score} {i:Nat} (h:L.dqO s x i=none):∀ j,L.dqO s x (i+j)=none
 | 0=>h
 | j+1=>by
   have:=dq_up h j
   unfold L.dqO at this ⊢
   rw [<- Nat.add_assoc,L.dqN,this]
theorem dq_none {s:L.Sheet} {x:L.Sq L.Score} {i:Nat} (h:L.dqO s x (i+1)=none) (hi:i<x.n):(L.dqL s x x.n).n=0/\false=L.dqH s x:=by
 have:=dq_up h (x.n - (i+1))
 rw [show i+1+(x.n - (i+1))=x.n by omega] at this
 unfold L.dqL L.dqH
 rw [this]
 exact ⟨rfl,rfl⟩
theorem dq_bad {s:L.Sheet} {x:L.Sq L.Score} {i:Nat} (h:L.okD s x i) (hb:¬ L.scA x s i):L.dqO s x (i+1)=none:=by
 obtain ⟨l,hl,_⟩:=okD_some h
 rw [dq_next hl]
 unfold L.dvS
 exact if_neg hb
theorem dq_len {s:L.Sheet} {x:L.Sq L.Score}:∀ {i:Nat},L.okD s x i->(L.dqL s x i).n=i+1
 | 0,_=>rfl
 | i+1,h=>by
   obtain ⟨m,hm,em⟩:=okD_some h
   have hi:L.okD s x i:=by
    cases e:L.dqO s x i with
    | none =>
      have:=dq_up e 1
      rw [hm] at this;cases this
    | some l=>unfold L.okD;rw [e];rfl
   obtain ⟨l,hl,el⟩:=okD_some hi
   have ih:=dq_len hi
   rw [em]
   rw [el] at ih
   rw [dq_next hl] at hm
   unfold L.dvS at hm
   split at hm
   rotate_left
   ·cases hm
   unfold L.dvd1 at hm
   split at hm
   ·cases hm
   ·cases hm
    show (_ ++ _:List L.Rc).length=_
    rw [List.length_append,List.length_set]
    have:l.length=i+1:=ih
    simp [this]
theorem dq_not {s:L.Sheet} {x:L.Sq L.Score} {i:Nat} (h:L.okD s x i) (hs:∀ j,j<(L.dqL s x i).n->L.sdA x s i j=false):L.dqO s x (i+1)=none:=by
 obtain ⟨l,hl,el⟩:=okD_some h
 unfold L.sdA at hs
 rw [el] at hs
 rw [dq_next hl]
 unfold L.dvS
 split
 ·unfold L.dvd1
  have:l.findIdx? (fun r=>L.side r ((x.g i).pts.g 0) ((x.g i).pts.g 1))=none:=List.findIdx?_eq_none_iff.2 fun r hr=>by
   obtain ⟨j,hj,rfl⟩:=List.getElem_of_mem hr
   have:=hs j hj
   have e:(L.sqR l).g j=l[j]:=by show l.getD j _=_;rw [List.getD_eq_getElem?_getD,List.getElem?_eq_getElem hj];rfl
   rw [e] at this
   exact this
  rw [this]
 ·rfl
theorem dq_found {s:L.Sheet} {x:L.Sq L.Score} {i k:Nat} (h:L.okD s x i) (ha:L.scA x s i) (hk:k<(L.dqL s x i).n) (h0:∀ j,j<k->L.sdA x s i j=false) (h1:L.sdA x s i k=true) :
  L.okD s x (i+1) /\ ∀ j,j<(L.dqL s x i).n+1->appGet (L.dqL s x i).n (setRow (fun k=>L.rcC ((L.dqL s x i).g k)) k 0 [.int .i64 ((L.dqL s x i).g k).a.x,.int .i64 ((L.dqL s x i).g k).a.y,.int .i64 ((x.g i).pts.g 1).x,.int .i64 ((x.g i).pts.g 1).y]) (fun _=>[.int .i64 ((x.g i).pts.g 0).x,.int .i64 ((x.g i).pts.g 0).y,.int .i64 ((L.dqL s x i).g k).b.x,.int .i64 ((L.dqL s x i).g k).b.y]) j=L.rcC ((L.dqL s x (i+1)).g j):=by
 obtain ⟨l,hl,el⟩:=okD_some h
 unfold L.sdA at h0 h1
 rw [el] at h0 h1 hk ⊢
 have hk:k<l.length:=hk
 have e:∀ j,(hj:j<l.length)->(L.sqR l).g j=l[j]:=fun j hj=>by show l.getD j _=_;rw [List.getD_eq_getElem?_getD,List.getElem?_eq_getElem hj];rfl
 have hf:l.findIdx? (fun r=>L.side r ((x.g i).pts.g 0) ((x.g i).pts.g 1))=some k:=by
  rw [List.findIdx?_eq_some_iff_getElem]
  refine ⟨hk,by rw [<- e k hk];exact h1,fun j hj=>?_⟩
  have:=h0 j hj
  rw [e j (by omega)] at this
  rw [this];decide
 have hn:L.dqO s x (i+1)=some (l.set k ⟨((L.sqR l).g k).a,(x.g i).pts.g 1⟩ ++ [⟨(x.g i).pts.g 0,((L.sqR l).g k).b⟩]):=by
  rw [dq_next hl]
  unfold L.dvS
  rw [if_pos (show (x.g i).kind=1/\(x.g i).sheet=s.id/\(x.g i).pts.n=2 from ha)]
  unfold L.dvd1
  rw [hf];rfl
 refine ⟨by unfold L.okD;rw [hn];rfl,fun j hj=>?_⟩
 have eD:L.dqL s x (i+1)=L.sqR (l.set k ⟨((L.sqR l).g k).a,(x.g i).pts.g 1⟩ ++ [⟨(x.g i).pts.g 0,((L.sqR l).g k).b⟩]):=by unfold L.dqL;rw [hn];rfl
 rw [eD]
 have hj:j<l.length+1:=hj
 unfold appGet
 have ln:(L.sqR l).n=l.length:=rfl
 rw [ln]
 by_cases h2:j<l.length
 ·rw [if_pos h2]
  unfold setRow
  have e3:(L.sqR (l.set k ⟨((L.sqR l).g k).a,(x.g i).pts.g 1⟩ ++ [⟨(x.g i).pts.g 0,((L.sqR l).g k).b⟩])).g j=if j=k then ⟨((L.sqR l).g k).a,(x.g i).pts.g 1⟩ else (L.sqR l).g j:=by
   show List.getD _ j _=_
   rw [List.getD_eq_getElem?_getD,List.getElem?_append_left (by rw [List.length_set];exact h2),List.getElem?_set]
   by_cases h3:k=j
   ·subst h3
    rw [if_pos rfl,if_pos rfl,if_pos h2];rfl
   ·rw [if_neg h3,if_neg (Ne.symm h3)]
    show _=l.getD j _
    rw [List.getD_eq_getElem?_getD]
  rw [e3]
  by_cases h3:j=k
  ·subst h3
   rw [if_pos rfl,if_pos rfl];rfl
  ·rw [if_neg h3,if_neg h3]
 ·obtain rfl:j=l.length:=by omega
  rw [if_neg h2]
  show _=L.rcC (List.getD _ l.length _)
  rw [List.getD_eq_getElem?_getD,List.getElem?_append_right (by rw [List.length_set];exact Nat.le_refl _),List.length_set,Nat.sub_self]
  rfl
def w_divide_p (s:L.Sheet) (x:(L.Sq L.Score)):Prop:=x.n <= 1000
def w_divide_r (s:L.Sheet) (x:(L.Sq L.Score)):SV:=.tup [.sl 4 (L.dqL s x x.n).n (fun k=>L.rcC ((L.dqL s x x.n).g k)),.bool (L.dqH s x)]
def w_divide_s:List EV->Option (Prop × SV)
 | [.p (.agg [.int .i64 s_id,.int .i64 s_colour,.int .i64 s_w,.int .i64 s_h,.int .i64 s_grain]),.p (.sl 4 x_n x_g)]=>some ((∀ i,i<x_n->okScore (x_g i))/\w_divide_p (⟨s_id,s_colour,s_w,s_h,s_grain⟩:L.Sheet) (⟨x_n,fun i=>ofScore (x_g i)⟩:(L.Sq L.Score)),w_divide_r (⟨s_id,s_colour,s_w,s_h,s_grain⟩:L.Sheet) (⟨x_n,fun i=>ofScore (x_g i)⟩:(L.Sq L.Score)))
 | _=>none
abbrev w_divide_S:SE.Spec:=(specO w_divide_s)
def w_divide_C:Cfg:={ cC with muts:=[8,9,12,20] }
theorem w_divide_vc (s:L.Sheet) (x:(L.Sq L.Score)) (hp:w_divide_p s x):vc Tryz.prog ({ w_divide_C with loops:=lookL [(3,{ T:=Nat,keep:=[1,2,6],keepO:=[],chg:=fun i=>[(7,.p (.int .i64 (i:Int)))],own:=fun i=>[(20,.row 50 4 (L.dqL s x i).n (fun k=>L.rcC ((L.dqL s x i).g k)))],inv:=fun i=>i <= x.n/\L.okD s x i,mu:=fun i=>x.n - i }),(11,{ T:=Nat × Bool × Nat,keep:=[1,2,6,7,8,9],keepO:=[],chg:=fun t=>[(10,.p (.bool t.2.1)),(11,.p (.int .i64 (t.1:Int)))],own:=fun t=>[(20,.row 50 4 (L.dqL s x (L.dqI t.2.2 t.2.1)).n (fun k=>L.rcC ((L.dqL s x (L.dqI t.2.2 t.2.1)).g k))),(8,.blk 48 [.p (.int .i64 ((x.g t.2.2).pts.g 0).x),.p (.int .i64 ((x.g t.2.2).pts.g 0).y)]),(9,.blk 48 [.p (.int .i64 ((x.g t.2.2).pts.g 1).x),.p (.int .i64 ((x.g t.2.2).pts.g 1).y)])],inv:=fun t=>t.1 <= (L.dqL s x (L.dqI t.2.2 t.2.1)).n/\L.okD s x (L.dqI t.2.2 t.2.1)/\(t.2.1=false -> ∀ j,j<t.1->L.sdA x s t.2.2 j=false),mu:=fun t=>L.dqM s x t.1 t.2.1 t.2.2,tie:=fun t=>[(7,.int .i64 (t.2.2:Int))] })],rfs:=lookR [] }) (bodyOf Tryz.f24) (st0 Tryz.f24 [.p (.agg [.int .i64 s.id,.int .i64 s.colour,.int .i64 s.w,.int .i64 s.h,.int .i64 s.grain]),.p (.sl 4 x.n (fun i=>[.int .i64 ((x.g i).sheet),.int .i64 ((x.g i).kind),.int .i64 ((x.g i).want),.sl 2 (x.g i).pts.n (fun i1=>[.int .i64 (((x.g i).pts.g i1).x),.int .i64 (((x.g i).pts.g i1).y)])]))]) (retFn Tryz.prog Tryz.f24 (w_divide_r s x)) :=
  @Eq.mpr _ (let I:=SV.int .i64;let T:=Int.toNat;let A25:=(1:Nat);let A24:=(L.dqL s x x.n);let A22:=(nat_lit 0);let A21:=(0:Nat);let A19:=(↑x.n:Int);let A14:=(1:Int);let A13:=(0:Int);let A8:=[I s.id,I s.colour,I s.w,I s.h,I s.grain];let A3:=(x.n=x.n /\ ∀ (i:Nat),let A10:=[I (x.g i).sheet,I (x.g i).kind,I (x.g i).want,SV.sl (2:Nat)
 (x.g i).pts.n fun (i1:Nat)=>[I ((x.g i).pts.g i1).x,I ((x.g i).pts.g i1).y]];i<x.n->A10=A10);(∃ (g:Nat),A13=(↑g:Int)/\(nat_lit 1=(L.dqL s x g).n /\ ∀ (i:Nat),i<nat_lit 1->rowsOf [I A13,I A13,I s.w,I s.h] (nat_lit 4) i=L.rcC ((L.dqL s x g).g i))/\g <= x.n/\L.okD s x g) /\ ∀ (g:Nat),let A20:=(L.dqL s x g);let A6:=(↑g:Int);let A23:=(A13 <= A6/\A6 <
 A19);let A12:=(x.g (T A6));let A26:=(↑A12.pts.n:Int);let A9:=(bif bif !decide (A12.kind=A14) then true else !decide (A12.sheet=s.id) then true else !decide (A26=(2:Int)));g <= x.n/\L.okD s x g->(decide (A6<A19)=true->A23/\((!!decide (A12.kind=A14))=true->A13 <= A6/\A6<A19)/\((!bif
 !decide (A12.kind=A14) then true else !decide (A12.sheet=s.id))=true->A13 <= A6/\A6<A19)/\(A9=true->A24.n=A21/\false=L.dqH s x)/\(A9=false->A23/\(A13 <= A13/\A13<A26)/\A23/\(A13 <= A14/\A14<A26)/\(∃ (g_1:Nat × Bool × Nat),let A31:=(L.dqI g_1.2.2 g_1.2.1);let A27:=(x.g g_1.2.2);let A16:=(L.dqL s x A31);false
 = g_1.2.1/\A13=(↑g_1.1:Int)/\(A20.n=A16.n /\ ∀ (i:Nat),i<A20.n->L.rcC (A20.g i)=L.rcC (A16.g i))/\(A12.pts.g (T A13)).x=(A27.pts.g A21).x/\(A12.pts.g (T A13)).y=(A27.pts.g A21).y/\(A12.pts.g (T A14)).x=(A27.pts.g A25).x/\(A12.pts.g (T A14)).y=(A27.pts.g A25).y/\A6=(↑g_1.2.2:Int)/\g_1.1 <= A16.n/\L.okD s x A31/\(g_1.2.1=false -> ∀ (j:Nat),j<g_1.1->L.sdA
 x s g_1.2.2 j=false)) /\ ∀ (g_1:Nat × Bool × Nat),let A32:=(L.dqI g_1.2.2 g_1.2.1);let A7:=((x.g g_1.2.2).pts.g A25);let A5:=(↑g_1.1:Int);let A4:=((x.g g_1.2.2).pts.g A21);let A2:=(L.dqL s x A32);let A28:=(A13 <= A5/\A5<(↑A2.n:Int));let A15:=(bif decide (A5<(↑A2.n:Int)) then !g_1.2.1 else false);let A11:=(A2.g (T A5));let A1:=(bif bif bif
 bif bif decide (A4.x=A7.x) then decide (A11.a.x<A4.x) else false then decide (A4.x<A11.b.x) else false then decide (A4.y=A11.a.y) else false then decide (A7.y=A11.b.y) else false then true else bif bif bif bif decide (A4.y=A7.y) then decide (A11.a.y<A4.y) else false then
 decide (A4.y<A11.b.y) else false then decide (A4.x=A11.a.x) else false then decide (A7.x=A11.b.x) else false);A6=(↑g_1.2.2:Int)/\g_1.1 <= A2.n/\L.okD s x A32/\(g_1.2.1=false -> ∀ (j:Nat),j<g_1.1->L.sdA x s g_1.2.2 j=false)->(A15=true->A28/\T A5<A2.n/\(A1=true->A28/\T A5<A2.n/\(A2.n+nat_lit 1) *
 nat_lit 32 <= (140737488355328:Nat)/\InK .i64 (A5+A14) /\ ∃ (g':Nat × Bool × Nat),let A33:=(L.dqI g'.2.2 g'.2.1);let A29:=(x.g g'.2.2);let A17:=(L.dqL s x A33);true=g'.2.1/\A5+A14=(↑g'.1:Int)/\nat_lit 0=nat_lit 0/\nat_lit 0=nat_lit 0/\A6=A6/\SV.ref A8 A22=SV.ref A8 A22/\A3/\(A2.n+nat_lit 1=A17.n /\ ∀ (i:Nat),i<A2.n +
 nat_lit 1->appGet A2.n (setRow (fun (k:Nat)=>L.rcC (A2.g k)) (T A5) A22 [I A11.a.x,I A11.a.y,I A7.x,I A7.y]) (fun (x_1:Nat)=>[I A4.x,I A4.y,I A11.b.x,I A11.b.y]) i=L.rcC (A17.g i))/\A4.x=(A29.pts.g A21).x/\A4.y=(A29.pts.g A21).y/\A7.x=(A29.pts.g A25).x/\A7.y=(A29.pts.g A25).y/\(A6=(↑g'.2.2:Int)/\g'.1 <= A17.n/\L.okD s x A33/\(g'.2.1=false -> ∀ (j
:Nat),j<g'.1->L.sdA x s g'.2.2 j=false))/\L.dqM s x g'.1 g'.2.1 g'.2.2<L.dqM s x g_1.1 g_1.2.1 g_1.2.2)/\(A1=false->InK .i64 (A5+A14) /\ ∃ (g':Nat × Bool × Nat),let A34:=(L.dqI g'.2.2 g'.2.1);let A30:=(x.g g'.2.2);let A18:=(L.dqL s x A34);g_1.2.1=g'.2.1/\A5+A14=(↑g'.1:Int)/\nat_lit 0=nat_lit 0/\nat_lit 0=nat_lit 0/\A6=A6 /\
 SV.ref A8 A22=SV.ref A8 A22/\A3/\(A2.n=A18.n /\ ∀ (i:Nat),i<A2.n->L.rcC (A2.g i)=L.rcC (A18.g i))/\A4.x=(A30.pts.g A21).x/\A4.y=(A30.pts.g A21).y/\A7.x=(A30.pts.g A25).x/\A7.y=(A30.pts.g A25).y/\(A6=(↑g'.2.2:Int)/\g'.1 <= A18.n/\L.okD s x A34/\(g'.2.1=false -> ∀ (j:Nat),j<g'.1->L.sdA x s g'.2.2 j=false))/\L.dqM s x g'.1 g'.2.1 g'.2.2
 < L.dqM s x g_1.1 g_1.2.1 g_1.2.2))/\(A15=false->((!g_1.2.1)=true->A24.n=A21/\false=L.dqH s x)/\((!g_1.2.1)=false->InK .i64 (A6+A14) /\ ∃ (g':Nat),A6+A14=(↑g':Int)/\SV.ref A8 A22=SV.ref A8 A22/\A3/\(A2.n=(L.dqL s x g').n /\ ∀ (i:Nat),i<A2.n->L.rcC (A2.g i)=L.rcC ((L.dqL s x g').g i))/\(g' <= x.n/\L.okD s x g')
 /\ x.n - g'<x.n - g))))/\(decide (A6<A19)=false->(A20.n=A24.n /\ ∀ (i:Nat),i<A20.n->L.rcC (A20.g i)=L.rcC (A24.g i))/\true=L.dqH s x)) (by kernel_rfl) (by
    conv=>zeta
    have hx:x.n <= 1000:=hp
    refine ⟨⟨0,rfl,⟨rfl,fun i hi=>?_⟩,Nat.zero_le _,okD_0 s x⟩,fun i hi=>⟨fun hc=>?_,fun hc=>?_⟩⟩
    ·have hi:i<1:=hi
     obtain rfl:i=0:=by omega
     rfl
    ·obtain ⟨hin,hok⟩:=hi
     have hc:(i:Int)<(x.n:Int):=of_decide_eq_true hc
     have hlt:i<x.n:=by omega
     have e0:((i:Int)).toNat=i:=Int.toNat_natCast i
     have c0:0 <= (i:Int)/\(i:Int)<(x.n:Int):=⟨Int.natCast_nonneg _,hc⟩
     have len:=dq_len hok
     rw [e0]
     refine ⟨c0,fun _=>c0,fun _=>c0,fun hb=>?_,fun hb=>?_⟩
     ·refine dq_none (dq_bad hok fun ha=>?_) hlt
      obtain ⟨a1,a2,a3⟩:=ha
      rw [a1,a2,a3] at hb
      simp at hb
     ·have ha : L.scA x s i := by
       unfold L.scA
       by_cases a1:(x.g i).kind=1 <;> by_cases a2:(x.g i).sheet=s.id <;> by_cases a3:((x.g i).pts.n:Int)=2 <;> simp [a1,a2,a3] at hb ⊢ <;> omega
      have c2:(0:Int) <= 0/\(0:Int)<((x.g i).pts.n:Int):=by have:=ha.2.2;omega
      have c3:(0:Int) <= 1/\(1:Int)<((x.g i).pts.n:Int):=by have:=ha.2.2;omega
      refine ⟨c0,c2,c0,c3,⟨(0,false,i),rfl,rfl,⟨rfl,fun _ _=>rfl⟩,rfl,rfl,rfl,rfl,rfl,Nat.zero_le _,hok,fun _ j hj=>absurd hj (Nat.not_lt_zero _)⟩,fun t ht=>?_⟩
      obtain ⟨k,f,i2⟩:=t
      obtain ⟨ti,tk,tok,tf⟩:=ht
      have ti:(i:Int)=(i2:Int):=ti
      obtain rfl:i=i2:=by omega
      have tk:k <= (L.dqL s x (L.dqI i f)).n:=tk
      have tok:L.okD s x (L.dqI i f):=tok
      have tf:f=false -> ∀ j,j<k->L.sdA x s i j=false:=tf
      have ln:(L.dqL s x (L.dqI i f)).n=L.dqI i f+1:=dq_len tok
      have lk:L.dqI i f <= i+1:=by unfold L.dqI;cases f <;> simp
      have tk':k <= 1002:=by have tk2:=tk;have ln2:(L.dqL s x (L.dqI i f)).n=L.dqI i f+1:=ln;omega
      have e1:((k:Int)).toNat=k:=Int.toNat_natCast k
      refine ⟨fun hg=>?_,fun hg=>?_⟩
      ·have hg:(bif decide ((k:Int)<((L.dqL s x (L.dqI i f)).n:Int)) then !f else false)=true:=hg
       cases f with
       | true=>cases hd:decide ((k:Int)<((L.dqL s x (L.dqI i true)).n:Int)) <;> rw [hd] at hg <;> cases hg
       | false =>
         have hkk:(k:Int)<((L.dqL s x i).n:Int):=by
          cases hd:decide ((k:Int)<((L.dqL s x (L.dqI i false)).n:Int)) with
          | true=>exact of_decide_eq_true hd
          | false=>rw [hd] at hg;cases hg
         have hk:k<(L.dqL s x i).n:=by omega
         show (0 <= (k:Int)/\(k:Int)<((L.dqL s x i).n:Int))/\_
         simp only [show L.dqI i false=i from rfl,e1,dq_side]
         have k0:0 <= (k:Int)/\(k:Int)<((L.dqL s x i).n:Int):=⟨Int.natCast_nonneg _,hkk⟩
         have k1:InK .i64 ((k:Int)+1):=jK
         have sz:((L.dqL s x i).n+1) * 32 <= 140737488355328:=by rw [len];omega
         refine ⟨k0,hk,fun hs=>⟨k0,hk,sz,k1,(k+1,true,i),?_⟩,fun hs=>⟨k1,(k+1,false,i),?_⟩⟩
         ·obtain ⟨q1,q2⟩:=dq_found hok ha hk (tf rfl) hs
          have l2:=dq_len q1
          have q3:(L.dqL s x i).n+1=(L.dqL s x (L.dqI i true)).n:=by show _=(L.dqL s x (i+1)).n;omega
          have q4:k+1 <= (L.dqL s x (L.dqI i true)).n:=by omega
          have q5:L.dqM s x (k+1) true i<L.dqM s x k false i:=by show (L.dqL s x (i+1)).n - (k+1)<(L.dqL s x i).n - k+1;omega
          have q6:L.okD s x (L.dqI i true):=q1
          exact (by (try dsimp only);(repeat' with_reducible apply And.intro) <;> first | with_reducible rfl | with_reducible assumption | with_reducible exact fun _=>rfl | with_reducible exact fun _ _=>rfl | with_reducible exact trivial | (intro _ _;exact trivial) | exact (fun (h:true=false)=>(by cases h)) | exact rfl | (intro _;exact rfl) | (intro _ _;exact rfl) | exact q2 | exact q3 | exact q4 | exact q5 | exact q6 | exact trivial | (intro _ h_;exact absurd h_ (Nat.not_lt_zero _)))
         ·have q3:k+1 <= (L.dqL s x (L.dqI i false)).n:=hk
          have q4:L.dqM s x (k+1) false i<L.dqM s x k false i:=by show (L.dqL s x i).n - (k+1)+1<(L.dqL s x i).n - k+1;omega
          have q5:false=false -> ∀ j,j<k+1->L.sdA x s i j=false:=fun _ j hj=>by
           rcases Nat.lt_succ_iff_lt_or_eq.1 hj with h | rfl
           ·exact tf rfl j h
           ·exact hs
          exact (by (try dsimp only);(repeat' with_reducible apply And.intro) <;> first | with_reducible rfl | with_reducible assumption | with_reducible exact fun _=>rfl | with_reducible exact fun _ _=>rfl | with_reducible exact trivial | (intro _ _;exact trivial) | exact rfl | (intro _;exact rfl) | (intro _ _;exact rfl) | exact hok | exact q3 | exact q4 | exact q5 | exact trivial | (intro _ h_;exact absurd h_ (Nat.not_lt_zero _)))
      ·have hg:(bif decide ((k:Int)<((L.dqL s x (L.dqI i f)).n:Int)) then !f else false)=false:=hg
       refine ⟨fun hf=>?_,fun hf=>?_⟩
       ·cases f with
        | true=>cases hf
        | false =>
          have hkk:¬ (k:Int)<((L.dqL s x i).n:Int):=by
           cases hd:decide ((k:Int)<((L.dqL s x (L.dqI i false)).n:Int)) with
           | false=>exact of_decide_eq_false hd
           | true=>rw [hd] at hg;cases hg
          exact dq_none (dq_not hok fun j hj=>tf rfl j (by omega)) hlt
       ·cases f with
        | false=>cases hf
        | true =>
          have k1:InK .i64 ((i:Int)+1):=jK
          have q6:L.okD s x (i+1):=tok
          have q7:i+1 <= x.n:=hlt
          have q8:x.n - (i+1)<x.n - i:=by omega
          exact ⟨k1,i+1,(by (try dsimp only);(repeat' with_reducible apply And.intro) <;> first | with_reducible rfl | with_reducible assumption | with_reducible exact fun _=>rfl | with_reducible exact fun _ _=>rfl | with_reducible exact trivial | exact rfl | (intro _;exact rfl) | (intro _ _;exact rfl) | exact q6 | exact q7 | exact q8 | exact trivial | (intro _ h_;exact absurd h_ (Nat.not_lt_zero _)))⟩
    ·have hc:¬ (i:Int)<(x.n:Int):=of_decide_eq_false hc
     obtain ⟨hin,hok⟩:=hi
     obtain rfl:i=x.n:=by omega
     exact ⟨⟨rfl,fun _ _=>rfl⟩,hok.symm⟩)
theorem w_divide_ok:SpecOk Tryz.prog 24 w_divide_S:=fnX Tryz.func24 (c:=bodyOf Tryz.f24) (by kernel_rfl) mixed (fun args p r hs hp=>by
 unfold w_divide_s at hs
 split at hs
 ·cases hs;exact ⟨_,_,w_divide_vc _ _ hp.2,(.same _ (.p (Score_ext hp.1) .nil)),⟨show SpecsL Tryz.prog _ from SpecsL.nil,rfl,⟨show ItersL Tryz.prog _ from ItersL.nil,(TrsOk.none (fun _=>rfl))⟩⟩⟩
 ·cases hs)
theorem w_divide_en:Enters Tryz.prog 24:=fun args w=>by kernel_rfl
end Go.Proofs.YtpgaejicfbpcmaaGreat
namespace Go.Proofs.YtpgaejicfbpcmaaGreat
open Go.SE Go.RowKit
set_option maxRecDepth 100000
set_option maxHeartbeats 4000000
set_option linter.unusedVariables false
attribute [local irreducible] vc
theorem vWant_ol {w:L.Want} (h:L.vWant w=true):L.validOutline w.ol=true:=by
 unfold L.vWant at h
 cases h1:L.within w.id 1 65535
 ·rw [h1] at h;cases h
 cases h2:L.within w.colour 1 16
 ·rw [h1,h2] at h;cases h
 cases h3:L.within w.grain 0 2
 ·rw [h1,h2,h3] at h;cases h
 rw [h1,h2,h3] at h
 exact h
end Go.Proofs.YtpgaejicfbpcmaaGreat
namespace Go.Proofs.YtpgaejicfbpcmaaGreat
open Go.SE Go.RowKit
set_option maxRecDepth 100000
set_option maxHeartbeats 4000000
set_option linter.unusedVariables false
attribute [local irreducible] vc
theorem dvR_noneA (id:Int):∀ (S T:List L.Score) (l:List L.Rc),L.dvR id l S=none->L.dvR id l (S ++ T)=none
 | [],_,_,h=>by cases h
 | x :: S,T,l,h=>by
   rw [List.cons_append,L.dvR]
   rw [L.dvR] at h
   cases hx:L.dvS id l x with
   | none=>rfl
   | some m=>rw [hx] at h;exact dvR_noneA id S T m h
theorem dqN_dvR (id:Int) (l:List L.Rc) (x:L.Sq L.Score):∀ k,L.dqN id l x k=L.dvR id l ((List.range k).map x.g)
 | 0=>rfl
 | k+1=>by
   rw [L.dqN,List.range_succ,List.map_append,dqN_dvR id l x k]
   cases h:L.dvR id l ((List.range k).map x.g) with
   | none=>rw [dvR_noneA id _ _ _ h]
   | some m =>
     rw [dvR_app id _ _ _ _ h]
     simp only [List.map_cons,List.map_nil,L.dvR]
     cases L.dvS id m (x.g k) <;> rfl
theorem sqC_map (S:List L.Score):(List.range S.length).map (L.sqC S).g=S:=by
 refine List.ext_getElem (by simp) fun i h1 h2=>?_
 rw [List.getElem_map,List.getElem_range]
 show S.getD i _=_
 rw [List.getD_eq_getElem?_getD,List.getElem?_eq_getElem h2];rfl
theorem posL_alls:((List.range 5).all fun n=>decide (L.posL (L.all n)=List.range n))=true:=by kernel_rfl
theorem posL_all {n:Nat} (h:n <= 4):L.posL (L.all n)=List.range n:=of_decide_eq_true (List.all_eq_true.1 posL_alls n (List.mem_range.2 (by omega)))
theorem Gd.nodup {l:List L.Rc} (h:Gd l):l.Nodup:=h.ap.imp_of_mem fun {a b} ha _ hab e=>by
 subst e
 have:=h.ne _ ha
 unfold L.apt at hab
 unfold L.neR at this
 omega
theorem laid_fact {w:L.Sq L.Want} {s:L.Sheet} (hv:L.vWants w=true) (hs:L.vSheet s=true) (hn:w.n <= 4) (hf:L.fitB w s=true) :
  ∃ l,L.dqO s (L.sqC (L.laidS w s)) (L.laidS w s).length=some l/\l.Nodup/\(∀ r,r ∈ l->L.neR r/\L.inR r (L.rcA (L.whA s)))/\L.arL l=s.w * s.h/\(∀ i,i<w.n->L.plOk w s (L.laidP w s) i/\L.ownR w (L.laidP w s) i ∈ l) /\ ∀ i j,i<w.n->j<w.n->L.ownR w (L.laidP w s) i=L.ownR w (L.laidP w s) j->i=j:=by
 obtain ⟨sw,_,sh,_,_,_,_,_⟩:=vSheet_bd hs
 obtain ⟨a1,a2,_,_⟩:=all_bd hn
 have eW:(⟨⟨0,0⟩,⟨s.w,s.h⟩⟩:L.Rc)=L.rcA (L.whA s):=by
  show _=(⟨⟨0,0⟩,⟨0+s.w,0+s.h⟩⟩:L.Rc)
  rw [Int.zero_add,Int.zero_add]
 have eR:L.dqO s (L.sqC (L.laidS w s)) (L.laidS w s).length=L.dvR s.id [L.rcA (L.whA s)] (L.laidS w s):=by
  unfold L.dqO
  rw [dqN_dvR,sqC_map,eW]
 have main:∃ X N M,L.laidS w s=X/\Dvs s.id (L.whA s) X N/\N.Perm ((List.range w.n).map (L.ownR w (L.laidP w s)) ++ M) /\ ∀ i,i<w.n->L.plOk w s (L.laidP w s) i:=by
  rcases Nat.eq_zero_or_pos w.n with h0 | h0
  ·have e : L.laidF w s = ⟨L.noP, []⟩ := by
    unfold L.laidF
    rw [h0]
    exact layF_0 w s _ _
   refine ⟨[],[L.rcA (L.whA s)],[L.rcA (L.whA s)],by unfold L.laidS;rw [e],Dvs.none s.id (by show 1 <= s.w;omega) (by show 1 <= s.h;omega),by rw [h0];exact List.Perm.refl _,fun i hi=>by omega⟩
  ·have ea:((L.all w.n).toNat:Int)=L.all w.n:=Int.toNat_of_nonneg a1
   have mem:∀ i,i<w.n ↔ i<4/\L.bitI (L.all w.n) i=true:=fun i=>by rw [<- posL_mem,posL_all hn,List.mem_range]
   have n1:1 <= (L.all w.n).toNat:=by
    rcases Nat.eq_zero_or_pos (L.all w.n).toNat with h | h
    ·have e0:L.all w.n=0:=by omega
     have:=((mem 0).1 h0).2
     rw [e0] at this
     exact absurd this (by decide)
    ·exact h
   have hfit:L.fits w s.grain (L.all w.n) (L.whA s).size:=by
    unfold L.fitB at hf
    cases hd:decide (L.fitE w s=0) with
    | false=>rw [hd] at hf;cases hf
    | true=>rw [hd,cond_true] at hf;exact roomB_iff.1 hf
   obtain ⟨X,N,M,e1,e2,e3,_,e5⟩:=lay_ok w s (L.all w.n).toNat n1 (by omega) (fun i hi hb=>by
    rw [ea] at hb
    exact vWant_ol (vWants_at hv ((mem i).2 ⟨hi,hb⟩)).1) (L.whA s) ⟨L.noP,[]⟩ (by show 1 <= s.w;omega) (by show 1 <= s.h;omega) (by rw [ea];exact hfit)
   rw [ea] at e1 e3 e5
   rw [posL_all hn] at e3
   refine ⟨X,N,M,?_,e2,e3,fun i hi=>?_⟩
   ·unfold L.laidS L.laidF
    rw [e1];rfl
   ·obtain ⟨h4,hb⟩:=(mem i).1 hi
    exact e5 i h4 hb
 obtain ⟨X,N,M,eX,dv,pm,pl⟩:=main
 have gd0:Gd [L.rcA (L.whA s)]:=(Dvs.none s.id (r:=L.whA s) (by show 1 <= s.w;omega) (by show 1 <= s.h;omega)).gd
 obtain ⟨l,hl,pl'⟩:=dv.run [L.rcA (L.whA s)] [] (List.Perm.refl _) gd0
 rw [List.append_nil] at pl'
 have hmem:∀ r,r ∈ l ↔ r ∈ N:=fun r=>pl'.mem_iff
 have nd:N.Nodup:=dv.gd.nodup
 have ndm:((List.range w.n).map (L.ownR w (L.laidP w s))).Nodup:=(List.nodup_append.1 (pm.nodup_iff.1 nd)).1
 refine ⟨l,by rw [eR,eX];exact hl,pl'.nodup_iff.2 nd,fun r hr=>⟨dv.gd.ne r ((hmem r).1 hr),dv.ins r ((hmem r).1 hr)⟩,?_,fun i hi=>⟨pl i hi,(hmem _).2 (pm.mem_iff.2 (List.mem_append_left _ (List.mem_map.2 ⟨i,List.mem_range.2 hi,rfl⟩)))⟩,fun i j hi hj e=>?_⟩
 ·rw [arL_perm pl',dv.ar]
  show (0+s.w - 0) * (0+s.h - 0)=_
  rw [Int.zero_add,Int.zero_add,Int.sub_zero,Int.sub_zero]
 ·have h:=List.pairwise_iff_getElem.1 ndm
  rcases Nat.lt_trichotomy i j with h' | h' | h'
  ·exact absurd (by rw [List.getElem_map,List.getElem_map,List.getElem_range,List.getElem_range];exact e) (h i j (by simpa using hi) (by simpa using hj) h')
  ·exact h'
  ·exact absurd (by rw [List.getElem_map,List.getElem_map,List.getElem_range,List.getElem_range];exact e.symm) (h j i (by simpa using hj) (by simpa using hi) h')
def L.arTo (l:L.Sq L.Rc):Nat->Int
 | 0=>0
 | k+1=>L.arTo l k+L.arR (l.g k)
theorem arTo_take {l:List L.Rc}:∀ k,k <= l.length->L.arTo (L.sqR l) k=L.arL (l.take k)
 | 0,_=>rfl
 | k+1,h=>by
   rw [L.arTo,arTo_take k (by omega),List.take_add_one,arL_app,List.getElem?_eq_getElem (by omega)]
   have:(L.sqR l).g k=l[k]:=by show l.getD k _=_;rw [List.getD_eq_getElem?_getD,List.getElem?_eq_getElem (by omega)];rfl
   rw [this]
   simp [L.arL]
theorem arL_nonneg {l:List L.Rc} (h:∀ r,r ∈ l->L.neR r):0 <= L.arL l:=by
 induction l with
 | nil=>exact Int.le_refl _
 | cons r l ih =>
   have:=ih fun r hr=>h r (List.mem_cons_of_mem _ hr)
   have hr:=h r (List.mem_cons_self ..)
   unfold L.neR at hr
   have:0 <= L.arR r:=Int.mul_nonneg (by omega) (by omega)
   show 0 <= L.arR r+L.arL l
   omega
theorem arTo_bd {l:List L.Rc} (h:∀ r,r ∈ l->L.neR r) {k:Nat} (hk:k <= l.length):0 <= L.arTo (L.sqR l) k/\L.arTo (L.sqR l) k <= L.arL l:=by
 rw [arTo_take k hk]
 have e:L.arL l=L.arL (l.take k)+L.arL (l.drop k):=by rw [<- arL_app,List.take_append_drop]
 have a:=arL_nonneg (l:=l.take k) fun r hr=>h r (List.mem_of_mem_take hr)
 have b:=arL_nonneg (l:=l.drop k) fun r hr=>h r (List.mem_of_mem_drop hr)
 omega
theorem arTo_all {l:List L.Rc}:L.arTo (L.sqR l) l.length=L.arL l:=by rw [arTo_take _ (Nat.le_refl _),List.take_length]
end Go.Proofs.YtpgaejicfbpcmaaGreat
namespace Go.Proofs.YtpgaejicfbpcmaaGreat
open Go.SE Go.RowKit
set_option maxRecDepth 100000
set_option maxHeartbeats 20000000
set_option linter.unusedVariables false
attribute [local irreducible] vc
def L.lyL (w:L.Sq L.Want) (s:L.Sheet):L.Sq L.Rc:=L.dqL s (L.lyS w s) (L.lyS w s).n
def L.arLeft (w:L.Sq L.Want) (s:L.Sheet) (i:Nat):Int:=s.w * s.h - L.arTo (L.lyL w s) i
def L.rcEq (a b:L.Rc):Bool:=(decide (a.a.x=b.a.x) && decide (a.a.y=b.a.y)) && (decide (a.b.x=b.b.x) && decide (a.b.y=b.b.y))
theorem rcEq_iff {a b:L.Rc}:L.rcEq a b=true ↔ a=b:=by
 obtain ⟨⟨a1,a2⟩,⟨a3,a4⟩⟩:=a
 obtain ⟨⟨b1,b2⟩,⟨b3,b4⟩⟩:=b
 unfold L.rcEq
 simp only [Bool.and_eq_true,decide_eq_true_eq,L.Rc.mk.injEq,L.Pt.mk.injEq]
def L.isOwn (w:L.Sq L.Want) (s:L.Sheet) (k i:Nat):Bool:=L.rcEq ((L.lyL w s).g k) (L.ownR w (L.laidP w s) i)
def L.usd (w:L.Sq L.Want) (s:L.Sheet) (i k:Nat):Bool:=L.anyB i fun j=>L.isOwn w s k j
def L.muU (n k:Nat) (f:Bool):Nat:=bif f then n - k else n - k+1
section
attribute [local irreducible] L.all L.tab L.few L.vWants L.badE L.lay L.layF L.laidF L.laidP L.laidS L.dqN
def w_Layouts_p (w:(L.Sq L.Want)) (s:L.Sheet):Prop:=True
def w_Layouts_r (w:(L.Sq L.Want)) (s:L.Sheet):SV:=.bool true
def w_Layouts_s:List EV->Option (Prop × SV)
 | [.p (.sl 4 w_n w_g),.p (.agg [.int .i64 s_id,.int .i64 s_colour,.int .i64 s_w,.int .i64 s_h,.int .i64 s_grain])]=>some ((∀ i,i<w_n->okWant (w_g i))/\w_Layouts_p (⟨w_n,fun i=>ofWant (w_g i)⟩:(L.Sq L.Want)) (⟨s_id,s_colour,s_w,s_h,s_grain⟩:L.Sheet),w_Layouts_r (⟨w_n,fun i=>ofWant (w_g i)⟩:(L.Sq L.Want)) (⟨s_id,s_colour,s_w,s_h,s_grain⟩:L.Sheet))
 | _=>none
abbrev w_Layouts_S:SE.Spec:=(specO w_Layouts_s)
def w_Layouts_C:Cfg:={ cC with muts:=[19,21,132],specs:=lookS [(12,w_awake_S),(13,w_few_S),(23,r5_ValidSheet_S),(19,c_Lay_S),(16,c_FitsIn_S),(24,w_divide_S),(25,c_Allowed_S),(26,c_BoxOf_S)] }
theorem w_Layouts_vc (w:(L.Sq L.Want)) (s:L.Sheet) (hp:w_Layouts_p w s):vc Tryz.prog ({ w_Layouts_C with loops:=lookL [(13,{ T:=Nat,keep:=[0,3,5,6,11],keepO:=[],chg:=fun i=>[(13,.p (.int .i64 (L.arLeft w s i))),(14,.p (.int .i64 (i:Int)))],own:=fun _=>[],inv:=fun i=>i <= (L.lyL w s).n,mu:=fun i=>(L.lyL w s).n - i }),(18,{ T:=Nat,keep:=[0,3,5,6,11,13,15],keepO:=[],chg:=fun i=>[(16,.p (.int .i64 (i:Int)))],own:=fun i=>[(132,.row 4 1 (L.lyL w s).n (fun k=>[.bool (L.usd w s i k)]))],inv:=fun i=>i <= w.n,mu:=fun i=>w.n - i }),(27,{ T:=Nat × Bool × Nat,keep:=[0,3,5,6,11,13,15,16,21],keepO:=[21],chg:=fun t=>[(22,.p (.bool t.2.1)),(23,.p (.int .i64 (t.1:Int)))],own:=fun t=>[(132,.row 4 1 (L.lyL w s).n (fun k=>[.bool (L.usd w s (L.dqI t.2.2 t.2.1) k)]))],inv:=fun t=>t.1 <= (L.lyL w s).n/\(t.2.1=false -> ∀ j,j<t.1->L.isOwn w s j t.2.2=false),mu:=fun t=>L.muU (L.lyL w s).n t.1 t.2.1,tie:=fun t=>[(16,.int .i64 (t.2.2:Int))] })],rfs:=lookR [] }) (bodyOf Tryz.f5) (st0 Tryz.f5 [.p (.sl 4 w.n (fun i=>[.int .i64 ((w.g i).id),.int .i64 ((w.g i).colour),.int .i64 ((w.g i).grain),.sl 2 (w.g i).ol.n (fun i1=>[.int .i64 (((w.g i).ol.g i1).x),.int .i64 (((w.g i).ol.g i1).y)])])),.p (.agg [.int .i64 s.id,.int .i64 s.colour,.int .i64 s.w,.int .i64 s.h,.int .i64 s.grain])]) (retFn Tryz.prog Tryz.f5 (w_Layouts_r w s)) :=
 @Eq.mpr _ (let I:=SV.int .i64;let T:=Int.toNat;let A42:=(1:Int);let A40:=(↑w.n:Int);let A34:=(L.lyS w s);let A33:=(↑(L.lyPn w s):Int);let A29:=(nat_lit 0);let A14:=(L.lyL w s);let A10:=[I s.id,I s.colour,I s.w,I s.h,I s.grain];let A8:=(∀ (i:Nat),i<w.n -> ∀ (i_1:Nat),let A39:=((w.g i).ol.g i_1);i_1<(w.g i).ol.n -> [I A39.x,I A39.y] = [I A39.x,I A39.y]);let A7:=(0:Int);let A43:=(!decide (L.lyE w s=A7));let A25:=(L.Sq.mk A29 fun (i:Nat)=>L.Sheet.mk A7 A7 A7 A7 A7);let A38:=(bif !L.few w A25 then true else !L.vSheet s);let A16:=(bif bif bif !L.dqH s A34 then true else !decide (A33=A40) then true else !L.fitB w s then true else !decide (L.fitE w s=A7));let A4:=(L.lyPn w s=L.lyPn w s /\ ∀ (i:Nat),let A35:=(L.laidP w s i);let A24:=[I A35.want,I A35.sheet,I A35.turn,I A35.at_.x,I A35.at_.y];i<L.lyPn w s->A24=A24);let A3:=(w.n=w.n /\ ∀ (i:Nat),let A20:=[I (w.g i).id,I (w.g i).colour,I (w.g i).grain,SV.sl (2:Nat) (w.g i).ol.n fun (i1:Nat)=>[I ((w.g i).ol.g i1).x,I ((w.g i).ol.g i1).y]];i<w.n->A20=A20);let A1:=(L.dqL s A34 A34.n);let A21:=(↑A1.n:Int);let A15:=(A1.n=A1.n /\ ∀ (i:Nat),i<A1.n->L.rcC (A1.g i)=L.rcC (A1.g i));True/\(A8/\(∀ (i:Nat),i<nat_lit 0 -> [] = [I A7,I A7,I A7,I A7,I A7])/\True)/\((!!L.few w A25)=true->True)/\(A38=true->true=true)/\(A38=false->(A8/\L.preW w)/\(A8/\L.preW w)/\(A43=true->(bif true then bif decide (L.lyE w s=L.fitE w s) then true else bif bif decide (L.lyE w s=(52:Int)) then decide (L.fitE w s=A7) else false then !L.fitB w s else false else false)=true)/\(A43=false->((∀ (i:Nat),i<A34.n -> ∀ (i_1:Nat),let A28:=((A34.g i).pts.g i_1);i_1<(A34.g i).pts.n -> [I A28.x,I A28.y] = [I A28.x,I A28.y])/\A34.n <= (1000:Nat))/\(A16=true->false=true)/\(A16=false->InK .i64 (s.w * s.h)/\(∃ (g:Nat),s.w * s.h=L.arLeft w s g/\A7=(↑g:Int)/\g <= A14.n) /\ ∀ (g:Nat),let A41:=(↑g:Int);let A27:=(A7 <= A41/\A41<A21);let A13:=(A1.g (T A41));let A37:=(A13.b.y - A13.a.y);let A36:=(A13.b.x - A13.a.x);g <= A14.n->(decide (A41<A21)=true->A27/\A27/\InK .i64 A36/\A27/\A27/\InK .i64 A37/\InK .i64 (A36 * A37)/\InK .i64 (L.arLeft w s g - A36 * A37)/\InK .i64 (A41+A42) /\ ∃ (g':Nat),L.arLeft w s g - A36 * A37=L.arLeft w s g'/\A41+A42=(↑g':Int)/\A15/\A4/\true=true/\SV.ref A10 A29=SV.ref A10 A29/\A3/\g' <= A14.n/\A14.n - g'<A14.n - g)/\(decide (A41<A21)=false->(A7 <= A21/\A21 <= A21/\A21 * (↑(nat_lit 1):Int) <= (140737488355328:Int))/\(∃ (g:Nat),A7=(↑g:Int)/\(T A21=A14.n /\ ∀ (i:Nat),i<T A21 -> [SV.bool false] = [SV.bool (L.usd w s g i)])/\g <= w.n) /\ ∀ (g_1:Nat),let A9:=(↑g_1:Int);let A22:=(A7 <= A9/\A9<A33);let A5:=(w.g (T A9));let A23:=((∀ (i:Nat),let A44:=[I (A5.ol.g i).x,I (A5.ol.g i).y];i<A5.ol.n->A44=A44)/\A5.ol.n <= (1000000:Nat));let A2:=(L.laidP w s (T A9));let A19:=(!bif bif !L.alwB A5 s.grain A2.turn then true else !decide (L.alwE A5 s.grain A2.turn=A7) then true else !decide (L.boxE A5 A2.turn=A7));let A17:=(L.boxOf A5 A2.turn);let A11:=(bif bif bif bif !L.alwB A5 s.grain A2.turn then true else !decide (L.alwE A5 s.grain A2.turn=A7) then true else !decide (L.boxE A5 A2.turn=A7) then true else !decide (A2.want=A5.id) then true else !decide (A2.sheet=s.id));g_1 <= w.n->(decide (A9<A40)=true->(A7 <= A9/\A9<A40)/\A22/\A23/\(A7 <= A9/\A9<A40)/\A22/\A23/\(A19=true->A7 <= A9/\A9<A33)/\(A19=true->A7 <= A9/\A9<A40)/\((!bif bif bif !L.alwB A5 s.grain A2.turn then true else !decide (L.alwE A5 s.grain A2.turn=A7) then true else !decide (L.boxE A5 A2.turn=A7) then true else !decide (A2.want=A5.id))=true->A7 <= A9/\A9<A33)/\(A11=true->false=true)/\(A11=false->A22/\A22/\InK .i64 (A2.at_.x+A17.w)/\A22/\InK .i64 (A2.at_.y+A17.h)/\(∃ (g:Nat × Bool × Nat),false=g.2.1/\A7=(↑g.1:Int)/\(A14.n=A14.n /\ ∀ (i:Nat),i<A14.n -> [SV.bool (L.usd w s g_1 i)] = [SV.bool (L.usd w s (L.dqI g.2.2 g.2.1) i)])/\A9=(↑g.2.2:Int)/\g.1 <= A14.n/\(g.2.1=false -> ∀ (j:Nat),j<g.1->L.isOwn w s j g.2.2=false)) /\ ∀ (g_2:Nat × Bool × Nat),let A31:=(L.dqI g_2.2.2 g_2.2.1);let A12:=(↑g_2.1:Int);let A32:=(A1.g (T A12));let A30:=(bif decide (A12<A21) then !g_2.2.1 else false);let A6:=(decide (A32.b.x=A2.at_.x+A17.w) && decide (A32.b.y=A2.at_.y+A17.h));let A26:=(decide (A32.a.x=A2.at_.x) && decide (A32.a.y=A2.at_.y) && A6);let A18:=(bif decide (A32.a.x=A2.at_.x) && decide (A32.a.y=A2.at_.y) && A6 then !L.usd w s A31 (T A12) else false);A9=(↑g_2.2.2:Int)/\g_2.1 <= A14.n/\(g_2.2.1=false -> ∀ (j:Nat),j<g_2.1->L.isOwn w s j g_2.2.2=false)->(A30=true->(A7 <= A12/\A12<A21)/\(A26=true->A7 <= A12/\A12<(↑A14.n:Int))/\(A26=true->T A12<A14.n)/\(A18=true->(A7 <= A12/\A12<(↑A14.n:Int))/\T A12<A14.n/\InK .i64 (A12+A42) /\ ∃ (g':Nat × Bool × Nat),true=g'.2.1/\A12+A42=(↑g'.1:Int)/\nat_lit 0=nat_lit 0/\A9=A9/\L.arLeft w s g=L.arLeft w s g/\A15/\A4/\true=true/\SV.ref A10 A29=SV.ref A10 A29/\A3/\(A14.n=A14.n /\ ∀ (i:Nat),i<A14.n->setRow (fun (k:Nat)=>[SV.bool (L.usd w s A31 k)]) (T A12) A29 [SV.bool true] i = [SV.bool (L.usd w s (L.dqI g'.2.2 g'.2.1) i)])/\A2.at_.x=A2.at_.x/\A2.at_.y=A2.at_.y/\A2.at_.x+A17.w=A2.at_.x+A17.w/\A2.at_.y+A17.h=A2.at_.y+A17.h/\(A9=(↑g'.2.2:Int)/\g'.1 <= A14.n/\(g'.2.1=false -> ∀ (j:Nat),j<g'.1->L.isOwn w s j g'.2.2=false))/\L.muU A14.n g'.1 g'.2.1<L.muU A14.n g_2.1 g_2.2.1)/\(A18=false->InK .i64 (A12+A42) /\ ∃ (g':Nat × Bool × Nat),g_2.2.1=g'.2.1/\A12+A42=(↑g'.1:Int)/\nat_lit 0=nat_lit 0/\A9=A9/\L.arLeft w s g=L.arLeft w s g/\A15/\A4/\true=true/\SV.ref A10 A29=SV.ref A10 A29/\A3/\(A14.n=A14.n /\ ∀ (i:Nat),i<A14.n -> [SV.bool (L.usd w s A31 i)] = [SV.bool (L.usd w s (L.dqI g'.2.2 g'.2.1) i)])/\A2.at_.x=A2.at_.x/\A2.at_.y=A2.at_.y/\A2.at_.x+A17.w=A2.at_.x+A17.w/\A2.at_.y+A17.h=A2.at_.y+A17.h/\(A9=(↑g'.2.2:Int)/\g'.1 <= A14.n/\(g'.2.1=false -> ∀ (j:Nat),j<g'.1->L.isOwn w s j g'.2.2=false))/\L.muU A14.n g'.1 g'.2.1<L.muU A14.n g_2.1 g_2.2.1))/\(A30=false->((!g_2.2.1)=true->false=true)/\((!g_2.2.1)=false->InK .i64 (A9+A42) /\ ∃ (g':Nat),A9+A42=(↑g':Int)/\L.arLeft w s g=L.arLeft w s g/\A15/\A4/\true=true/\SV.ref A10 A29=SV.ref A10 A29/\A3/\(A14.n=A14.n /\ ∀ (i:Nat),i<A14.n -> [SV.bool (L.usd w s A31 i)] = [SV.bool (L.usd w s g' i)])/\g' <= w.n/\w.n - g'<w.n - g_1))))/\(decide (A9<A40)=false->(bif true then decide (L.arLeft w s g=A7) else false)=true)))))) (by kernel_rfl) (by
 conv=>zeta
 have ol:∀ i,i<w.n -> ∀ j,j<(w.g i).ol.n -> [SV.int .i64 ((w.g i).ol.g j).x,SV.int .i64 ((w.g i).ol.g j).y] = [SV.int .i64 ((w.g i).ol.g j).x,SV.int .i64 ((w.g i).ol.g j).y]:=fun _ _ _ _=>rfl
 refine ⟨trivial,⟨ol,fun i hi=>absurd hi (Nat.not_lt_zero _),trivial⟩,fun _=>trivial,fun _=>rfl,fun hf=>?_⟩
 have hfew:L.few w (L.Sq.mk 0 fun _=>L.Sheet.mk 0 0 0 0 0)=true:=by
  cases e:L.few w (L.Sq.mk 0 fun _=>L.Sheet.mk 0 0 0 0 0) with
  | true=>rfl
  | false=>rw [e] at hf;cases hf
 have hs:L.vSheet s=true:=by
  rw [hfew] at hf
  cases e:L.vSheet s with
  | true=>rfl
  | false=>rw [e] at hf;cases hf
 obtain ⟨hpre,hn20,_,_⟩:=few_pre hfew
 refine ⟨⟨ol,hpre⟩,⟨ol,hpre⟩,fun he=>?_,fun he=>?_⟩
 ·have he:¬ L.lyE w s=0:=of_decide_eq_false (notT he)
  by_cases h0:L.fitE w s=0
  ·have e1:L.lyE w s=bif !L.fitB w s then 52 else 0:=by unfold L.lyE;rw [decide_eq_true h0];rfl
   cases hb:L.fitB w s with
   | true=>rw [hb] at e1;exact absurd e1 he
   | false =>
     rw [hb] at e1
     have e1:L.lyE w s=52:=e1
     rw [e1,h0];rfl
  ·have e1:L.lyE w s=L.fitE w s:=by unfold L.lyE;rw [decide_eq_false h0];rfl
   rw [e1,decide_eq_true rfl];rfl
 have hl0:L.lyE w s=0:=of_decide_eq_true (notF he)
 have h0:L.fitE w s=0:=by
  refine Decidable.byContradiction fun h=>?_
  have e1:L.lyE w s=L.fitE w s:=by unfold L.lyE;rw [decide_eq_false h];rfl
  exact h (e1.symm.trans hl0)
 have hB:L.fitB w s=true:=by
  cases hb:L.fitB w s with
  | true=>rfl
  | false =>
    have e1:L.lyE w s=52:=by unfold L.lyE;rw [decide_eq_true h0,hb];rfl
    rw [hl0] at e1;exact absurd e1 (by decide)
 have eP:L.lyPn w s=w.n:=by unfold L.lyPn;rw [hl0];rfl
 have eS:L.lyS w s=L.sqC (L.laidS w s):=by unfold L.lyS;rw [hl0];rfl
 obtain ⟨hv,-,-,h7,-⟩:=badE_0 h0
 have okw:=okW_of hpre h7
 have hn4:=okw.1
 obtain ⟨a1,a2,_,_⟩:=all_bd hn4
 obtain ⟨sw1,sw2,sh1,sh2,_,_,_,_⟩:=vSheet_bd hs
 obtain ⟨l,hl,nd,inn,ar,own,inj⟩:=laid_fact hv hs hn4 hB
 have len:(L.laidS w s).length <= 44:=by
  have:=layF_len w s (L.all w.n) (L.whA s) ⟨L.noP,[]⟩ a1 a2
  have e:(L.laidF w s).sc.length=(L.laidS w s).length:=by unfold L.laidS;rfl
  have e2:L.laidF w s=L.layF w s (L.all w.n) (L.whA s) ⟨L.noP,[]⟩:=by unfold L.laidF;rfl
  rw [<- e,e2]
  have e3:([]:List L.Score).length=0:=rfl
  simp only at this
  omega
 have nS:(L.lyS w s).n=(L.laidS w s).length:=by rw [eS];rfl
 have eO:L.dqO s (L.lyS w s) (L.lyS w s).n=some l:=by rw [nS,eS];exact hl
 have eH:L.dqH s (L.lyS w s)=true:=by unfold L.dqH;rw [eO];rfl
 have okd:L.okD s (L.lyS w s) (L.lyS w s).n:=by unfold L.okD;rw [eO];rfl
 have lenL:=dq_len okd
 have eL:L.dqL s (L.lyS w s) (L.lyS w s).n=L.lyL w s:=rfl
 rw [eL] at lenL ⊢
 have eR:L.lyL w s=L.sqR l:=by unfold L.lyL L.dqL;rw [eO];rfl
 have nL:(L.lyL w s).n=l.length:=by rw [eR];rfl
 have gk:∀ k,(hk:k<l.length)->(L.lyL w s).g k=l[k]:=fun k hk=>by rw [eR];show l.getD k _=_;rw [List.getD_eq_getElem?_getD,List.getElem?_eq_getElem hk];rfl
 have nn:(L.lyL w s).n <= 45:=by omega
 have area0:0 <= s.w * s.h/\s.w * s.h <= 16777216:=⟨Int.mul_nonneg (by omega) (by omega),by
  have:=Int.mul_le_mul sw2 sh2 (by omega) (by omega)
  omega⟩
 have arb:∀ i,i <= l.length->0 <= L.arTo (L.lyL w s) i/\L.arTo (L.lyL w s) i <= s.w * s.h:=fun i hi=>by
  rw [eR,<- ar];exact arTo_bd (fun r hr=>(inn r hr).1) hi
 have arE:L.arTo (L.lyL w s) l.length=s.w * s.h:=by rw [eR,arTo_all,ar]
 refine ⟨⟨fun _ _ _ _=>rfl,by rw [nS];omega⟩,fun h=>?_,fun _=>⟨jK,⟨0,?_,rfl,Nat.zero_le _⟩,fun i hi=>⟨fun hc=>?_,fun hc=>?_⟩⟩⟩
 ·rw [eH,eP,hB,h0,decide_eq_true rfl] at h
  cases h
 ·unfold L.arLeft L.arTo;rw [Int.sub_zero]
 ·have hc:(i:Int)<((L.lyL w s).n:Int):=of_decide_eq_true hc
  have hlt:i<l.length:=by omega
  have e0:((i:Int)).toNat=i:=Int.toNat_natCast i
  have c0:0 <= (i:Int)/\(i:Int)<((L.lyL w s).n:Int):=⟨Int.natCast_nonneg _,hc⟩
  have k1:InK .i64 ((i:Int)+1):=jK
  rw [e0]
  have hin:=inn _ (List.getElem_mem hlt)
  rw [<- gk i hlt] at hin
  have a3:=arb i (by omega)
  have a4:=arb (i+1) (by omega)
  have st:L.arTo (L.lyL w s) (i+1)=L.arTo (L.lyL w s) i+(((L.lyL w s).g i).b.x - ((L.lyL w s).g i).a.x) * (((L.lyL w s).g i).b.y - ((L.lyL w s).g i).a.y):=rfl
  have ne:=hin.1
  have ii:=hin.2
  have i1:0 <= ((L.lyL w s).g i).a.x:=ii.1
  have i2:0 <= ((L.lyL w s).g i).a.y:=ii.2.1
  have i3:((L.lyL w s).g i).b.x <= 0+s.w:=ii.2.2.1
  have i4:((L.lyL w s).g i).b.y <= 0+s.h:=ii.2.2.2
  have n1:((L.lyL w s).g i).a.x<((L.lyL w s).g i).b.x:=ne.1
  have n2:((L.lyL w s).g i).a.y<((L.lyL w s).g i).b.y:=ne.2
  have aL:L.arLeft w s i - (((L.lyL w s).g i).b.x - ((L.lyL w s).g i).a.x) * (((L.lyL w s).g i).b.y - ((L.lyL w s).g i).a.y)=L.arLeft w s (i+1):=by
   unfold L.arLeft;rw [st];omega
  have aB:∀ j,j <= l.length->InK .i64 (L.arLeft w s j):=fun j hj=>by
   have:=arb j hj
   unfold L.arLeft
   exact jK
  generalize hM:(((L.lyL w s).g i).b.x - ((L.lyL w s).g i).a.x) * (((L.lyL w s).g i).b.y - ((L.lyL w s).g i).a.y)=m at *
  have kM:InK .i64 m:=jK
  rw [aL]
  refine ⟨c0,c0,jK,c0,c0,jK,kM,aB _ (by omega),k1,i+1,?_⟩
  have g1:i+1 <= (L.lyL w s).n:=by omega
  have g2:(L.lyL w s).n - (i+1)<(L.lyL w s).n - i:=by omega
  have cn:(i:Int)+1=((i+1:Nat):Int):=by omega
  exact (by (try dsimp only);(repeat' with_reducible apply And.intro) <;> first | with_reducible rfl | with_reducible assumption | with_reducible exact fun _=>rfl | with_reducible exact fun _ _=>rfl | with_reducible exact trivial | exact rfl | (intro _;exact rfl) | (intro _ _;exact rfl) | exact cn | exact g1 | exact g2 | exact trivial | (intro _ h_;exact absurd h_ (Nat.not_lt_zero _)))
 ·have hc:¬ (i:Int)<((L.lyL w s).n:Int):=of_decide_eq_false hc
  obtain rfl:i=(L.lyL w s).n:=by omega
  rw [Int.toNat_natCast]
  refine ⟨⟨by omega,Int.le_refl _,by show _ * (1:Int) <= _;omega⟩,⟨0,rfl,⟨rfl,fun _ _=>rfl⟩,(by (try dsimp only);(repeat' with_reducible apply And.intro) <;> first | with_reducible rfl | with_reducible exact Nat.zero_le _ | with_reducible exact fun _=>rfl | with_reducible exact fun _ _=>rfl | with_reducible exact trivial | exact rfl | (intro _;exact rfl) | (intro _ _;exact rfl) | exact Nat.zero_le _ | exact trivial | (intro _ h_;exact absurd h_ (Nat.not_lt_zero _)))⟩,fun i hi=>⟨fun hc=>?_,fun hc=>?_⟩⟩
  rotate_left
  ·unfold L.arLeft
   rw [nL,arE,Int.sub_self];rfl
  have hc:(i:Int)<(w.n:Int):=of_decide_eq_true hc
  have hlt:i<w.n:=by omega
  have e0:((i:Int)).toNat=i:=Int.toNat_natCast i
  have c0:0 <= (i:Int)/\(i:Int)<(w.n:Int):=⟨Int.natCast_nonneg _,hc⟩
  have k1:InK .i64 ((i:Int)+1):=jK
  have hol:(∀ j,j<(w.g i).ol.n -> [SV.int .i64 ((w.g i).ol.g j).x,SV.int .i64 ((w.g i).ol.g j).y] = [SV.int .i64 ((w.g i).ol.g j).x,SV.int .i64 ((w.g i).ol.g j).y])/\(w.g i).ol.n <= 1000000:=⟨fun _ _=>rfl,okw.2 i hlt⟩
  obtain ⟨⟨p1,p2,p3,p4⟩,om⟩:=own i hlt
  have vw:=(vWants_at hv hlt).1
  have wt:L.within (L.laidP w s i).turn 0 1=true:=by rcases p3 with h | h <;> rw [h] <;> rfl
  have q1:L.alwB (w.g i) s.grain (L.laidP w s i).turn=true:=by unfold L.alwB L.badGT;rw [vw,vSheet_gr hs,wt];exact p4
  have q2:L.alwE (w.g i) s.grain (L.laidP w s i).turn=0:=by unfold L.alwE L.badGT;rw [vw,vSheet_gr hs,wt];rfl
  have q3:L.boxE (w.g i) (L.laidP w s i).turn=0:=by unfold L.boxE;rw [vw,wt];rfl
  have q6:L.boxOf (w.g i) (L.laidP w s i).turn=L.box (w.g i).ol (L.laidP w s i).turn:=by unfold L.boxOf;rw [q3];rfl
  have io:=inn _ om
  have i1:0 <= (L.laidP w s i).at_.x:=io.2.1
  have i2:0 <= (L.laidP w s i).at_.y:=io.2.2.1
  have i3:(L.laidP w s i).at_.x+(L.box (w.g i).ol (L.laidP w s i).turn).w <= 0+s.w:=io.2.2.2.1
  have i4:(L.laidP w s i).at_.y+(L.box (w.g i).ol (L.laidP w s i).turn).h <= 0+s.h:=io.2.2.2.2
  have n1:(L.laidP w s i).at_.x<(L.laidP w s i).at_.x+(L.box (w.g i).ol (L.laidP w s i).turn).w:=io.1.1
  have n2:(L.laidP w s i).at_.y<(L.laidP w s i).at_.y+(L.box (w.g i).ol (L.laidP w s i).turn).h:=io.1.2
  have kx:InK .i64 ((L.laidP w s i).at_.x+(L.box (w.g i).ol (L.laidP w s i).turn).w):=jK
  have ky:InK .i64 ((L.laidP w s i).at_.y+(L.box (w.g i).ol (L.laidP w s i).turn).h):=jK
  have isO:∀ k,k<l.length -> ∀ j,L.isOwn w s k j=true ↔ (L.lyL w s).g k=L.ownR w (L.laidP w s) j:=fun k hk j=>by unfold L.isOwn;exact rcEq_iff
  have us:∀ k,L.usd w s (i+1) k=(L.usd w s i k || L.isOwn w s k i):=fun k=>by unfold L.usd;rw [L.anyB]
  rw [e0,eP,q6,q3,q2,q1,p1,p2]
  refine ⟨c0,c0,hol,c0,c0,hol,fun _=>c0,fun _=>c0,fun _=>c0,fun h=>?_,fun _=>⟨c0,c0,kx,c0,ky,⟨(0,false,i),(by (try dsimp only);(repeat' with_reducible apply And.intro) <;> first | with_reducible rfl | with_reducible exact Nat.zero_le _ | with_reducible exact fun _=>rfl | with_reducible exact fun _ _=>rfl | with_reducible exact trivial | (intro _ j hj;exact absurd hj (Nat.not_lt_zero _)) | exact rfl | (intro _;exact rfl) | (intro _ _;exact rfl) | exact Nat.zero_le _ | exact trivial | (intro _ h_;exact absurd h_ (Nat.not_lt_zero _)))⟩,fun t ht=>?_⟩⟩
  ·rw [decide_eq_true rfl,decide_eq_true rfl,decide_eq_true rfl] at h;cases h
  obtain ⟨k,f,i2⟩:=t
  obtain ⟨ti,tk,tf⟩:=ht
  have ti:(i:Int)=(i2:Int):=ti
  obtain rfl:i=i2:=by omega
  have tk:k <= (L.lyL w s).n:=tk
  have tf:f=false -> ∀ j,j<k->L.isOwn w s j i=false:=tf
  have e1:((k:Int)).toNat=k:=Int.toNat_natCast k
  refine ⟨fun hg=>?_,fun hg=>?_⟩
  ·have hg:(bif decide ((k:Int)<((L.lyL w s).n:Int)) then !f else false)=true:=hg
   cases f with
   | true=>cases hd:decide ((k:Int)<((L.lyL w s).n:Int)) <;> rw [hd] at hg <;> cases hg
   | false =>
     have hkk:(k:Int)<((L.lyL w s).n:Int):=by
      cases hd:decide ((k:Int)<((L.lyL w s).n:Int)) with
      | true=>exact of_decide_eq_true hd
      | false=>rw [hd] at hg;cases hg
     have hk:k<(L.lyL w s).n:=by omega
     have hk':k<l.length:=by omega
     have k0:0 <= (k:Int)/\(k:Int)<((L.lyL w s).n:Int):=⟨Int.natCast_nonneg _,hkk⟩
     have k1:InK .i64 ((k:Int)+1):=jK
     have cn:(k:Int)+1=((k+1:Nat):Int):=by omega
     have g1:k+1 <= (L.lyL w s).n:=hk
     have eI:((decide (((L.lyL w s).g k).a.x=(L.laidP w s i).at_.x) && decide (((L.lyL w s).g k).a.y=(L.laidP w s i).at_.y)) && (decide (((L.lyL w s).g k).b.x=(L.laidP w s i).at_.x+(L.box (w.g i).ol (L.laidP w s i).turn).w) && decide (((L.lyL w s).g k).b.y=(L.laidP w s i).at_.y+(L.box (w.g i).ol (L.laidP w s i).turn).h)))=L.isOwn w s k i:=rfl
     dsimp only
     rw [e1,eI]
     have sub:∀ j,L.isOwn w s k i=true->L.isOwn w s k j=true->(j<w.n->i=j):=fun j h1 h2 hj=>inj i j hlt hj (((isO k hk' i).1 h1).symm.trans ((isO k hk' j).1 h2))
     have un:L.isOwn w s k i=true->L.usd w s i k=false:=fun h1=>by
      cases hu:L.usd w s i k with
      | false=>rfl
      | true =>
        obtain ⟨j,hj,h2⟩:=anyB_iff.1 hu
        have:=sub j h1 h2 (by omega)
        omega
     refine ⟨k0,fun _=>k0,fun _=>hk,fun hs1=>⟨k0,hk,k1,(k+1,true,i),?_⟩,fun hs1=>⟨k1,(k+1,false,i),?_⟩⟩
     ·have h1 : L.isOwn w s k i = true := by
       cases h:L.isOwn w s k i with
       | true=>rfl
       | false=>rw [h] at hs1;cases hs1
      have rows:∀ j,j<(L.lyL w s).n->setRow (fun (k:Nat)=>[SV.bool (L.usd w s (L.dqI i false) k)]) k 0 [SV.bool true] j = [SV.bool (L.usd w s (L.dqI i true) j)]:=fun j hj=>by
       show setRow (fun (k:Nat)=>[SV.bool (L.usd w s i k)]) k 0 [SV.bool true] j = [SV.bool (L.usd w s (i+1) j)]
       unfold setRow
       rw [us]
       by_cases e:j=k
       ·subst e
        rw [if_pos rfl,h1,Bool.or_true];rfl
       ·rw [if_neg e]
        have:L.isOwn w s j i=false:=by
         cases h:L.isOwn w s j i with
         | false=>rfl
         | true =>
           exfalso
           have a:=(isO j (by omega) i).1 h
           have b:=(isO k hk' i).1 h1
           rw [gk j (by omega)] at a
           rw [gk k hk'] at b
           have q:=List.pairwise_iff_getElem.1 nd
           rcases Nat.lt_or_gt_of_ne e with h' | h'
           ·exact q j k (by omega) hk' h' (a.trans b.symm)
           ·exact q k j hk' (by omega) h' (b.trans a.symm)
        rw [this,Bool.or_false]
      have mu:L.muU (L.lyL w s).n (k+1) true<L.muU (L.lyL w s).n k false:=by show (L.lyL w s).n - (k+1)<(L.lyL w s).n - k+1;omega
      exact (by (try dsimp only);(repeat' with_reducible apply And.intro) <;> first | with_reducible rfl | with_reducible assumption | with_reducible exact fun _=>rfl | with_reducible exact fun _ _=>rfl | with_reducible exact trivial | exact (fun (h:true=false)=>(by cases h)) | exact rfl | (intro _;exact rfl) | (intro _ _;exact rfl) | exact rows | exact cn | exact g1 | exact mu | exact trivial | (intro _ h_;exact absurd h_ (Nat.not_lt_zero _)))
     ·have h1 : L.isOwn w s k i = false := by
       cases h:L.isOwn w s k i with
       | false=>rfl
       | true =>
         have hs1:(bif L.isOwn w s k i then !L.usd w s i k else false)=false:=hs1
         rw [h,un h] at hs1;cases hs1
      have mu:L.muU (L.lyL w s).n (k+1) false<L.muU (L.lyL w s).n k false:=by show (L.lyL w s).n - (k+1)+1<(L.lyL w s).n - k+1;omega
      have nx:false=false -> ∀ j,j<k+1->L.isOwn w s j i=false:=fun _ j hj=>by
       rcases Nat.lt_succ_iff_lt_or_eq.1 hj with h | rfl
       ·exact tf rfl j h
       ·exact h1
      exact (by (try dsimp only);(repeat' with_reducible apply And.intro) <;> first | with_reducible rfl | with_reducible assumption | with_reducible exact fun _=>rfl | with_reducible exact fun _ _=>rfl | with_reducible exact trivial | exact rfl | (intro _;exact rfl) | (intro _ _;exact rfl) | exact cn | exact g1 | exact mu | exact nx | exact trivial | (intro _ h_;exact absurd h_ (Nat.not_lt_zero _)))
  ·have hg:(bif decide ((k:Int)<((L.lyL w s).n:Int)) then !f else false)=false:=hg
   refine ⟨fun hf=>?_,fun hf=>?_⟩
   ·exfalso
    cases f with
    | true=>cases hf
    | false =>
      have hkk:¬ (k:Int)<((L.lyL w s).n:Int):=by
       cases hd:decide ((k:Int)<((L.lyL w s).n:Int)) with
       | false=>exact of_decide_eq_false hd
       | true=>rw [hd] at hg;cases hg
      obtain ⟨j,hj,e⟩:=List.getElem_of_mem om
      have h1:=(isO j hj i).2 (by rw [gk j hj];exact e)
      rw [tf rfl j (by omega)] at h1
      cases h1
   ·cases f with
    | false=>cases hf
    | true =>
      have g1:i+1 <= w.n:=hlt
      have g2:w.n - (i+1)<w.n - i:=by omega
      have cn:(i:Int)+1=((i+1:Nat):Int):=by omega
      exact ⟨k1,i+1,(by (try dsimp only);(repeat' with_reducible apply And.intro) <;> first | with_reducible rfl | with_reducible assumption | with_reducible exact fun _=>rfl | with_reducible exact fun _ _=>rfl | with_reducible exact trivial | exact rfl | (intro _;exact rfl) | (intro _ _;exact rfl) | exact cn | exact g1 | exact g2 | exact trivial | (intro _ h_;exact absurd h_ (Nat.not_lt_zero _)))⟩)
theorem w_Layouts_ok:SpecOk Tryz.prog 5 w_Layouts_S:=fnX Tryz.func5 (c:=bodyOf Tryz.f5) (by kernel_rfl) mixed (fun args p r hs hp=>by
 unfold w_Layouts_s at hs
 split at hs
 ·cases hs;exact ⟨_,_,w_Layouts_vc _ _ hp.2,(.p (Want_ext hp.1) (.same _ .nil)),⟨show SpecsL Tryz.prog _ from (SpecsL.cons w_awake_ok w_awake_en (SpecsL.cons w_few_ok w_few_en (SpecsL.cons r5_ValidSheet_ok r5_ValidSheet_en (SpecsL.cons c_Lay_ok c_Lay_en (SpecsL.cons c_FitsIn_ok c_FitsIn_en (SpecsL.cons w_divide_ok w_divide_en (SpecsL.cons c_Allowed_ok c_Allowed_en (SpecsL.cons c_BoxOf_ok c_BoxOf_en SpecsL.nil)))))))),rfl,⟨show ItersL Tryz.prog _ from ItersL.nil,(TrsOk.none (fun _=>rfl))⟩⟩⟩
 ·cases hs)
end
end Go.Proofs.YtpgaejicfbpcmaaGreat
