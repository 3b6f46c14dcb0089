/- A symbolic walk over the model, and what it shows of functions of the program: parts of the proof that the text of the row joins. -/
import Derived.Test.YtpgaejicfbpcmaaGreatW2
import Derived.Test.YtpgaejicfbpcmaaGreatE5
import Derived.KernelRfl
import Derived.Test.YtpgaejicfbpcmaaGreatW1
import Derived.Test.YtpgaejicfbpcmaaGreatW3
namespace Go.Proofs.YtpgaejicfbpcmaaGreat
open Go.SE Go.RowKit
set_option maxRecDepth 100000
set_option maxHeartbeats 4000000
set_option linter.unusedVariables false
attribute [local irreducible] vc
def L.lenI (l:List Int):Nat:=l.length
def L.isLt (a b:Nat):Bool:=decide (a<b)
def L.sqI (l:List Int):L.Sq Int:=⟨l.length,fun i=>l.getD i 0⟩
structure L.AS where
 fd:Bool
 ls:Int
 bt:List Int
def L.wider (g:Int) (i:Nat):Int:=L.ior g (L.ishl 1 i)
def L.asNo (w:L.Sq L.Want) (s:L.Sq L.Sheet) (G:Nat->Int) (i k:Nat):Bool:=bif !decide ((s.g k).colour=(w.g i).colour) then true else !L.roomB w (s.g k).grain (L.wider (G k) i) ⟨(s.g k).w,(s.g k).h⟩
def L.asM (s:L.Sq L.Sheet) (G:Nat->Int) (k:Nat):Int:=bif decide (G k=0) then (s.g k).w * (s.g k).h else 0
def L.asG (G:Nat->Int) (k i:Nat):Nat->Int:=fun j=>if j=k then L.wider (G k) i else G j
def L.snocI (l:List Int) (k:Int):List Int:=l ++ [k]
def L.asP (w:L.Sq L.Want) (s:L.Sq L.Sheet):Nat->Nat->List Int->Int->(Nat->Int)->L.AS->L.AS
 | 0,_,_,_,_,st=>st
 | f+1,i,A,sum,G,st=>if (st.fd && decide (st.ls <= sum))=true then st else if i=w.n then ⟨true,sum,A⟩ else
   (List.range s.n).foldl (fun st k=>bif L.asNo w s G i k then st else L.asP w s f (i+1) (L.snocI A k) (sum+L.asM s G k) (L.asG G k i) st) st
def L.putF (w:L.Sq L.Want) (s:L.Sq L.Sheet) (i:Nat) (A:List Int) (sum:Int) (G:Nat->Int) (st:L.AS):L.AS:=L.asP w s (w.n+1 - i) i A sum G st
def L.putK (w:L.Sq L.Want) (s:L.Sq L.Sheet) (i:Nat) (A:List Int) (sum:Int) (G:Nat->Int) (st:L.AS) (k:Nat):L.AS:=(List.range k).foldl (fun st k=>bif L.asNo w s G i k then st else L.putF w s (i+1) (L.snocI A k) (sum+L.asM s G k) (L.asG G k i) st) st
theorem putK_succ (w:L.Sq L.Want) (s:L.Sq L.Sheet) (i:Nat) (A:List Int) (sum:Int) (G:Nat->Int) (st:L.AS) (k:Nat):L.putK w s i A sum G st (k+1)=bif L.asNo w s G i k then L.putK w s i A sum G st k else L.putF w s (i+1) (L.snocI A k) (sum+L.asM s G k) (L.asG G k i) (L.putK w s i A sum G st k):=by
 unfold L.putK
 rw [List.range_succ,List.foldl_append];rfl
theorem putF_cut (w:L.Sq L.Want) (s:L.Sq L.Sheet) {i:Nat} (A:List Int) {sum:Int} (G:Nat->Int) {st:L.AS} (hi:i <= w.n) (h:(st.fd && decide (st.ls <= sum))=true):L.putF w s i A sum G st=st:=by
 unfold L.putF
 obtain ⟨f,e⟩:∃ f,w.n+1 - i=f+1:=⟨w.n - i,by omega⟩
 rw [e,L.asP,if_pos h]
theorem putF_end (w:L.Sq L.Want) (s:L.Sq L.Sheet) (A:List Int) {sum:Int} (G:Nat->Int) {st:L.AS} (h:(st.fd && decide (st.ls <= sum))=false):L.putF w s w.n A sum G st=⟨true,sum,A⟩:=by
 unfold L.putF
 rw [show w.n+1 - w.n=0+1 by omega,L.asP,if_neg (by rw [h];decide),if_pos rfl]
theorem putF_go (w:L.Sq L.Want) (s:L.Sq L.Sheet) {i:Nat} (A:List Int) {sum:Int} (G:Nat->Int) {st:L.AS} (hi:i<w.n) (h:(st.fd && decide (st.ls <= sum))=false):L.putF w s i A sum G st=L.putK w s i A sum G st s.n:=by
 unfold L.putF L.putK
 rw [show w.n+1 - i=(w.n - i)+1 by omega,L.asP,if_neg (by rw [h];decide),if_neg (by omega)]
 unfold L.putF
 rw [show w.n+1 - (i+1)=w.n - i by omega]
def chkW1 (i g:Nat):Bool:=decide (L.wider g i=g+2 ^ i) && (decide (L.iandNot (g+2 ^ i) (L.ishl 1 i)=g) && decide (0 <= L.ishl 1 i) && decide (L.ishl 1 i <= 16))
theorem chkW_all:((List.range 4).all fun i=>(List.range (2 ^ i)).all (chkW1 i))=true:=by kernel_rfl
theorem wider_of {i:Nat} (hi:i<4) {g:Int} (h0:0 <= g) (h1:g<2 ^ i):L.wider g i=g+2 ^ i/\L.iandNot (g+2 ^ i) (L.ishl 1 i)=g/\0 <= L.ishl 1 i/\L.ishl 1 i <= 16:=by
 obtain ⟨n,rfl⟩:=Int.eq_ofNat_of_zero_le h0
 have hn:n<2 ^ i:=by exact_mod_cast h1
 have:=List.all_eq_true.1 (List.all_eq_true.1 chkW_all i (List.mem_range.2 hi)) n (List.mem_range.2 hn)
 unfold chkW1 at this
 simp only [Bool.and_eq_true,decide_eq_true_eq] at this
 exact ⟨this.1,this.2.1.1,this.2.1.2,this.2.2⟩
theorem vSheet_b5 {s:L.Sheet} (h:L.vSheet s=true):1 <= s.w/\s.w <= 4096/\1 <= s.h/\s.h <= 4096:=by
 unfold L.vSheet at h
 cases h1:L.within s.id 1 65535
 ·rw [h1] at h;cases h
 cases h2:L.within s.colour 1 16
 ·rw [h1,h2] at h;cases h
 cases h3:L.within s.w 1 4096
 ·rw [h1,h2,h3] at h;cases h
 cases h4:L.within s.h 1 4096
 ·rw [h1,h2,h3,h4] at h;cases h
 unfold L.within at h3 h4
 rw [Bool.and_eq_true,decide_eq_true_eq,decide_eq_true_eq] at h3 h4
 omega
def L.okG (n i:Nat) (G:Nat->Int):Prop:=∀ k,k<n->0 <= G k/\G k<2 ^ i
theorem wider_all {n i:Nat} (hn:n <= 4) (hi:i<n) {g:Int} (h0:0 <= g) (h1:g<2 ^ i):0 <= L.wider g i/\L.wider g i <= L.all n:=by
 obtain ⟨e,_⟩:=wider_of (show i<4 by omega) h0 h1
 rw [e,all_eq hn]
 have hp:(2:Int) ^ i+2 ^ i <= 2 ^ n:=by
  have:(2:Int) ^ (i+1) <= 2 ^ n:=by exact_mod_cast Nat.pow_le_pow_right (show 0<2 by decide) hi
  rw [Int.pow_succ] at this
  omega
 have h2:(0:Int)<2 ^ i:=Int.pow_pos (by decide)
 omega
theorem putK_0 (w:L.Sq L.Want) (s:L.Sq L.Sheet) (i:Nat) (A:List Int) (sum:Int) (G:Nat->Int) (st:L.AS):L.putK w s i A sum G st 0=st:=rfl
theorem okG_next {n i k:Nat} {G:Nat->Int} (hi:i<4) (h:L.okG n i G) (hk:k<n):L.okG n (i+1) (L.asG G k i):=fun j hj=>by
 have h2:(0:Int)<2 ^ i:=Int.pow_pos (by decide)
 have hp:(2:Int) ^ (i+1)=2 ^ i+2 ^ i:=by rw [Int.pow_succ];omega
 unfold L.asG
 by_cases e:j=k
 ·rw [if_pos e,(wider_of hi (h k hk).1 (h k hk).2).1]
  have:=h k hk
  omega
 ·rw [if_neg e]
  have:=h j hj
  omega
def L.atI (A:List Int) (X:Nat->Int) (j:Nat):Int:=if j<A.length then A.getD j 0 else X j
section
attribute [local irreducible] L.putK L.putF L.asP L.roomB L.tabF L.tab L.all L.part L.iandNot L.ior L.ishl
def s_cloneI_p (l:(L.Sq Int)):Prop:=l.n <= 1000000
def s_cloneI_q (l:(L.Sq Int)):Nat->Prop:=fun _=>True
def s_cloneI_n (l:(L.Sq Int)):Nat->Nat:=fun _=>l.n
def s_cloneI_g (l:(L.Sq Int)):Nat->Nat->List SV:=fun _ i=>[.int .i64 (l.g i)]
def s_cloneI_s:List EV->Option (Prop × (Nat->Prop) × (Nat->Nat) × (Nat->Nat->List SV))
 | [.p (.sl 1 l_n l_g)]=>some ((∀ i,i<l_n->l_g i = [.int .i64 ((intOf (l_g i)))])/\s_cloneI_p (⟨l_n,fun i=>intOf (l_g i)⟩:(L.Sq Int)),s_cloneI_q (⟨l_n,fun i=>intOf (l_g i)⟩:(L.Sq Int)),s_cloneI_n (⟨l_n,fun i=>intOf (l_g i)⟩:(L.Sq Int)),s_cloneI_g (⟨l_n,fun i=>intOf (l_g i)⟩:(L.Sq Int)))
 | _=>none
abbrev s_cloneI_S:SE.Spec:=(specF Nat 0 3 1 s_cloneI_s)
def s_cloneI_C:Cfg:={ cC with muts:=[5] }
theorem s_cloneI_vc (l:(L.Sq Int)) (hp:s_cloneI_p l):vc Tryz.prog (s_cloneI_C) (bodyOf Tryz.f128) (st0 Tryz.f128 [.p (.sl 1 l.n (fun i=>[.int .i64 ((l.g i))]))]) (retFresh Tryz.prog Tryz.f128 (Nat) (s_cloneI_q l) 3 1 (s_cloneI_n l) (s_cloneI_g l)) :=
 @Eq.mpr _ (∀ (b:Bool),(b = !false->l.n=(0:Nat))->(b=true -> ∃ (t:Nat),l.n=(0:Nat)/\True)/\(b=false->(nat_lit 0+l.n) * nat_lit 8 <= (140737488355328:Nat) /\ ∃ (t:Nat),(nat_lit 0+l.n=l.n /\ ∀ (i:Nat),i<nat_lit 0+l.n->appGet (nat_lit 0) (rowsOf [] (nat_lit 1)) (fun (i:Nat)=>[SV.int .i64 (l.g i)]) i = [SV.int .i64 (l.g i)])/\True)) (by kernel_rfl) (by
 have hn:l.n <= 1000000:=hp
 refine fun b hb=>⟨fun h=>⟨(0:Nat),hb h,trivial⟩,fun h=>⟨show (0+l.n) * 8 <= 140737488355328 by omega,(0:Nat),⟨Nat.zero_add _,fun i hi=>?_⟩,trivial⟩⟩
 unfold appGet;rw [if_neg (Nat.not_lt_zero _)];rfl)
theorem s_cloneI_ok:SpecOk Tryz.prog 128 s_cloneI_S:=freshX Tryz.func128 (c:=bodyOf Tryz.f128) (by kernel_rfl) mixed (fun args p q n g hs hp=>by
 unfold s_cloneI_s at hs
 split at hs
 ·cases hs;exact ⟨_,_,s_cloneI_vc _ hp.2,(.p (.sl hp.1) .nil),⟨show SpecsL Tryz.prog _ from SpecsL.nil,rfl,⟨show ItersL Tryz.prog _ from ItersL.nil,(TrsOk.none (fun _=>rfl))⟩⟩⟩
 ·cases hs)
theorem s_cloneI_en:Enters Tryz.prog 128:=fun args w=>by kernel_rfl
abbrev c_roomF_fc:FamC:={ T:=L.Sq L.Want × Int × Int × L.Size,args:=fun t=>[.int .i64 t.2.2.1,.agg [.int .i64 t.2.2.2.w,.int .i64 t.2.2.2.h]],t:=162,kt:=3,vt:=27,head:=fun t=>(fun w gr=>[(.sl 4 w.n (fun i=>[.int .i64 ((w.g i).id),.int .i64 ((w.g i).colour),.int .i64 ((w.g i).grain),.sl 2 (w.g i).ol.n (fun i1=>[.int .i64 (((w.g i).ol.g i1).x),.int .i64 (((w.g i).ol.g i1).y)])])),.int .i64 gr]) t.1 t.2.1,val:=fun t=>L.memo (L.tabF t.1 t.2.1),pre:=fun t=>L.okW t.1/\0 <= t.2.2.1/\t.2.2.1 <= L.all t.1.n,res:=fun t=>.bool (L.roomB t.1 t.2.1 t.2.2.1 t.2.2.2) }
theorem c_roomF_fcok:FamCOk Tryz.prog 69 c_roomF_fc:=fam_of_mk 1000 1001 (by decide) c_room_mok (fun t d=>(t.1,t.2.1,d,t.2.2.1,t.2.2.2)) (fun _ _ u=>u) rfl rfl rfl (fun _ _=>rfl) (fun _ _=>rfl) (fun _ _ _=>rfl) (fun _ _ h=>h) (fun _ _ _=>rfl)
theorem c_roomF_en:Enters Tryz.prog 69:=c_room_en
abbrev c_as1_mk:Mk:={ T:=(L.Sq L.Want) × (L.Sq L.Sheet) × (Nat) × (List Int) × (Nat->Int) × (Int) × (Nat->Int) × (L.AS),U:=Nat->Int,args:=fun t=>(fun w s i A X sum G st=>[.p (.int .i64 (i:Int)),.rpre 1012 i,.p (.int .i64 sum)] ++ [.loc 1000 0,.loc 1001 0,.p (.ref [(.sl 4 w.n (fun i=>[.int .i64 ((w.g i).id),.int .i64 ((w.g i).colour),.int .i64 ((w.g i).grain),.sl 2 (w.g i).ol.n (fun i1=>[.int .i64 (((w.g i).ol.g i1).x),.int .i64 (((w.g i).ol.g i1).y)])]))] 0),.loc 1002 0,.p (.ref [(.sl 5 s.n (fun i=>[.int .i64 ((s.g i).id),.int .i64 ((s.g i).colour),.int .i64 ((s.g i).w),.int .i64 ((s.g i).h),.int .i64 ((s.g i).grain)]))] 0),.loc 1003 0,.loc 1004 0,.loc 1005 0]) t.1 t.2.1 t.2.2.1 t.2.2.2.1 t.2.2.2.2.1 t.2.2.2.2.2.1 t.2.2.2.2.2.2.1 t.2.2.2.2.2.2.2,lkeys:=[1000,1001,1002,1003,1004,1005,1010,1020,1021,1022,1023,1024,1025,1026,1027,1011,1012],keys:=[],lent:=fun t=>(fun w s i A X sum G st=>[(1000,.blk 4 [.p (.bool (st).fd)]),(1001,.blk 3 [.p (.int .i64 (st).ls)]),(1002,.blk 62 [.p (.sl 1 (L.sqI (st).bt).n (fun j=>[.int .i64 ((L.sqI (st).bt).g j)]))]),(1003,.blk 183 [.row 1010]),(1004,.blk 62 [.row 1011]),(1005,.blk 184 [.cl 127 [.loc 1000 0,.loc 1001 0,.p (.ref [(.sl 4 w.n (fun i=>[.int .i64 ((w.g i).id),.int .i64 ((w.g i).colour),.int .i64 ((w.g i).grain),.sl 2 (w.g i).ol.n (fun i1=>[.int .i64 (((w.g i).ol.g i1).x),.int .i64 (((w.g i).ol.g i1).y)])]))] 0),.loc 1002 0,.p (.ref [(.sl 5 s.n (fun i=>[.int .i64 ((s.g i).id),.int .i64 ((s.g i).colour),.int .i64 ((s.g i).w),.int .i64 ((s.g i).h),.int .i64 ((s.g i).grain)]))] 0),.loc 1003 0,.loc 1004 0,.loc 1005 0]]),(1010,.prow 104 s.n [1020,1021,1022,1023,1024,1025,1026,1027]),(1020,.oblk (L.isLt 0 s.n) 162 [.p ((.sl 4 w.n (fun i=>[.int .i64 ((w.g i).id),.int .i64 ((w.g i).colour),.int .i64 ((w.g i).grain),.sl 2 (w.g i).ol.n (fun i1=>[.int .i64 (((w.g i).ol.g i1).x),.int .i64 (((w.g i).ol.g i1).y)])]))),.p (.int .i64 (s.g 0).grain),.mapv 1021]),(1021,.omq (L.isLt 0 s.n) 3 27 (L.memo (L.tabF w (s.g 0).grain))),(1022,.oblk (L.isLt 1 s.n) 162 [.p ((.sl 4 w.n (fun i=>[.int .i64 ((w.g i).id),.int .i64 ((w.g i).colour),.int .i64 ((w.g i).grain),.sl 2 (w.g i).ol.n (fun i1=>[.int .i64 (((w.g i).ol.g i1).x),.int .i64 (((w.g i).ol.g i1).y)])]))),.p (.int .i64 (s.g 1).grain),.mapv 1023]),(1023,.omq (L.isLt 1 s.n) 3 27 (L.memo (L.tabF w (s.g 1).grain))),(1024,.oblk (L.isLt 2 s.n) 162 [.p ((.sl 4 w.n (fun i=>[.int .i64 ((w.g i).id),.int .i64 ((w.g i).colour),.int .i64 ((w.g i).grain),.sl 2 (w.g i).ol.n (fun i1=>[.int .i64 (((w.g i).ol.g i1).x),.int .i64 (((w.g i).ol.g i1).y)])]))),.p (.int .i64 (s.g 2).grain),.mapv 1025]),(1025,.omq (L.isLt 2 s.n) 3 27 (L.memo (L.tabF w (s.g 2).grain))),(1026,.oblk (L.isLt 3 s.n) 162 [.p ((.sl 4 w.n (fun i=>[.int .i64 ((w.g i).id),.int .i64 ((w.g i).colour),.int .i64 ((w.g i).grain),.sl 2 (w.g i).ol.n (fun i1=>[.int .i64 (((w.g i).ol.g i1).x),.int .i64 (((w.g i).ol.g i1).y)])]))),.p (.int .i64 (s.g 3).grain),.mapv 1027]),(1027,.omq (L.isLt 3 s.n) 3 27 (L.memo (L.tabF w (s.g 3).grain))),(1011,.row 3 1 s.n (fun k=>[.int .i64 (G k)])),(1012,.row 3 1 w.n (fun j=>[.int .i64 (L.atI A X j)]))]) t.1 t.2.1 t.2.2.1 t.2.2.2.1 t.2.2.2.2.1 t.2.2.2.2.2.1 t.2.2.2.2.2.2.1 t.2.2.2.2.2.2.2,pre:=fun t=>(fun w s i A X sum G st=>L.okW w/\s.n <= 4/\(∀ k,k<s.n->L.vSheet (s.g k)=true)/\i <= w.n/\L.lenI A=i/\L.okG s.n i G/\0 <= (sum:Int)/\(sum:Int) <= (i:Int) * 16777216) t.1 t.2.1 t.2.2.1 t.2.2.2.1 t.2.2.2.2.1 t.2.2.2.2.2.1 t.2.2.2.2.2.2.1 t.2.2.2.2.2.2.2,post:=fun t u=>(fun w s i A X sum G st=>fun u=>True) t.1 t.2.1 t.2.2.1 t.2.2.2.1 t.2.2.2.2.1 t.2.2.2.2.2.1 t.2.2.2.2.2.2.1 t.2.2.2.2.2.2.2 u,lent':=fun t u=>(fun w s i A X sum G st=>fun u=>[(1000,.blk 4 [.p (.bool (L.putF w s i A sum G st).fd)]),(1001,.blk 3 [.p (.int .i64 (L.putF w s i A sum G st).ls)]),(1002,.blk 62 [.p (.sl 1 (L.sqI (L.putF w s i A sum G st).bt).n (fun j=>[.int .i64 ((L.sqI (L.putF w s i A sum G st).bt).g j)]))]),(1003,.blk 183 [.row 1010]),(1004,.blk 62 [.row 1011]),(1005,.blk 184 [.cl 127 [.loc 1000 0,.loc 1001 0,.p (.ref [(.sl 4 w.n (fun i=>[.int .i64 ((w.g i).id),.int .i64 ((w.g i).colour),.int .i64 ((w.g i).grain),.sl 2 (w.g i).ol.n (fun i1=>[.int .i64 (((w.g i).ol.g i1).x),.int .i64 (((w.g i).ol.g i1).y)])]))] 0),.loc 1002 0,.p (.ref [(.sl 5 s.n (fun i=>[.int .i64 ((s.g i).id),.int .i64 ((s.g i).colour),.int .i64 ((s.g i).w),.int .i64 ((s.g i).h),.int .i64 ((s.g i).grain)]))] 0),.loc 1003 0,.loc 1004 0,.loc 1005 0]]),(1010,.prow 104 s.n [1020,1021,1022,1023,1024,1025,1026,1027]),(1020,.oblk (L.isLt 0 s.n) 162 [.p ((.sl 4 w.n (fun i=>[.int .i64 ((w.g i).id),.int .i64 ((w.g i).colour),.int .i64 ((w.g i).grain),.sl 2 (w.g i).ol.n (fun i1=>[.int .i64 (((w.g i).ol.g i1).x),.int .i64 (((w.g i).ol.g i1).y)])]))),.p (.int .i64 (s.g 0).grain),.mapv 1021]),(1021,.omq (L.isLt 0 s.n) 3 27 (L.memo (L.tabF w (s.g 0).grain))),(1022,.oblk (L.isLt 1 s.n) 162 [.p ((.sl 4 w.n (fun i=>[.int .i64 ((w.g i).id),.int .i64 ((w.g i).colour),.int .i64 ((w.g i).grain),.sl 2 (w.g i).ol.n (fun i1=>[.int .i64 (((w.g i).ol.g i1).x),.int .i64 (((w.g i).ol.g i1).y)])]))),.p (.int .i64 (s.g 1).grain),.mapv 1023]),(1023,.omq (L.isLt 1 s.n) 3 27 (L.memo (L.tabF w (s.g 1).grain))),(1024,.oblk (L.isLt 2 s.n) 162 [.p ((.sl 4 w.n (fun i=>[.int .i64 ((w.g i).id),.int .i64 ((w.g i).colour),.int .i64 ((w.g i).grain),.sl 2 (w.g i).ol.n (fun i1=>[.int .i64 (((w.g i).ol.g i1).x),.int .i64 (((w.g i).ol.g i1).y)])]))),.p (.int .i64 (s.g 2).grain),.mapv 1025]),(1025,.omq (L.isLt 2 s.n) 3 27 (L.memo (L.tabF w (s.g 2).grain))),(1026,.oblk (L.isLt 3 s.n) 162 [.p ((.sl 4 w.n (fun i=>[.int .i64 ((w.g i).id),.int .i64 ((w.g i).colour),.int .i64 ((w.g i).grain),.sl 2 (w.g i).ol.n (fun i1=>[.int .i64 (((w.g i).ol.g i1).x),.int .i64 (((w.g i).ol.g i1).y)])]))),.p (.int .i64 (s.g 3).grain),.mapv 1027]),(1027,.omq (L.isLt 3 s.n) 3 27 (L.memo (L.tabF w (s.g 3).grain))),(1011,.row 3 1 s.n (fun k=>[.int .i64 (G k)])),(1012,.row 3 1 w.n (fun j=>[.int .i64 (L.atI A u j)]))]) t.1 t.2.1 t.2.2.1 t.2.2.2.1 t.2.2.2.2.1 t.2.2.2.2.2.1 t.2.2.2.2.2.2.1 t.2.2.2.2.2.2.2 u,own:=fun t u=>(fun w s i A X sum G st=>fun u=>[]) t.1 t.2.1 t.2.2.1 t.2.2.2.1 t.2.2.2.2.1 t.2.2.2.2.2.1 t.2.2.2.2.2.2.1 t.2.2.2.2.2.2.2 u,res:=fun t u=>(fun w s i A X sum G st=>fun u=>.p (.tup [])) t.1 t.2.1 t.2.2.1 t.2.2.2.1 t.2.2.2.2.1 t.2.2.2.2.2.1 t.2.2.2.2.2.2.1 t.2.2.2.2.2.2.2 u }
abbrev c_as1_mu:c_as1_mk.T->Nat:=fun t=>(fun w s i A X sum G st=>w.n - i) t.1 t.2.1 t.2.2.1 t.2.2.2.1 t.2.2.2.2.1 t.2.2.2.2.2.1 t.2.2.2.2.2.2.1 t.2.2.2.2.2.2.2
theorem c_as1_vc (rn:Nat) (w:L.Sq L.Want) (s:L.Sq L.Sheet) (i:Nat) (A:List Int) (X:Nat->Int) (sum:Int) (G:Nat->Int) (st:L.AS) (hp:c_as1_mk.pre (w,s,i,A,X,sum,G,st)) (hmu:w.n - i<rn+1):vc Tryz.prog ({ muts:=[],frz:=lookN [],specs:=lookS [(128,s_cloneI_S)],loops:=lookL [(4,{ T:=Nat × (Nat->Int),keep:=[0,1,2,3,4,5,6,7,8,9,10,30],keepO:=[1003,1004,1005,1010,1020,1021,1022,1023,1024,1025,1026,1027,1011],chg:=fun t=>[(31,.p (.int .i64 (t.1:Int)))],own:=fun t=>[(1000,.blk 4 [.p (.bool ((L.putK w s i A sum G st t.1)).fd)]),(1001,.blk 3 [.p (.int .i64 ((L.putK w s i A sum G st t.1)).ls)]),(1002,.blk 62 [.p (.sl 1 (L.sqI ((L.putK w s i A sum G st t.1)).bt).n (fun j=>[.int .i64 ((L.sqI ((L.putK w s i A sum G st t.1)).bt).g j)]))]),(1012,.row 3 1 w.n (fun j=>[.int .i64 (L.atI A t.2 j)]))],inv:=fun t=>t.1 <= s.n,mu:=fun t=>s.n - t.1 })],iters:=lookI [],rfs:=lookR [],nils:=lookM [],mks:=lookK [(127,Mk.lt c_as1_mk c_as1_mu rn)],ren:=fun k=>k,fams:=lookF [(69,c_roomF_fc)],joins:=lookL [(10,{ T:=Nat,keep:=[0,1,2,3,4,5,6,7,8,9,10,14,30,31],keepO:=[1003,1004,1005,1010,1020,1021,1022,1023,1024,1025,1026,1027,1000,1001,1002,1011,1012],chg:=fun k=>[(15,.p (.int .i64 (L.asM s G k)))],own:=fun _=>[],inv:=fun _=>True,mu:=fun _=>0,tie:=fun k=>[(14,.int .i64 (k:Int))] })],anys:=[1011] }) (bodyOf Tryz.f127) (stTr Tryz.f127 (c_as1_mk.args (w,s,i,A,X,sum,G,st)) (c_as1_mk.lent (w,s,i,A,X,sum,G,st))) (retMk Tryz.prog Tryz.f127 c_as1_mk (w,s,i,A,X,sum,G,st)) :=
  @Eq.mpr _ (let I:=SV.int .i64;let T:=Int.toNat;let A107:=(↑w.n:Int);let A96:=(nat_lit 1005);let A95:=(nat_lit 1004);let A94:=(nat_lit 1003);let A93:=(nat_lit 1002);let A92:=(nat_lit 1001);let A91:=(nat_lit 1000);let A90:=(4:Nat);let A66:=(127:Nat);let A59:=(nat_lit 4);let A58:=(L.sqI st.bt);let A57:=(1:Int);let A55:=(bif st.fd then
 decide (st.ls <= sum) else false);let A36:=(nat_lit 127);let A34:=(0:Int);let A31:=(↑i:Int);let A30:=(↑s.n:Int);let A26:=(L.putF w s i A sum G st);let A56:=(L.sqI A26.bt);let A25:=(L.ishl A57 A31);let A24:=(s.n=s.n /\ ∀ (i:Nat),i<s.n -> [I (G i)] = [I (G i)]);let A17:=(3:Nat);let A37:=(s.g A17);let A43:=(L.tabF w A37.grain);let A23
:=(∀ (x:Int),L.memo A43 x=L.memo A43 x);let A16:=(nat_lit 0);let A15:=(1:Nat);let A38:=(s.g A15);let A44:=(L.tabF w A38.grain);let A21:=(∀ (x:Int),L.memo A44 x=L.memo A44 x);let A13:=(0:Nat);let A61:=(A13<nat_lit 1/\i+nat_lit 1 <= w.n);let A39:=(s.g A13);let A45:=(L.tabF w A39.grain);let A20:=(∀ (x:Int),L.memo A45 x=L.memo A45 x);let A12:=(2
:Nat);let A40:=(s.g A12);let A46:=(L.tabF w A40.grain);let A22:=(∀ (x:Int),L.memo A46 x=L.memo A46 x);let A4:=[SV.sl (nat_lit 5) s.n fun (i:Nat)=>[I (s.g i).id,I (s.g i).colour,I (s.g i).w,I (s.g i).h,I (s.g i).grain]];let A3:=[SV.sl A59 w.n fun (i:Nat)=>[I (w.g i).id,I (w.g i).colour,I (w.g i).grain,SV.sl A12 (w.g i).ol.n fun (i1:Nat)=>[I
 ((w.g i).ol.g i1).x,I ((w.g i).ol.g i1).y]]];let A2:=(w.n=w.n /\ ∀ (i:Nat),let A35:=[I (w.g i).id,I (w.g i).colour,I (w.g i).grain,SV.sl A12 (w.g i).ol.n fun (i1:Nat)=>[I ((w.g i).ol.g i1).x,I ((w.g i).ol.g i1).y]];i<w.n->A35=A35);let A1:=[EV.loc A91 A16,EV.loc A92 A16,EV.p (SV.ref A3 A16),EV.loc A93 A16,EV.p (SV.ref A4
 A16),EV.loc A94 A16,EV.loc A95 A16,EV.loc A96 A16];(A55=true -> ∃ (u:Nat->Int),st.fd=A26.fd/\st.ls=A26.ls/\(A58.n=A56.n /\ ∀ (i_1:Nat),i_1<A58.n -> [I (A58.g i_1)] = [I (A56.g i_1)])/\EV.cl A36 A1=EV.cl A66 A1/\s.n=s.n/\L.isLt A13 s.n=L.isLt A13 s.n/\A2/\A39.grain=A39.grain/\L.isLt A13 s.n=L.isLt A13 s.n/\A20/\L.isLt A15 s.n
 = L.isLt A15 s.n/\A2/\A38.grain=A38.grain/\L.isLt A15 s.n=L.isLt A15 s.n/\A21/\L.isLt A12 s.n=L.isLt A12 s.n/\A2/\A40.grain=A40.grain/\L.isLt A12 s.n=L.isLt A12 s.n/\A22/\L.isLt A17 s.n=L.isLt A17 s.n/\A2/\A37.grain=A37.grain/\L.isLt A17 s.n=L.isLt A17 s.n/\A23/\A24/\(w.n=w.n /\ ∀ (i:Nat),i<w.n -> [I (L.atI A X i)] = [I (L.atI A u i)])/\True)/\(A55 =
 false->(decide (A31=A107)=true->i <= w.n/\((∀ (i_1:Nat),i_1<i -> [I (L.atI A X i_1)] = [I (L.atI A X i_1)])/\i <= (1000000:Nat)) /\ ∀ (t:Nat),True->(∀ (i_1:Nat),i_1<i->(true && true)=true) /\ ∃ (u:Nat->Int),true=A26.fd/\sum=A26.ls/\(i=A56.n /\ ∀ (i_1:Nat),i_1<i -> [I (L.atI A X i_1)] = [I (A56.g i_1)])/\EV.cl A36
 A1=EV.cl A66 A1/\s.n=s.n/\L.isLt A13 s.n=L.isLt A13 s.n/\A2/\A39.grain=A39.grain/\L.isLt A13 s.n=L.isLt A13 s.n/\A20/\L.isLt A15 s.n=L.isLt A15 s.n/\A2/\A38.grain=A38.grain/\L.isLt A15 s.n=L.isLt A15 s.n/\A21/\L.isLt A12 s.n=L.isLt A12 s.n/\A2/\A40.grain=A40.grain/\L.isLt A12 s.n=L.isLt A12 s.n/\A22/\L.isLt A17 s.n=L.isLt A17 s.n/\A2/\A37.grain =
 A37.grain/\L.isLt A17 s.n=L.isLt A17 s.n/\A23/\A24/\(w.n=w.n /\ ∀ (i:Nat),i<w.n -> [I (L.atI A X i)] = [I (L.atI A u i)])/\True)/\(decide (A31=A107)=false->(∃ (g:Nat × (Nat->Int)),let A51:=(L.putK w s i A sum G st g.1);A34=(↑g.1:Int)/\st.fd=A51.fd/\st.ls=A51.ls/\(A58.n=(L.sqI A51.bt).n /\ ∀ (i_1:Nat),i_1<A58.n -> [I (A58.g i_1)] = [I ((L.sqI
 A51.bt).g i_1)])/\(w.n=w.n /\ ∀ (i:Nat),i<w.n -> [I (L.atI A X i)] = [I (L.atI A g.2 i)])/\g.1 <= s.n) /\ ∀ (g:Nat × (Nat->Int)),let A53:=(w.n=w.n /\ ∀ (i:Nat),i<w.n -> [I (L.atI A g.2 i)] = [I (L.atI A g.2 i)]);let A11:=(↑g.1:Int);let A80:=[I (L.ior (G (T A11)) A25)];let A54:=(s.g (T A11));let A47:=(A34 <= A11/\A11<A30);let A10:=(L.putK w s i A sum G st
 g.1);let A27:=(L.sqI A10.bt);let A52:=(A27.n=A27.n /\ ∀ (i_1:Nat),i_1<A27.n -> [I (A27.g i_1)] = [I (A27.g i_1)]);let A5:=(!!decide (A54.colour=(w.g (T A31)).colour));let A89:=(A5=true->T A11<s.n);let A42:=(A5=true->A34 <= A11/\A11<A30);g.1 <= s.n->(decide (A11<A30)=true->A47/\(A34 <= A31/\A31<A107)/\A42/\A89/\A42/\A89
 /\ (A5=true->A34 <= A31)/\(A5=true->InK .i64 A25)/\A42/\A42 /\ ∃ (t:L.Sq L.Want × Int × Int × L.Size),let A60:=(L.tabF t.1 t.2.1);let A41:=(bif !decide (A54.colour=(w.g (T A31)).colour) then true else !L.roomB t.1 t.2.1 t.snd.2.1 t.snd.2.2);let A14:=[SV.sl A90 t.1.n fun (i:Nat)=>let A71:=(t.1.g i);[I A71.id,I A71.colour,I
 A71.grain,SV.sl A12 A71.ol.n fun (i1:Nat)=>[I (A71.ol.g i1).x,I (A71.ol.g i1).y]],I t.2.1];(A5=true->T A11<A13+A15+A15+A15+A15)/\(A5=true->T A11=A13->L.isLt A13 s.n=true/\L.isLt A13 s.n=true /\ [SV.sl A59 w.n fun (i:Nat)=>[I (w.g i).id,I (w.g i).colour,I (w.g i).grain,SV.sl A12 (w.g i).ol.n fun (i1:Nat)=>[I ((w.g i).ol.g
 i1).x,I ((w.g i).ol.g i1).y]],I A39.grain]=A14 /\ ∀ (x:Int),L.memo A45 x=L.memo A60 x)/\(A5=true->T A11=A13+A15->L.isLt A15 s.n=true/\L.isLt A15 s.n=true /\ [SV.sl A59 w.n fun (i:Nat)=>[I (w.g i).id,I (w.g i).colour,I (w.g i).grain,SV.sl A12 (w.g i).ol.n fun (i1:Nat)=>[I ((w.g i).ol.g i1).x,I ((w.g i).ol.g i1).y]],I A38.grain]=A14 /\ ∀ (x
:Int),L.memo A44 x=L.memo A60 x)/\(A5=true->T A11=A13+A15+A15->L.isLt A12 s.n=true/\L.isLt A12 s.n=true /\ [SV.sl A59 w.n fun (i:Nat)=>[I (w.g i).id,I (w.g i).colour,I (w.g i).grain,SV.sl A12 (w.g i).ol.n fun (i1:Nat)=>[I ((w.g i).ol.g i1).x,I ((w.g i).ol.g i1).y]],I A40.grain]=A14 /\ ∀ (x:Int),L.memo A46 x=L.memo A60 x)/\(A5 =
 true->T A11=A13+A15+A15+A15->L.isLt A17 s.n=true/\L.isLt A17 s.n=true /\ [SV.sl A59 w.n fun (i:Nat)=>[I (w.g i).id,I (w.g i).colour,I (w.g i).grain,SV.sl A12 (w.g i).ol.n fun (i1:Nat)=>[I ((w.g i).ol.g i1).x,I ((w.g i).ol.g i1).y]],I A37.grain]=A14 /\ ∀ (x:Int),L.memo A43 x=L.memo A60 x)/\(A5=true->L.ior (G (T A11)) A25 =
 t.snd.2.1)/\(A5=true->SV.agg [I A54.w,I A54.h]=SV.agg [I t.snd.2.2.w,I t.snd.2.2.h])/\(A5=true->L.okW t.1/\A34 <= t.snd.2.1/\t.snd.2.1 <= L.all t.1.n)/\(A41=true->InK .i64 (A11+A57) /\ ∃ (g':Nat × (Nat->Int)),let A48:=(L.putK w s i A sum G st g'.1);A11+A57=(↑g'.1:Int)/\A30=A30/\A31=A31/\i=i/\sum=sum/\nat_lit 0 =
 nat_lit 0/\nat_lit 0=nat_lit 0/\SV.ref A3 A16=SV.ref A3 A16/\nat_lit 0=nat_lit 0/\SV.ref A4 A16=SV.ref A4 A16/\nat_lit 0=nat_lit 0/\nat_lit 0=nat_lit 0/\nat_lit 0=nat_lit 0/\A10.fd=A48.fd/\A10.ls=A48.ls/\(A27.n=(L.sqI A48.bt).n /\ ∀ (i_1:Nat),i_1<A27.n -> [I (A27.g i_1)] = [I ((L.sqI A48.bt).g i_1)])/\(w.n=w.n /\ ∀ (i:Nat),i<w.n -> [I
 (L.atI A g.2 i)] = [I (L.atI A g'.2 i)])/\EV.cl A36 A1=EV.cl A36 A1/\s.n=s.n/\L.isLt A13 s.n=L.isLt A13 s.n/\A2/\A39.grain=A39.grain/\L.isLt A13 s.n=L.isLt A13 s.n/\A20/\L.isLt A15 s.n=L.isLt A15 s.n/\A2/\A38.grain=A38.grain/\L.isLt A15 s.n=L.isLt A15 s.n/\A21/\L.isLt A12 s.n=L.isLt A12 s.n/\A2/\A40.grain=A40.grain/\L.isLt A12 s.n=L.isLt A12 s.n /\
 A22/\L.isLt A17 s.n=L.isLt A17 s.n/\A2/\A37.grain=A37.grain/\L.isLt A17 s.n=L.isLt A17 s.n/\A23/\A24/\g'.1 <= s.n/\s.n - g'.1<s.n - g.1)/\(A41=false->(A47/\T A11<s.n/\(decide (G (T A11)=A34)=true->A47/\A47/\InK .i64 (A54.w * A54.h) /\ ∃ (g_1:Nat),A54.w * A54.h=L.asM s G g_1/\A11=A11/\A11=A11/\A30=A30/\A31=A31/\i=i
 /\ sum=sum/\nat_lit 0=nat_lit 0/\nat_lit 0=nat_lit 0/\SV.ref A3 A16=SV.ref A3 A16/\nat_lit 0=nat_lit 0/\SV.ref A4 A16=SV.ref A4 A16/\nat_lit 0=nat_lit 0/\nat_lit 0=nat_lit 0/\nat_lit 0=nat_lit 0/\A10.fd=A10.fd/\A10.ls=A10.ls/\A52/\A53/\EV.cl A36 A1=EV.cl A36 A1/\s.n=s.n/\L.isLt A13 s.n=L.isLt A13 s.n/\A2/\A39.grain =
 A39.grain/\L.isLt A13 s.n=L.isLt A13 s.n/\A20/\L.isLt A15 s.n=L.isLt A15 s.n/\A2/\A38.grain=A38.grain/\L.isLt A15 s.n=L.isLt A15 s.n/\A21/\L.isLt A12 s.n=L.isLt A12 s.n/\A2/\A40.grain=A40.grain/\L.isLt A12 s.n=L.isLt A12 s.n/\A22/\L.isLt A17 s.n=L.isLt A17 s.n/\A2/\A37.grain=A37.grain/\L.isLt A17 s.n=L.isLt A17 s.n/\A23/\A24/\A11=(↑g_1:Int)/\True) /\
 (decide (G (T A11)=A34)=false -> ∃ (g_1:Nat),A34=L.asM s G g_1/\A11=A11/\A11=A11/\A30=A30/\A31=A31/\i=i/\sum=sum/\nat_lit 0=nat_lit 0/\nat_lit 0=nat_lit 0/\SV.ref A3 A16=SV.ref A3 A16/\nat_lit 0=nat_lit 0/\SV.ref A4 A16=SV.ref A4 A16/\nat_lit 0=nat_lit 0/\nat_lit 0=nat_lit 0/\nat_lit 0=nat_lit 0/\A10.fd =
 A10.fd/\A10.ls=A10.ls/\A52/\A53/\EV.cl A36 A1=EV.cl A36 A1/\s.n=s.n/\L.isLt A13 s.n=L.isLt A13 s.n/\A2/\A39.grain=A39.grain/\L.isLt A13 s.n=L.isLt A13 s.n/\A20/\L.isLt A15 s.n=L.isLt A15 s.n/\A2/\A38.grain=A38.grain/\L.isLt A15 s.n=L.isLt A15 s.n/\A21/\L.isLt A12 s.n=L.isLt A12 s.n/\A2/\A40.grain=A40.grain/\L.isLt A12 s.n=L.isLt A12 s.n/\A22
 /\ L.isLt A17 s.n=L.isLt A17 s.n/\A2/\A37.grain=A37.grain/\L.isLt A17 s.n=L.isLt A17 s.n/\A23/\A24/\A11=(↑g_1:Int)/\True)) /\ ∀ (g_1:Nat),A11=(↑g_1:Int)/\True->A47/\T A11<s.n/\A34 <= A31/\InK .i64 A25/\A47/\T A11<s.n/\InK .i64 (A31+A57)/\InK .i64 (sum+L.asM s G g_1)/\(A61 /\ ∃ (t:L.Sq L.Want × L.Sq L.Sheet ×
 Nat × List Int × (Nat->Int) × Int × (Nat->Int) × L.AS),let A79:=(t.2.1.g A17);let A102:=(L.tabF t.1 A79.grain);let A78:=(t.2.1.g A12);let A101:=(L.tabF t.1 A78.grain);let A77:=(t.2.1.g A15);let A100:=(L.tabF t.1 A77.grain);let A76:=(t.2.1.g A13);let A99:=(L.tabF t.1 A76.grain);let A63:=(A34 <= A11/\A11<(↑t.2.1.n:Int));let A62:=(L.sqI
 t.snd.snd.snd.snd.snd.2.2.bt);let A32:=(SV.ref [SV.sl (nat_lit 5) t.2.1.n fun (i:Nat)=>let A67:=(t.2.1.g i);[I A67.id,I A67.colour,I A67.w,I A67.h,I A67.grain]] A16);let A28:=(SV.ref [SV.sl A59 t.1.n fun (i:Nat)=>let A72:=(t.1.g i);[I A72.id,I A72.colour,I A72.grain,SV.sl A12 A72.ol.n fun (i1:Nat)=>[I (A72.ol.g i1).x,I (A72.ol.g i1).y]]]
 A16);let A18:=(L.putF t.1 t.2.1 t.snd.2.1 t.snd.snd.2.1 t.snd.snd.snd.snd.2.1 t.snd.snd.snd.snd.snd.2.1 t.snd.snd.snd.snd.snd.2.2);let A97:=(L.sqI A18.bt);let A8:=(w.n=t.1.n /\ ∀ (i:Nat),let A73:=(t.1.g i);i<w.n -> [I (w.g i).id,I (w.g i).colour,I (w.g i).grain,SV.sl A12 (w.g i).ol.n fun (i1:Nat)=>[I ((w.g i).ol.g i1).x,I ((w.g i).ol.g i1).y]] = [I A73.id,I
 A73.colour,I A73.grain,SV.sl A12 A73.ol.n fun (i1:Nat)=>[I (A73.ol.g i1).x,I (A73.ol.g i1).y]]);let A6:=(t.1.n=w.n /\ ∀ (i:Nat),let A74:=(t.1.g i);i<t.1.n -> [I A74.id,I A74.colour,I A74.grain,SV.sl A12 A74.ol.n fun (i1:Nat)=>[I (A74.ol.g i1).x,I (A74.ol.g i1).y]] = [I (w.g i).id,I (w.g i).colour,I (w.g i).grain,SV.sl A12 (w.g i).ol.n fun (i1:Nat) =>
 [I ((w.g i).ol.g i1).x,I ((w.g i).ol.g i1).y]]);A31+A57=(↑t.snd.2.1:Int)/\i+nat_lit 1=t.snd.2.1/\sum+L.asM s G g_1=t.snd.snd.snd.snd.2.1/\nat_lit 0=A13/\nat_lit 0=A13/\SV.ref A3 A16=SV.ref [SV.sl A90 t.1.n fun (i:Nat)=>let A75:=(t.1.g i);[I A75.id,I A75.colour,I A75.grain,SV.sl A12 A75.ol.n fun (i1:Nat)=>[I (A75.ol.g i1).x,I (A75.ol.g
 i1).y]]] A13/\nat_lit 0=A13/\SV.ref A4 A16=SV.ref [SV.sl (5:Nat) t.2.1.n fun (i:Nat)=>let A68:=(t.2.1.g i);[I A68.id,I A68.colour,I A68.w,I A68.h,I A68.grain]] A13/\nat_lit 0=A13/\nat_lit 0=A13/\nat_lit 0=A13/\A10.fd=t.snd.snd.snd.snd.snd.2.2.fd/\A10.ls=t.snd.snd.snd.snd.snd.2.2.ls/\(A27.n=A62.n /\ ∀ (i_1:Nat),i_1<A27.n -> [I (A27.g i_1)] =
 [I (A62.g i_1)])/\EV.cl A36 A1=EV.cl A66 [EV.loc A91 A16,EV.loc A92 A16,EV.p A28,EV.loc A93 A16,EV.p A32,EV.loc A94 A16,EV.loc A95 A16,EV.loc A96 A16]/\s.n=t.2.1.n/\L.isLt A13 s.n=L.isLt A13 t.2.1.n/\A8/\A39.grain=A76.grain/\L.isLt A13 s.n=L.isLt A13 t.2.1.n/\(∀ (x:Int),L.memo A45 x=L.memo A99 x)/\L.isLt A15
 s.n=L.isLt A15 t.2.1.n/\A8/\A38.grain=A77.grain/\L.isLt A15 s.n=L.isLt A15 t.2.1.n/\(∀ (x:Int),L.memo A44 x=L.memo A100 x)/\L.isLt A12 s.n=L.isLt A12 t.2.1.n/\A8/\A40.grain=A78.grain/\L.isLt A12 s.n=L.isLt A12 t.2.1.n/\(∀ (x:Int),L.memo A46 x=L.memo A101 x)/\L.isLt A17 s.n=L.isLt A17 t.2.1.n/\A8/\A37.grain=A79.grain/\L.isLt A17 s.n=L.isLt A17 t.2.1.n/\(∀
 (x:Int),L.memo A43 x=L.memo A102 x)/\(s.n=t.2.1.n /\ ∀ (i_1:Nat),i_1<s.n->setRow (fun (k:Nat)=>[I (G k)]) (T A11) A16 A80 i_1 = [I (t.snd.snd.snd.snd.snd.2.1 i_1)])/\(w.n=t.1.n /\ ∀ (i_1:Nat),i_1<w.n->(if i <= i_1/\i_1<i+nat_lit 1 then [I A11] else [I (L.atI A g.2 i_1)]) = [I (L.atI t.snd.snd.2.1 t.snd.snd.snd.2.1 i_1)])/\((L.okW t.1/\t.2.1.n <= A90/\(∀ (k :
 Nat),k<t.2.1.n->L.vSheet (t.2.1.g k)=true)/\t.snd.2.1 <= t.1.n/\L.lenI t.snd.snd.2.1=t.snd.2.1/\L.okG t.2.1.n t.snd.2.1 t.snd.snd.snd.snd.snd.2.1/\A34 <= t.snd.snd.snd.snd.2.1/\t.snd.snd.snd.snd.2.1 <= (↑t.snd.2.1:Int) * (16777216:Int))/\t.1.n - t.snd.2.1<rn) /\ ∀ (u:Nat->Int),True->A63/\T A11<t.2.1.n/\A34 <= A31/\InK .i64 A25/\A63/\T A11<t.2.1.n /\
 InK .i64 (A11+A57) /\ ∃ (g':Nat × (Nat->Int)),let A49:=(L.putK w s i A sum G st g'.1);A11+A57=(↑g'.1:Int)/\A30=A30/\A31=A31/\i=i/\sum=sum/\nat_lit 0=nat_lit 0/\nat_lit 0=nat_lit 0/\SV.ref A3 A16=SV.ref A3 A16/\nat_lit 0=nat_lit 0/\SV.ref A4 A16=SV.ref A4 A16/\nat_lit 0=nat_lit 0/\nat_lit 0=nat_lit 0/\nat_lit 0
 = nat_lit 0/\A18.fd=A49.fd/\A18.ls=A49.ls/\(A97.n=(L.sqI A49.bt).n /\ ∀ (i_1:Nat),i_1<A97.n -> [I (A97.g i_1)] = [I ((L.sqI A49.bt).g i_1)])/\(t.1.n=w.n /\ ∀ (i:Nat),i<t.1.n -> [I (L.atI t.snd.snd.2.1 u i)] = [I (L.atI A g'.2 i)])/\EV.cl A36 [EV.loc (1000:Nat) A16,EV.loc (1001:Nat) A16,EV.p A28,EV.loc (1002:Nat) A16,EV.p A32,
 EV.loc (1003:Nat) A16,EV.loc (1004:Nat) A16,EV.loc (1005:Nat) A16]=EV.cl A36 A1/\t.2.1.n=s.n/\L.isLt A13 t.2.1.n=L.isLt A13 s.n/\A6/\A76.grain=A39.grain/\L.isLt A13 t.2.1.n=L.isLt A13 s.n/\(∀ (x:Int),L.memo A99 x=L.memo A45 x)/\L.isLt A15 t.2.1.n=L.isLt A15 s.n/\A6/\A77.grain=A38.grain/\L.isLt A15 t.2.1.n=L.isLt A15 s.n/\(∀ (x:Int),
 L.memo A100 x=L.memo A44 x)/\L.isLt A12 t.2.1.n=L.isLt A12 s.n/\A6/\A78.grain=A40.grain/\L.isLt A12 t.2.1.n=L.isLt A12 s.n/\(∀ (x:Int),L.memo A101 x=L.memo A46 x)/\L.isLt A17 t.2.1.n=L.isLt A17 s.n/\A6/\A79.grain=A37.grain/\L.isLt A17 t.2.1.n=L.isLt A17 s.n/\(∀ (x:Int),L.memo A102 x=L.memo A43 x)/\(t.2.1.n=s.n /\ ∀ (i_1:Nat),i_1<t.2.1.n->setRow (fun
 (k:Nat)=>[I (t.snd.snd.snd.snd.snd.2.1 k)]) (T A11) A16 [I (L.iandNot (t.snd.snd.snd.snd.snd.2.1 (T A11)) A25)] i_1 = [I (G i_1)])/\g'.1 <= s.n/\s.n - g'.1<s.n - g.1)/\A61 /\ ∃ (t:L.Sq L.Want × L.Sq L.Sheet × Nat × List Int × (Nat->Int) × Int × (Nat->Int) × L.AS),let A88:=(t.2.1.g A17);let A106:=(L.tabF t.1 A88.grain);let A87:=(t.2.1.g A12);let A105:=(L.tabF t.1
 A87.grain);let A86:=(t.2.1.g A15);let A104:=(L.tabF t.1 A86.grain);let A85:=(t.2.1.g A13);let A103:=(L.tabF t.1 A85.grain);let A65:=(A34 <= A11/\A11<(↑t.2.1.n:Int));let A64:=(L.sqI t.snd.snd.snd.snd.snd.2.2.bt);let A33:=(SV.ref [SV.sl (nat_lit 5) t.2.1.n fun (i:Nat)=>let A69:=(t.2.1.g i);[I A69.id,I A69.colour,I A69.w,I A69.h,I A69.grain]] A16);let
 A29:=(SV.ref [SV.sl A59 t.1.n fun (i:Nat)=>let A81:=(t.1.g i);[I A81.id,I A81.colour,I A81.grain,SV.sl A12 A81.ol.n fun (i1:Nat)=>[I (A81.ol.g i1).x,I (A81.ol.g i1).y]]] A16);let A19:=(L.putF t.1 t.2.1 t.snd.2.1 t.snd.snd.2.1 t.snd.snd.snd.snd.2.1 t.snd.snd.snd.snd.snd.2.1 t.snd.snd.snd.snd.snd.2.2);let A98:=(L.sqI A19.bt);let A9:=(w.n=t.1.n /\ ∀ (i :
 Nat),let A82:=(t.1.g i);i<w.n -> [I (w.g i).id,I (w.g i).colour,I (w.g i).grain,SV.sl A12 (w.g i).ol.n fun (i1:Nat)=>[I ((w.g i).ol.g i1).x,I ((w.g i).ol.g i1).y]] = [I A82.id,I A82.colour,I A82.grain,SV.sl A12 A82.ol.n fun (i1:Nat)=>[I (A82.ol.g i1).x,I (A82.ol.g i1).y]]);let A7:=(t.1.n=w.n /\ ∀ (i:Nat),let A83:=(t.1.g i);i<t.1.n -> [I A83.id,I
 A83.colour,I A83.grain,SV.sl A12 A83.ol.n fun (i1:Nat)=>[I (A83.ol.g i1).x,I (A83.ol.g i1).y]] = [I (w.g i).id,I (w.g i).colour,I (w.g i).grain,SV.sl A12 (w.g i).ol.n fun (i1:Nat)=>[I ((w.g i).ol.g i1).x,I ((w.g i).ol.g i1).y]]);A31+A57=(↑t.snd.2.1:Int)/\i+nat_lit 1=t.snd.2.1/\sum+L.asM s G g_1=t.snd.snd.snd.snd.2.1/\nat_lit 0=A13/\nat_lit 0=A13 /\
 SV.ref A3 A16=SV.ref [SV.sl A90 t.1.n fun (i:Nat)=>let A84:=(t.1.g i);[I A84.id,I A84.colour,I A84.grain,SV.sl A12 A84.ol.n fun (i1:Nat)=>[I (A84.ol.g i1).x,I (A84.ol.g i1).y]]] A13/\nat_lit 0=A13/\SV.ref A4 A16=SV.ref [SV.sl (5:Nat) t.2.1.n fun (i:Nat)=>let A70:=(t.2.1.g i);[I A70.id,I A70.colour,I A70.w,I A70.h,I
 A70.grain]] A13/\nat_lit 0=A13/\nat_lit 0=A13/\nat_lit 0=A13/\A10.fd=t.snd.snd.snd.snd.snd.2.2.fd/\A10.ls=t.snd.snd.snd.snd.snd.2.2.ls/\(A27.n=A64.n /\ ∀ (i_1:Nat),i_1<A27.n -> [I (A27.g i_1)] = [I (A64.g i_1)])/\EV.cl A36 A1=EV.cl A66 [EV.loc A91 A16,EV.loc A92 A16,EV.p A29,EV.loc A93 A16,EV.p A33,EV.loc A94 A16,
 EV.loc A95 A16,EV.loc A96 A16]/\s.n=t.2.1.n/\L.isLt A13 s.n=L.isLt A13 t.2.1.n/\A9/\A39.grain=A85.grain/\L.isLt A13 s.n=L.isLt A13 t.2.1.n/\(∀ (x:Int),L.memo A45 x=L.memo A103 x)/\L.isLt A15 s.n=L.isLt A15 t.2.1.n/\A9/\A38.grain=A86.grain/\L.isLt A15 s.n=L.isLt A15 t.2.1.n/\(∀ (x:Int),L.memo A44 x=L.memo A104 x)/\L.isLt A12 s.n=L.isLt A12 t.2.1.n
 /\ A9/\A40.grain=A87.grain/\L.isLt A12 s.n=L.isLt A12 t.2.1.n/\(∀ (x:Int),L.memo A46 x=L.memo A105 x)/\L.isLt A17 s.n=L.isLt A17 t.2.1.n/\A9/\A37.grain=A88.grain/\L.isLt A17 s.n=L.isLt A17 t.2.1.n/\(∀ (x:Int),L.memo A43 x=L.memo A106 x)/\(s.n=t.2.1.n /\ ∀ (i_1:Nat),i_1<s.n->setRow (fun (k:Nat)=>[I (G k)]) (T A11) A16 A80 i_1 = [I
 (t.snd.snd.snd.snd.snd.2.1 i_1)])/\(w.n=t.1.n /\ ∀ (i_1:Nat),i_1<w.n->(if i <= i_1/\i_1<i+nat_lit 1 then [I A11] else [I (L.atI A g.2 i_1)]) = [I (L.atI t.snd.snd.2.1 t.snd.snd.snd.2.1 i_1)])/\((L.okW t.1/\t.2.1.n <= A90/\(∀ (k:Nat),k<t.2.1.n->L.vSheet (t.2.1.g k)=true)/\t.snd.2.1 <= t.1.n/\L.lenI t.snd.snd.2.1=t.snd.2.1/\L.okG t.2.1.n t.snd.2.1
 t.snd.snd.snd.snd.snd.2.1/\A34 <= t.snd.snd.snd.snd.2.1/\t.snd.snd.snd.snd.2.1 <= (↑t.snd.2.1:Int) * (16777216:Int))/\t.1.n - t.snd.2.1<rn) /\ ∀ (u:Nat->Int),True->A65/\T A11<t.2.1.n/\A34 <= A31/\InK .i64 A25/\A65/\T A11<t.2.1.n/\InK .i64 (A11+A57) /\ ∃ (g':Nat × (Nat->Int)),let A50:=(L.putK w s i A sum G st g'.1);A11+A57=(↑g'.1 :
 Int)/\A30=A30/\A31=A31/\i=i/\sum=sum/\nat_lit 0=nat_lit 0/\nat_lit 0=nat_lit 0/\SV.ref A3 A16=SV.ref A3 A16/\nat_lit 0=nat_lit 0/\SV.ref A4 A16=SV.ref A4 A16/\nat_lit 0=nat_lit 0/\nat_lit 0=nat_lit 0/\nat_lit 0=nat_lit 0/\A19.fd=A50.fd/\A19.ls=A50.ls/\(A98.n=(L.sqI A50.bt).n /\ ∀ (i_1:Nat),i_1<A98.n -> [I (A98.g i_1)] = [I
 ((L.sqI A50.bt).g i_1)])/\(t.1.n=w.n /\ ∀ (i:Nat),i<t.1.n -> [I (L.atI t.snd.snd.2.1 u i)] = [I (L.atI A g'.2 i)])/\EV.cl A36 [EV.loc (1000:Nat) A16,EV.loc (1001:Nat) A16,EV.p A29,EV.loc (1002:Nat) A16,EV.p A33,EV.loc (1003:Nat) A16,EV.loc (1004:Nat) A16,EV.loc (1005:Nat) A16]=EV.cl A36 A1/\t.2.1.n=s.n /\
 L.isLt A13 t.2.1.n=L.isLt A13 s.n/\A7/\A85.grain=A39.grain/\L.isLt A13 t.2.1.n=L.isLt A13 s.n/\(∀ (x:Int),L.memo A103 x=L.memo A45 x)/\L.isLt A15 t.2.1.n=L.isLt A15 s.n/\A7/\A86.grain=A38.grain/\L.isLt A15 t.2.1.n=L.isLt A15 s.n/\(∀ (x:Int),L.memo A104 x=L.memo A44 x)/\L.isLt A12 t.2.1.n=L.isLt A12 s.n/\A7/\A87.grain=A40.grain/\L.isLt A12 t.2.1.n=L.isLt A12
 s.n/\(∀ (x:Int),L.memo A105 x=L.memo A46 x)/\L.isLt A17 t.2.1.n=L.isLt A17 s.n/\A7/\A88.grain=A37.grain/\L.isLt A17 t.2.1.n=L.isLt A17 s.n/\(∀ (x:Int),L.memo A106 x=L.memo A43 x)/\(t.2.1.n=s.n /\ ∀ (i_1:Nat),i_1<t.2.1.n->setRow (fun (k:Nat)=>[I (t.snd.snd.snd.snd.snd.2.1 k)]) (T A11) A16 [I (L.iandNot (t.snd.snd.snd.snd.snd.2.1 (T A11)) A25)] i_1 = [I
 (G i_1)])/\g'.1 <= s.n/\s.n - g'.1<s.n - g.1))/\(decide (A11<A30)=false -> ∃ (u:Nat->Int),A10.fd=A26.fd/\A10.ls=A26.ls/\(A27.n=A56.n /\ ∀ (i_1:Nat),i_1<A27.n -> [I (A27.g i_1)] = [I (A56.g i_1)])/\EV.cl A36 A1=EV.cl A66 A1/\s.n=s.n/\L.isLt A13 s.n=L.isLt A13 s.n/\A2/\A39.grain=A39.grain/\L.isLt A13 s.n=L.isLt A13 s.n/\A20/\L.isLt
 A15 s.n=L.isLt A15 s.n/\A2/\A38.grain=A38.grain/\L.isLt A15 s.n=L.isLt A15 s.n/\A21/\L.isLt A12 s.n=L.isLt A12 s.n/\A2/\A40.grain=A40.grain/\L.isLt A12 s.n=L.isLt A12 s.n/\A22/\L.isLt A17 s.n=L.isLt A17 s.n/\A2/\A37.grain=A37.grain/\L.isLt A17 s.n=L.isLt A17 s.n/\A23/\A24/\(w.n=w.n /\ ∀ (i:Nat),i<w.n -> [I (L.atI A g.2 i)] = [I (L.atI A u i)])/\True)))) (by kernel_rfl) (by
  conv=>zeta
  have hp:L.okW w/\s.n <= 4/\(∀ k,k<s.n->L.vSheet (s.g k)=true)/\i <= w.n/\L.lenI A=i/\L.okG s.n i G/\0 <= sum/\sum <= (i:Int) * 16777216:=hp
  have hmu:w.n - i<rn+1:=hmu
  obtain ⟨hok,hs4,hsv,hi,hA,hG,hs0,hs1⟩:=hp
  have hA2:A.length=i:=hA
  have hw4:=hok.1
  have ei:((i:Int)).toNat=i:=Int.toNat_natCast i
  have atA:∀ (X:Nat->Int) j,j<i->L.atI A X j=A.getD j 0:=fun X j hj=>by unfold L.atI;rw [if_pos (by omega)]
  refine ⟨fun h1=>?_,fun h1=>⟨fun h2=>?_,fun h2=>?_⟩⟩
  ·rw [band] at h1
   rw [putF_cut w s A G hi h1]
   exact ⟨X,(by (try dsimp only);(repeat' with_reducible apply And.intro) <;> first | with_reducible rfl | with_reducible exact fun _=>rfl | with_reducible exact fun _ _=>rfl | with_reducible exact trivial | exact rfl | (intro _;exact rfl) | (intro _ _;exact rfl) | exact trivial | (intro _ h_;exact absurd h_ (Nat.not_lt_zero _)))⟩
  ·rw [band] at h1
   have h2:(i:Int)=(w.n:Int):=of_decide_eq_true h2
   obtain rfl:i=w.n:=by omega
   rw [putF_end w s A G h1]
   have c1:w.n <= 1000000:=by omega
   exact ⟨Nat.le_refl _,⟨fun _ _=>rfl,c1⟩,fun _ _=>⟨fun _ _=>rfl,X,(by (try dsimp only);(repeat' with_reducible apply And.intro) <;> first | with_reducible rfl | with_reducible exact hA.symm | with_reducible exact fun _=>rfl | with_reducible exact fun _ _=>rfl | with_reducible exact trivial | (intro j hj;exact congrArg (fun x=>[SV.int .i64 x]) (atA X j hj)) | exact rfl | (intro _;exact rfl) | (intro _ _;exact rfl) | exact hA.symm | exact trivial | (intro _ h_;exact absurd h_ (Nat.not_lt_zero _)))⟩⟩
  ·rw [band] at h1
   have h2:¬ (i:Int)=(w.n:Int):=of_decide_eq_false h2
   have hlt:i<w.n:=by omega
   have hi4:i<4:=by omega
   rw [putF_go w s A G hlt h1]
   refine ⟨⟨(0,X),(by (try dsimp only);(repeat' with_reducible apply And.intro) <;> first | with_reducible rfl | with_reducible exact Nat.zero_le _ | with_reducible exact congrArg L.AS.fd (putK_0 w s i A sum G st).symm | with_reducible exact congrArg L.AS.ls (putK_0 w s i A sum G st).symm | with_reducible exact fun _=>rfl | with_reducible exact fun _ _=>rfl | with_reducible exact trivial | (intro j _;exact congrArg (fun x:L.AS=>[SV.int .i64 ((L.sqI x.bt).g j)]) (putK_0 w s i A sum G st).symm) | exact rfl | (intro _;exact rfl) | (intro _ _;exact rfl) | exact Nat.zero_le _ | exact congrArg L.AS.fd (putK_0 w s i A sum G st).symm | exact congrArg L.AS.ls (putK_0 w s i A sum G st).symm | exact congrArg (fun x:L.AS=>(L.sqI x.bt).n) (putK_0 w s i A sum G st).symm | exact trivial | (intro _ h_;exact absurd h_ (Nat.not_lt_zero _)))⟩,fun g hg=>?_⟩
   obtain ⟨k,Y⟩:=g
   dsimp only at hg ⊢
   have ek:((k:Int)).toNat=k:=Int.toNat_natCast k
   rw [ei,ek]
   refine ⟨fun hc=>?_,fun hc=>?_⟩
   ·have hc:(k:Int)<(s.n:Int):=of_decide_eq_true hc
    have hk:k<s.n:=by omega
    obtain ⟨g0,g1⟩:=hG k hk
    obtain ⟨wd1,wd2,wd3,wd4⟩:=wider_of hi4 g0 g1
    obtain ⟨wa1,wa2⟩:=wider_all hw4 hlt g0 g1
    have c0:0 <= (k:Int)/\(k:Int)<(s.n:Int):=⟨Int.natCast_nonneg _,hc⟩
    have ci:0 <= (i:Int):=Int.natCast_nonneg _
    have ci2:0 <= (i:Int)/\(i:Int)<(w.n:Int):=by omega
    have k1:InK .i64 (L.ishl 1 (i:Int)):=jK
    have k2:InK .i64 ((k:Int)+1):=jK
    have k3:InK .i64 ((i:Int)+1):=jK
    have kk:k+1 <= s.n:=hk
    have mm:s.n - (k+1)<s.n - k:=by omega
    have cn:(k:Int)+1=((k+1:Nat):Int):=by omega
    refine ⟨c0,ci2,fun _=>c0,fun _=>hk,fun _=>c0,fun _=>hk,fun _=>ci,fun _=>k1,fun _=>c0,fun _=>c0,(w,(s.g k).grain,L.wider (G k) i,⟨(s.g k).w,(s.g k).h⟩),fun _=>(by omega),?_,?_,?_,?_,fun _=>rfl,fun _=>rfl,fun _=>⟨hok,wa1,wa2⟩,fun h=>?_,fun h=>?_⟩
    ·intro _ e;subst e;exact ⟨decide_eq_true hk,decide_eq_true hk,rfl,fun _=>rfl⟩
    ·intro _ e;subst e;exact ⟨decide_eq_true hk,decide_eq_true hk,rfl,fun _=>rfl⟩
    ·intro _ e;subst e;exact ⟨decide_eq_true hk,decide_eq_true hk,rfl,fun _=>rfl⟩
    ·intro _ e;subst e;exact ⟨decide_eq_true hk,decide_eq_true hk,rfl,fun _=>rfl⟩
    ·have h:L.asNo w s G i k=true:=h
     have e2:L.putK w s i A sum G st k=L.putK w s i A sum G st (k+1):=by rw [putK_succ,h];rfl
     exact ⟨k2,(k+1,Y),(by (try dsimp only);(repeat' with_reducible apply And.intro) <;> first | with_reducible rfl | with_reducible assumption | with_reducible exact congrArg L.AS.fd e2 | with_reducible exact congrArg L.AS.ls e2 | with_reducible exact fun _=>rfl | with_reducible exact fun _ _=>rfl | with_reducible exact trivial | (intro j _;exact congrArg (fun x:L.AS=>[SV.int .i64 ((L.sqI x.bt).g j)]) e2) | exact rfl | (intro _;exact rfl) | (intro _ _;exact rfl) | exact cn | exact kk | exact mm | exact congrArg L.AS.fd e2 | exact congrArg L.AS.ls e2 | exact congrArg (fun x:L.AS=>(L.sqI x.bt).n) e2 | exact trivial | (intro _ h_;exact absurd h_ (Nat.not_lt_zero _)))⟩
    ·have h:L.asNo w s G i k=false:=h
     have e3:L.putF w s (i+1) (L.snocI A k) (sum+L.asM s G k) (L.asG G k i) (L.putK w s i A sum G st k)=L.putK w s i A sum G st (k+1):=by rw [putK_succ,h];rfl
     obtain ⟨v1,v2,v3,v4⟩:=vSheet_b5 (hsv k hk)
     have ar0:0 <= (s.g k).w * (s.g k).h:=Int.mul_nonneg (by omega) (by omega)
     have ar1:(s.g k).w * (s.g k).h <= 4096 * 4096:=Int.mul_le_mul (by omega) (by omega) (by omega) (by omega)
     have k4:InK .i64 ((s.g k).w * (s.g k).h):=jK
     have am:0 <= L.asM s G k/\L.asM s G k <= 16777216:=by
      unfold L.asM
      cases decide (G k=0) <;> simp only [cond_true,cond_false] <;> omega
     refine ⟨⟨c0,hk,fun hz=>?_,fun hz=>?_⟩,fun k2' hk2=>?_⟩
     ·have em:(s.g k).w * (s.g k).h=L.asM s G k:=by unfold L.asM;rw [hz];rfl
      exact ⟨c0,c0,k4,k,(by (try dsimp only);(repeat' with_reducible apply And.intro) <;> first | with_reducible rfl | with_reducible assumption | with_reducible exact fun _=>rfl | with_reducible exact fun _ _=>rfl | with_reducible exact trivial | exact rfl | (intro _;exact rfl) | (intro _ _;exact rfl) | exact em | exact trivial | (intro _ h_;exact absurd h_ (Nat.not_lt_zero _)))⟩
     ·have em:0=L.asM s G k:=by unfold L.asM;rw [hz];rfl
      exact ⟨k,(by (try dsimp only);(repeat' with_reducible apply And.intro) <;> first | with_reducible rfl | with_reducible assumption | with_reducible exact fun _=>rfl | with_reducible exact fun _ _=>rfl | with_reducible exact trivial | exact rfl | (intro _;exact rfl) | (intro _ _;exact rfl) | exact em | exact trivial | (intro _ h_;exact absurd h_ (Nat.not_lt_zero _)))⟩
     ·obtain rfl:k2'=k:=by have:=hk2.1;omega
      have k5:InK .i64 (sum+L.asM s G k2'):=jK
      have i1:i+1 <= w.n:=hlt
      have l1:L.lenI (L.snocI A k2')=i+1:=by show (A ++ [(k2':Int)]).length=i+1;simp [hA2]
      have hG1:=okG_next hi4 hG hk
      have s0:0 <= sum+L.asM s G k2':=by omega
      have s1:sum+L.asM s G k2' <= ((i+1:Nat):Int) * 16777216:=by push_cast;omega
      have m1:w.n - (i+1)<rn:=by omega
      have p0:0<1:=Nat.one_pos
      have row1:∀ j,j<s.n->setRow (fun k=>[SV.int .i64 (G k)]) k2' 0 [SV.int .i64 (L.ior (G k2') (L.ishl 1 (i:Int)))] j = [SV.int .i64 (L.asG G k2' i j)]:=fun j _=>by
       unfold setRow L.asG
       by_cases e:j=k2'
       ·rw [if_pos e,if_pos e];rfl
       ·rw [if_neg e,if_neg e]
      have row2:∀ j,j<s.n->setRow (fun k=>[SV.int .i64 (L.asG G k2' i k)]) k2' 0 [SV.int .i64 (L.iandNot (L.asG G k2' i k2') (L.ishl 1 (i:Int)))] j = [SV.int .i64 (G j)]:=fun j _=>by
       unfold setRow
       by_cases e:j=k2'
       ·subst e
        rw [if_pos rfl]
        have:L.asG G j i j=G j+2 ^ i:=by unfold L.asG;rw [if_pos rfl];exact wd1
        rw [this,wd2];rfl
       ·rw [if_neg e]
        have:L.asG G k2' i j=G j:=by unfold L.asG;rw [if_neg e]
        dsimp only
        rw [this]
      have getS:∀ j,j<i->(L.snocI A k2').getD j 0=A.getD j 0:=fun j hj=>by
       unfold L.snocI
       rw [List.getD_eq_getElem?_getD,List.getD_eq_getElem?_getD,List.getElem?_append_left (by omega)]
      have len2:(L.snocI A k2').length=i+1:=l1
      have at1:∀ j,j<w.n->(if i <= j/\j<i+1 then [SV.int .i64 (k2':Int)] else [SV.int .i64 (L.atI A Y j)]) = [SV.int .i64 (L.atI (L.snocI A k2') Y j)]:=fun j _=>by
       by_cases e:j<i
       ·rw [if_neg (by omega),atA Y j e]
        unfold L.atI
        rw [if_pos (by omega),getS j e]
       ·by_cases e2:j=i
        ·subst e2
         rw [if_pos (by omega)]
         unfold L.atI
         rw [if_pos (by omega)]
         have:(L.snocI A k2').getD j 0=(k2':Int):=by
          unfold L.snocI
          rw [List.getD_eq_getElem?_getD,List.getElem?_append_right (by omega),show j - A.length=0 by omega];rfl
         rw [this]
        ·rw [if_neg (by omega)]
         unfold L.atI
         rw [if_neg (by omega),if_neg (by omega)]
      have at2:∀ (u:Nat->Int) j,j<w.n -> [SV.int .i64 (L.atI (L.snocI A k2') u j)] = [SV.int .i64 (L.atI A (fun j=>L.atI (L.snocI A k2') u j) j)]:=fun u j _=>by
       by_cases e:j<i
       ·rw [atA _ j e]
        unfold L.atI
        rw [if_pos (by omega),getS j e]
       ·conv=>rhs;unfold L.atI
        rw [if_neg (by omega)]
        unfold L.atI
        rfl
      repeat' with_reducible apply And.intro
      all_goals first | exact c0.1 | exact c0.2 | exact hk | exact ci | exact k1 | exact k3 | exact k5 | exact p0 | exact i1 | exact ⟨(w,s,i+1,L.snocI A k2',Y,sum+L.asM s G k2',L.asG G k2' i,L.putK w s i A sum G st k2'),(by (try dsimp only);(repeat' with_reducible apply And.intro) <;> first | with_reducible rfl | with_reducible assumption | with_reducible exact fun _=>rfl | with_reducible exact fun _ _=>rfl | with_reducible exact trivial | (intro u _;exact ⟨c0,hk,ci,k1,c0,hk,k2,(k2'+1,fun j=>L.atI (L.snocI A k2') u j),(by (try dsimp only);(repeat' with_reducible apply And.intro) <;> first | with_reducible rfl | with_reducible assumption | with_reducible exact at2 u | with_reducible exact congrArg L.AS.fd e3 | with_reducible exact congrArg L.AS.ls e3 | with_reducible exact fun _=>rfl | with_reducible exact fun _ _=>rfl | with_reducible exact trivial | (intro j _;exact congrArg (fun x:L.AS=>[SV.int .i64 ((L.sqI x.bt).g j)]) e3) | exact rfl | (intro _;exact rfl) | (intro _ _;exact rfl) | exact cn | exact kk | exact mm | exact row2 | exact at2 u | exact congrArg L.AS.fd e3 | exact congrArg L.AS.ls e3 | exact congrArg (fun x:L.AS=>(L.sqI x.bt).n) e3 | exact trivial | (intro _ h_;exact absurd h_ (Nat.not_lt_zero _)))⟩) | exact rfl | (intro _;exact rfl) | (intro _ _;exact rfl) | exact hok | exact hs4 | exact hsv | exact i1 | exact l1 | exact hG1 | exact s0 | exact s1 | exact m1 | exact row1 | exact at1 | exact trivial | (intro _ h_;exact absurd h_ (Nat.not_lt_zero _)))⟩
   ·have hc:¬ (k:Int)<(s.n:Int):=of_decide_eq_false hc
    obtain rfl:k=s.n:=by omega
    exact ⟨Y,(by (try dsimp only);(repeat' with_reducible apply And.intro) <;> first | with_reducible rfl | with_reducible exact fun _=>rfl | with_reducible exact fun _ _=>rfl | with_reducible exact trivial | exact rfl | (intro _;exact rfl) | (intro _ _;exact rfl) | exact trivial | (intro _ h_;exact absurd h_ (Nat.not_lt_zero _)))⟩)
theorem c_as1_en:Enters Tryz.prog 127:=fun args w=>by kernel_rfl
theorem c_as1_mok:MkOk Tryz.prog 127 c_as1_mk:=mk_rec c_as1_mu ⟨fun t=>rfl,fun t u=>rfl,fun t u=>rfl,fun t u=>⟨rfl,rfl,rfl⟩,.inl rfl,fun k h=>(by cases h)⟩ (fun rn ih=>mk_ok (n:=11) Tryz.func127 (c:=bodyOf Tryz.f127) (by kernel_rfl) mixed ⟨fun t=>rfl,fun t=>rfl,fun t u=>rfl,fun t u=>rfl,fun t u=>rfl,fun t u=>⟨rfl,rfl⟩,by kernel_rfl,by kernel_rfl⟩ (fun ⟨w,s,i,A,X,sum,G,st⟩ hp=>⟨_,c_as1_vc rn w s i A X sum G st hp.1 hp.2,⟨show SpecsL Tryz.prog _ from (SpecsL.cons s_cloneI_ok s_cloneI_en SpecsL.nil),rfl,⟨show ItersL Tryz.prog _ from ItersL.nil,⟨TrsOk.no1 (fun _=>rfl),⟨show MksL Tryz.prog _ from (MksL.cons ih c_as1_en MksL.nil),show FamsL Tryz.prog _ from (FamsL.cons c_roomF_fcok c_roomF_en FamsL.nil)⟩⟩⟩⟩⟩))
end
end Go.Proofs.YtpgaejicfbpcmaaGreat
namespace Go.Proofs.YtpgaejicfbpcmaaGreat
open Go.SE Go.RowKit
set_option maxRecDepth 100000
set_option maxHeartbeats 4000000
set_option linter.unusedVariables false
attribute [local irreducible] vc
def L.as0:L.AS:=⟨false,0,[]⟩
theorem isLt_succ (j g:Nat):(L.isLt j g || decide (g=j))=L.isLt j (g+1):=by
 unfold L.isLt
 by_cases h1:j<g
 ·rw [decide_eq_true h1,decide_eq_true (show j<g+1 by omega)];rfl
 ·by_cases h2:g=j
  ·rw [decide_eq_true h2,decide_eq_true (show j<g+1 by omega),Bool.or_true]
  ·rw [decide_eq_false h1,decide_eq_false h2,decide_eq_false (show ¬ j<g+1 by omega)];rfl
theorem isLt_self (j:Nat):L.isLt j j=false:=decide_eq_false (Nat.lt_irrefl j)
theorem isLt_0 (j:Nat):false=L.isLt j 0:=(decide_eq_false (Nat.not_lt_zero j)).symm
def L.asgF (w:L.Sq L.Want) (s:L.Sq L.Sheet):L.AS:=L.putF w s 0 [] 0 (fun _=>0) L.as0
section
attribute [local irreducible] L.putK L.putF L.asP L.roomB L.tabF L.tab L.all L.part L.iandNot L.ior L.ishl L.isLt
abbrev c_assign_mk:Mk:={ T:=(L.Sq L.Want) × (L.Sq L.Sheet),U:=Nat,args:=fun t=>(fun w s=>[.p ((.sl 4 w.n (fun i=>[.int .i64 ((w.g i).id),.int .i64 ((w.g i).colour),.int .i64 ((w.g i).grain),.sl 2 (w.g i).ol.n (fun i1=>[.int .i64 (((w.g i).ol.g i1).x),.int .i64 (((w.g i).ol.g i1).y)])]))),.p ((.sl 5 s.n (fun i=>[.int .i64 ((s.g i).id),.int .i64 ((s.g i).colour),.int .i64 ((s.g i).w),.int .i64 ((s.g i).h),.int .i64 ((s.g i).grain)])))]) t.1 t.2,lkeys:=[],keys:=[],lent:=fun t=>(fun w s=>[]) t.1 t.2,pre:=fun t=>(fun w s=>L.okW w/\s.n <= 4/\(∀ k,k<s.n->L.vSheet (s.g k)=true)) t.1 t.2,post:=fun t u=>(fun w s=>fun uu=>True) t.1 t.2 u,lent':=fun t u=>(fun w s=>fun uu=>[]) t.1 t.2 u,own:=fun t u=>(fun w s=>fun uu=>[]) t.1 t.2 u,res:=fun t u=>(fun w s=>fun uu=>.p (.tup [.sl 1 (L.sqI (L.asgF w s).bt).n (fun i=>[.int .i64 ((L.sqI (L.asgF w s).bt).g i)]),.int .i64 (L.asgF w s).ls,.bool (L.asgF w s).fd])) t.1 t.2 u }
theorem c_assign_vc (w:L.Sq L.Want) (s:L.Sq L.Sheet) (hp:c_assign_mk.pre (w,s)):vc Tryz.prog ({ muts:=[7,8,9,10,12,13,16,35,40],frz:=lookN [],specs:=lookS [],loops:=lookL [(5,{ T:=Nat,keep:=[2,3,7,8,9,10,18],keepO:=[7,8,9,10,16],chg:=fun k=>[(19,.p (.int .i64 (k:Int)))],own:=fun k=>[(17,.oblk (L.isLt 0 (k)) 162 [.p ((.sl 4 w.n (fun i=>[.int .i64 ((w.g i).id),.int .i64 ((w.g i).colour),.int .i64 ((w.g i).grain),.sl 2 (w.g i).ol.n (fun i1=>[.int .i64 (((w.g i).ol.g i1).x),.int .i64 (((w.g i).ol.g i1).y)])]))),.p (.int .i64 (s.g 0).grain),.mapv 18]),(18,.omq (L.isLt 0 (k)) 3 27 (L.memo (L.tabF w (s.g 0).grain))),(20,.oblk (L.isLt 1 (k)) 162 [.p ((.sl 4 w.n (fun i=>[.int .i64 ((w.g i).id),.int .i64 ((w.g i).colour),.int .i64 ((w.g i).grain),.sl 2 (w.g i).ol.n (fun i1=>[.int .i64 (((w.g i).ol.g i1).x),.int .i64 (((w.g i).ol.g i1).y)])]))),.p (.int .i64 (s.g 1).grain),.mapv 21]),(21,.omq (L.isLt 1 (k)) 3 27 (L.memo (L.tabF w (s.g 1).grain))),(23,.oblk (L.isLt 2 (k)) 162 [.p ((.sl 4 w.n (fun i=>[.int .i64 ((w.g i).id),.int .i64 ((w.g i).colour),.int .i64 ((w.g i).grain),.sl 2 (w.g i).ol.n (fun i1=>[.int .i64 (((w.g i).ol.g i1).x),.int .i64 (((w.g i).ol.g i1).y)])]))),.p (.int .i64 (s.g 2).grain),.mapv 24]),(24,.omq (L.isLt 2 (k)) 3 27 (L.memo (L.tabF w (s.g 2).grain))),(25,.oblk (L.isLt 3 (k)) 162 [.p ((.sl 4 w.n (fun i=>[.int .i64 ((w.g i).id),.int .i64 ((w.g i).colour),.int .i64 ((w.g i).grain),.sl 2 (w.g i).ol.n (fun i1=>[.int .i64 (((w.g i).ol.g i1).x),.int .i64 (((w.g i).ol.g i1).y)])]))),.p (.int .i64 (s.g 3).grain),.mapv 26]),(26,.omq (L.isLt 3 (k)) 3 27 (L.memo (L.tabF w (s.g 3).grain)))],inv:=fun k=>k <= s.n,mu:=fun k=>s.n - k })],iters:=lookI [],rfs:=lookR [],nils:=lookM [],mks:=lookK [(62,c_shapesOf_mk),(127,c_as1_mk)],ren:=fun k=>if k=9 then 27 else if k=7 then 28 else if k=1000 then 9 else if k=1001 then 8 else if k=1002 then 7 else if k=1003 then 10 else if k=1004 then 12 else if k=1005 then 13 else if k=1010 then 16 else if k=1011 then 35 else if k=1012 then 40 else if k=1020 then 17 else if k=1021 then 18 else if k=1022 then 20 else if k=1023 then 21 else if k=1024 then 23 else if k=1025 then 24 else if k=1026 then 25 else if k=1027 then 26 else k,anys:=[1007,1012],pres:=[40],prows:=lookP [(16,{ bs:=[17,18,20,21,23,24,25,26],t:=162,kt:=3,vt:=27,head:=fun j=>[(.sl 4 w.n (fun i=>[.int .i64 ((w.g i).id),.int .i64 ((w.g i).colour),.int .i64 ((w.g i).grain),.sl 2 (w.g i).ol.n (fun i1=>[.int .i64 (((w.g i).ol.g i1).x),.int .i64 (((w.g i).ol.g i1).y)])])),.int .i64 (s.g j).grain],val:=fun j=>L.memo (L.tabF w (s.g j).grain) })] }) (bodyOf Tryz.f78) (stTr Tryz.f78 (c_assign_mk.args (w,s)) (c_assign_mk.lent (w,s))) (retMk Tryz.prog Tryz.f78 c_assign_mk (w,s)) :=
  @Eq.mpr _ (let I:=SV.int .i64;let T:=Int.toNat;let A59:=(4:Nat);let A58:=(1:Int);let A57:=(140737488355328:Int);let A34:=(↑w.n:Int);let A31:=(L.asgF w s);let A39:=(L.sqI A31.bt);let A23:=(0:Int);let A28:=(A23 <= A23/\A23 <= A34/\A34 * (↑(nat_lit 8):Int) <= A57);let A16:=(3:Nat);let A32:=(s.g A16);let A20:=(L.tabF w A32.grain);let A37:=(∀
 (x:Int),L.memo A20 x=L.memo A20 x);let A15:=(↑s.n:Int);let A30:=(A23 <= A15/\A15 <= A15/\A15 * (↑(nat_lit 8):Int) <= A57);let A13:=(nat_lit 0);let A12:=(2:Nat);let A33:=(s.g A12);let A19:=(L.tabF w A33.grain);let A36:=(∀ (x:Int),L.memo A19 x=L.memo A19 x);let A9:=(1:Nat);let A22:=(L.tabF w (s.g A9).grain);let A35:=(∀ (x:Int),L.memo A22 x=L.memo
 A22 x);let A8:=(0:Nat);let A54:=(s.g (A8+A9+A9+A9));let A18:=(L.tabF w (s.g A8).grain);let A29:=(∀ (x:Int),L.memo A18 x=L.memo A18 x);let A7:=[SV.sl (nat_lit 5) s.n fun (i:Nat)=>[I (s.g i).id,I (s.g i).colour,I (s.g i).w,I (s.g i).h,I (s.g i).grain]];let A2:=[SV.sl (nat_lit 4) w.n fun (i:Nat)=>[I (w.g i).id,I (w.g i).colour,I (w.g i).grain,
 SV.sl A12 (w.g i).ol.n fun (i1:Nat)=>[I ((w.g i).ol.g i1).x,I ((w.g i).ol.g i1).y]]];let A17:=[EV.loc (nat_lit 9) A13,EV.loc (nat_lit 8) A13,EV.p (SV.ref A2 A13),EV.loc (nat_lit 7) A13,EV.p (SV.ref A7 A13),EV.loc (nat_lit 10) A13,EV.loc (nat_lit 12) A13,EV.loc (nat_lit 13) A13];let A1:=(w.n=w.n /\ ∀ (i:Nat),let
 A26:=[I (w.g i).id,I (w.g i).colour,I (w.g i).grain,SV.sl A12 (w.g i).ol.n fun (i1:Nat)=>[I ((w.g i).ol.g i1).x,I ((w.g i).ol.g i1).y]];i<w.n->A26=A26);A30/\A12 * T A15 <= A8+A9+A9+A9+A9+A9+A9+A9+A9/\(∃ (g:Nat),A23=(↑g:Int)/\false=L.isLt A8 g/\A1/\(s.g A8).grain=(s.g A8).grain/\false=L.isLt A8 g/\A29/\false=L.isLt A9 g/\A1
 /\ (s.g (A8+A9)).grain=(s.g A9).grain/\false=L.isLt A9 g/\(∀ (x:Int),L.memo (L.tabF w (s.g (A8+A9)).grain) x=L.memo A22 x)/\false=L.isLt A12 g/\A1/\(s.g (A8+A9+A9)).grain=A33.grain/\false=L.isLt A12 g/\(∀ (x:Int),L.memo (L.tabF w (s.g (A8+A9+A9)).grain) x=L.memo A19 x)/\false=L.isLt A16 g/\A1/\A54.grain=A32.grain/\false =
 L.isLt A16 g/\(∀ (x:Int),L.memo (L.tabF w A54.grain) x=L.memo A20 x)/\g <= s.n) /\ ∀ (g:Nat),let A14:=(↑g:Int);let A38:=(A23 <= A14/\A14<(↑(T A15):Int));let A27:=(L.isLt A8 g || decide (T A14=A8));let A25:=(L.isLt A9 g || decide (T A14=A8+A9));let A24:=(L.isLt A12 g || decide (T A14=A8+A9+A9));let A21:=(L.isLt A16 g ||
 decide (T A14=A8+A9+A9+A9));g <= s.n->(decide (A14<A15)=true->(A23 <= A14/\A14<A15)/\(∃ (t:L.Sq L.Want × Int × (Int->L.Sq L.Size)),let A3:=(t.1.n=w.n /\ ∀ (i:Nat),let A44:=(t.1.g i);i<t.1.n -> [I A44.id,I A44.colour,I A44.grain,SV.sl A12 A44.ol.n fun (i1:Nat)=>[I (A44.ol.g i1).x,I (A44.ol.g i1).y]] = [I (w.g i).id,I (w.g
 i).colour,I (w.g i).grain,SV.sl A12 (w.g i).ol.n fun (i1:Nat)=>[I ((w.g i).ol.g i1).x,I ((w.g i).ol.g i1).y]]);(w.n=t.1.n /\ ∀ (i:Nat),let A45:=(t.1.g i);i<w.n -> [I (w.g i).id,I (w.g i).colour,I (w.g i).grain,SV.sl A12 (w.g i).ol.n fun (i1:Nat)=>[I ((w.g i).ol.g i1).x,I ((w.g i).ol.g i1).y]] = [I A45.id,I A45.colour,I A45.grain,SV.sl A12 A45.ol.n fun (i1
:Nat)=>[I (A45.ol.g i1).x,I (A45.ol.g i1).y]])/\(s.g (T A14)).grain=t.2.1/\True /\ ∀ (u:Nat),True->A38/\T A14<T A15/\(T A14=A8->L.isLt A8 g=false/\L.isLt A8 g=false/\(∀ (x:Int),false=true->L.memo t.2.2 x=L.memo A18 x)/\A3/\t.2.1=(s.g A8).grain)/\(T A14=A8+A9->L.isLt A9 g=false/\L.isLt A9 g=false/\(∀ (x:Int),false
 = true->L.memo t.2.2 x=L.memo A22 x)/\A3/\t.2.1=(s.g A9).grain)/\(T A14=A8+A9+A9->L.isLt A12 g=false/\L.isLt A12 g=false/\(∀ (x:Int),false=true->L.memo t.2.2 x=L.memo A19 x)/\A3/\t.2.1=A33.grain)/\(T A14=A8+A9+A9+A9->L.isLt A16 g=false/\L.isLt A16 g=false/\(∀ (x:Int),false=true->L.memo t.2.2 x =
 L.memo A20 x)/\A3/\t.2.1=A32.grain)/\InK .i64 (A14+A58) /\ ∃ (g':Nat),A14+A58=(↑g':Int)/\A15=A15/\nat_lit 0=nat_lit 0/\nat_lit 0=nat_lit 0/\nat_lit 0=nat_lit 0/\nat_lit 0=nat_lit 0/\SV.ref A7 A13=SV.ref A7 A13/\SV.ref A2 A13=SV.ref A2 A13/\A27=L.isLt A8 g'/\A1/\(s.g A8).grain=(s.g A8).grain/\A27=L.isLt A8 g' /\
 A29/\A25=L.isLt A9 g'/\A1/\(s.g A9).grain=(s.g A9).grain/\A25=L.isLt A9 g'/\A35/\A24=L.isLt A12 g'/\A1/\A33.grain=A33.grain/\A24=L.isLt A12 g'/\A36/\A21=L.isLt A16 g'/\A1/\A32.grain=A32.grain/\A21=L.isLt A16 g'/\A37/\T A15=T A15/\false=false/\A23=A23/\Value.slice Option.none A8 A8=Value.slice Option.none A8 A8/\g' <= s.n/\s.n - g'<s.n
 - g) /\ ∃ (t:L.Sq L.Want × Int × (Int->L.Sq L.Size)),let A4:=(t.1.n=w.n /\ ∀ (i:Nat),let A46:=(t.1.g i);i<t.1.n -> [I A46.id,I A46.colour,I A46.grain,SV.sl A12 A46.ol.n fun (i1:Nat)=>[I (A46.ol.g i1).x,I (A46.ol.g i1).y]] = [I (w.g i).id,I (w.g i).colour,I (w.g i).grain,SV.sl A12 (w.g i).ol.n fun (i1:Nat)=>[I ((w.g i).ol.g i1).x,I ((w.g i).ol.g i1).y]]);(w.n
 = t.1.n /\ ∀ (i:Nat),let A47:=(t.1.g i);i<w.n -> [I (w.g i).id,I (w.g i).colour,I (w.g i).grain,SV.sl A12 (w.g i).ol.n fun (i1:Nat)=>[I ((w.g i).ol.g i1).x,I ((w.g i).ol.g i1).y]] = [I A47.id,I A47.colour,I A47.grain,SV.sl A12 A47.ol.n fun (i1:Nat)=>[I (A47.ol.g i1).x,I (A47.ol.g i1).y]])/\(s.g (T A14)).grain=t.2.1/\True /\ ∀ (u:Nat),True->A38/\T A14<T A15
 /\ (T A14=A8->L.isLt A8 g=false/\L.isLt A8 g=false/\(∀ (x:Int),false=true->L.memo t.2.2 x=L.memo A18 x)/\A4/\t.2.1=(s.g A8).grain)/\(T A14=A8+A9->L.isLt A9 g=false/\L.isLt A9 g=false/\(∀ (x:Int),false=true->L.memo t.2.2 x=L.memo A22 x)/\A4/\t.2.1=(s.g A9).grain)/\(T A14=A8+A9+A9->L.isLt A12 g=false /\
 L.isLt A12 g=false/\(∀ (x:Int),false=true->L.memo t.2.2 x=L.memo A19 x)/\A4/\t.2.1=A33.grain)/\(T A14=A8+A9+A9+A9->L.isLt A16 g=false/\L.isLt A16 g=false/\(∀ (x:Int),false=true->L.memo t.2.2 x=L.memo A20 x)/\A4/\t.2.1=A32.grain)/\InK .i64 (A14+A58) /\ ∃ (g':Nat),A14+A58=(↑g':Int)/\A15=A15 /\
 nat_lit 0=nat_lit 0/\nat_lit 0=nat_lit 0/\nat_lit 0=nat_lit 0/\nat_lit 0=nat_lit 0/\SV.ref A7 A13=SV.ref A7 A13/\SV.ref A2 A13=SV.ref A2 A13/\A27=L.isLt A8 g'/\A1/\(s.g A8).grain=(s.g A8).grain/\A27=L.isLt A8 g'/\A29/\A25=L.isLt A9 g'/\A1/\(s.g A9).grain=(s.g A9).grain/\A25=L.isLt A9 g'/\A35/\A24=L.isLt A12 g'/\A1/\A33.grain =
 A33.grain/\A24=L.isLt A12 g'/\A36/\A21=L.isLt A16 g'/\A1/\A32.grain=A32.grain/\A21=L.isLt A16 g'/\A37/\T A15=T A15/\false=false/\A23=A23/\Value.slice Option.none A8 A8=Value.slice Option.none A8 A8/\g' <= s.n/\s.n - g'<s.n - g)/\(decide (A14<A15)=false->A30/\(A28 /\ ∃ (t:L.Sq L.Want × L.Sq L.Sheet × Nat × List Int × (Nat->Int) ×
 Int × (Nat->Int) × L.AS),let A10:=(L.putF t.1 t.2.1 t.snd.2.1 t.snd.snd.2.1 t.snd.snd.snd.snd.2.1 t.snd.snd.snd.snd.snd.2.1 t.snd.snd.snd.snd.snd.2.2);let A55:=(L.sqI A10.bt);let A5:=(w.n=t.1.n /\ ∀ (i:Nat),let A48:=(t.1.g i);i<w.n -> [I (w.g i).id,I (w.g i).colour,I (w.g i).grain,SV.sl A12 (w.g i).ol.n fun (i1:Nat)=>[I ((w.g i).ol.g i1).x,I ((w.g i).ol.g i1).y]] =
 [I A48.id,I A48.colour,I A48.grain,SV.sl A12 A48.ol.n fun (i1:Nat)=>[I (A48.ol.g i1).x,I (A48.ol.g i1).y]]);A23=(↑t.snd.2.1:Int)/\nat_lit 0=t.snd.2.1/\A23=t.snd.snd.snd.snd.2.1/\nat_lit 0=A8/\nat_lit 0=A8/\SV.ref A2 A13=SV.ref [SV.sl A59 t.1.n fun (i:Nat)=>let A49:=(t.1.g i);[I A49.id,I A49.colour,I A49.grain,SV.sl A12 A49.ol.n fun
 (i1:Nat)=>[I (A49.ol.g i1).x,I (A49.ol.g i1).y]]] A8/\nat_lit 0=A8/\SV.ref A7 A13=SV.ref [SV.sl (5:Nat) t.2.1.n fun (i:Nat)=>let A40:=(t.2.1.g i);[I A40.id,I A40.colour,I A40.w,I A40.h,I A40.grain]] A8/\nat_lit 0=A8/\nat_lit 0=A8/\nat_lit 0=A8/\false=t.snd.snd.snd.snd.snd.2.2.fd/\A23=t.snd.snd.snd.snd.snd.2.2.ls/\(L.sqI
 t.snd.snd.snd.snd.snd.2.2.bt).n=A8/\EV.cl (nat_lit 127) A17=EV.cl (127:Nat) [EV.loc (9:Nat) A13,EV.loc (8:Nat) A13,EV.p (SV.ref [SV.sl (nat_lit 4) t.1.n fun (i:Nat)=>let A50:=(t.1.g i);[I A50.id,I A50.colour,I A50.grain,SV.sl A12 A50.ol.n fun (i1:Nat)=>[I (A50.ol.g i1).x,I (A50.ol.g i1).y]]] A13),EV.loc (7:Nat) A13,
 EV.p (SV.ref [SV.sl (nat_lit 5) t.2.1.n fun (i:Nat)=>let A41:=(t.2.1.g i);[I A41.id,I A41.colour,I A41.w,I A41.h,I A41.grain]] A13),EV.loc (10:Nat) A13,EV.loc (12:Nat) A13,EV.loc (13:Nat) A13]/\T A15=t.2.1.n/\L.isLt A8 g=L.isLt A8 t.2.1.n/\A5/\(s.g A8).grain=(t.2.1.g A8).grain/\L.isLt A8 g=L.isLt A8 t.2.1.n/\(∀ (x:Int),L.memo
 A18 x=L.memo (L.tabF t.1 (t.2.1.g A8).grain) x)/\L.isLt A9 g=L.isLt A9 t.2.1.n/\A5/\(s.g A9).grain=(t.2.1.g A9).grain/\L.isLt A9 g=L.isLt A9 t.2.1.n/\(∀ (x:Int),L.memo A22 x=L.memo (L.tabF t.1 (t.2.1.g A9).grain) x)/\L.isLt A12 g=L.isLt A12 t.2.1.n/\A5/\A33.grain=(t.2.1.g A12).grain/\L.isLt A12 g=L.isLt A12 t.2.1.n/\(∀ (x:Int),L.memo A19 x=L.memo (L.tabF t.1
 (t.2.1.g A12).grain) x)/\L.isLt A16 g=L.isLt A16 t.2.1.n/\A5/\A32.grain=(t.2.1.g A16).grain/\L.isLt A16 g=L.isLt A16 t.2.1.n/\(∀ (x:Int),L.memo A20 x=L.memo (L.tabF t.1 (t.2.1.g A16).grain) x)/\(T A15=t.2.1.n /\ ∀ (i:Nat),i<T A15 -> [I A23] = [I (t.snd.snd.snd.snd.snd.2.1 i)])/\(T A34=t.1.n /\ ∀ (i:Nat),i<T A34 -> [I A23] = [I (L.atI t.snd.snd.2.1 t.snd.snd.snd.2.1 i)])
 /\ (L.okW t.1/\t.2.1.n <= A59/\(∀ (k:Nat),k<t.2.1.n->L.vSheet (t.2.1.g k)=true)/\t.snd.2.1 <= t.1.n/\L.lenI t.snd.snd.2.1=t.snd.2.1/\L.okG t.2.1.n t.snd.2.1 t.snd.snd.snd.snd.snd.2.1/\A23 <= t.snd.snd.snd.snd.2.1/\t.snd.snd.snd.snd.2.1 <= (↑t.snd.2.1:Int) * (16777216:Int)) /\ ∀ (u:Nat->Int),True -> ∃ (u:Nat),(A55.n=A39.n /\ ∀ (i:Nat),i<A55.n -> [I (A55.g i)] = [I
 (A39.g i)])/\A10.ls=A31.ls/\A10.fd=A31.fd/\True)/\A28 /\ ∃ (t:L.Sq L.Want × L.Sq L.Sheet × Nat × List Int × (Nat->Int) × Int × (Nat->Int) × L.AS),let A11:=(L.putF t.1 t.2.1 t.snd.2.1 t.snd.snd.2.1 t.snd.snd.snd.snd.2.1 t.snd.snd.snd.snd.snd.2.1 t.snd.snd.snd.snd.snd.2.2);let A56:=(L.sqI A11.bt);let A6:=(w.n=t.1.n /\ ∀ (i:Nat),let A51:=(t.1.g i);i<w.n -> [I (w.g i).id,I
 (w.g i).colour,I (w.g i).grain,SV.sl A12 (w.g i).ol.n fun (i1:Nat)=>[I ((w.g i).ol.g i1).x,I ((w.g i).ol.g i1).y]] = [I A51.id,I A51.colour,I A51.grain,SV.sl A12 A51.ol.n fun (i1:Nat)=>[I (A51.ol.g i1).x,I (A51.ol.g i1).y]]);A23=(↑t.snd.2.1:Int)/\nat_lit 0=t.snd.2.1/\A23=t.snd.snd.snd.snd.2.1/\nat_lit 0=A8/\nat_lit 0=A8/\SV.ref A2 A13=SV.ref
 [SV.sl A59 t.1.n fun (i:Nat)=>let A52:=(t.1.g i);[I A52.id,I A52.colour,I A52.grain,SV.sl A12 A52.ol.n fun (i1:Nat)=>[I (A52.ol.g i1).x,I (A52.ol.g i1).y]]] A8/\nat_lit 0=A8/\SV.ref A7 A13=SV.ref [SV.sl (5:Nat) t.2.1.n fun (i:Nat)=>let A42:=(t.2.1.g i);[I A42.id,I A42.colour,I A42.w,I A42.h,I A42.grain]] A8/\nat_lit 0=A8/\nat_lit 0 =
 A8/\nat_lit 0=A8/\false=t.snd.snd.snd.snd.snd.2.2.fd/\A23=t.snd.snd.snd.snd.snd.2.2.ls/\(L.sqI t.snd.snd.snd.snd.snd.2.2.bt).n=A8/\EV.cl (nat_lit 127) A17=EV.cl (127:Nat) [EV.loc (9:Nat) A13,EV.loc (8:Nat) A13,EV.p (SV.ref [SV.sl (nat_lit 4) t.1.n fun (i:Nat)=>let A53:=(t.1.g i);[I A53.id,I A53.colour,I A53.grain,
 SV.sl A12 A53.ol.n fun (i1:Nat)=>[I (A53.ol.g i1).x,I (A53.ol.g i1).y]]] A13),EV.loc (7:Nat) A13,EV.p (SV.ref [SV.sl (nat_lit 5) t.2.1.n fun (i:Nat)=>let A43:=(t.2.1.g i);[I A43.id,I A43.colour,I A43.w,I A43.h,I A43.grain]] A13),EV.loc (10:Nat) A13,EV.loc (12:Nat) A13,EV.loc (13:Nat) A13]/\T A15=t.2.1.n/\L.isLt A8 g =
 L.isLt A8 t.2.1.n/\A6/\(s.g A8).grain=(t.2.1.g A8).grain/\L.isLt A8 g=L.isLt A8 t.2.1.n/\(∀ (x:Int),L.memo A18 x=L.memo (L.tabF t.1 (t.2.1.g A8).grain) x)/\L.isLt A9 g=L.isLt A9 t.2.1.n/\A6/\(s.g A9).grain=(t.2.1.g A9).grain/\L.isLt A9 g=L.isLt A9 t.2.1.n/\(∀ (x:Int),L.memo A22 x=L.memo (L.tabF t.1 (t.2.1.g A9).grain) x)/\L.isLt A12 g=L.isLt A12 t.2.1.n/\A6 /\
 A33.grain=(t.2.1.g A12).grain/\L.isLt A12 g=L.isLt A12 t.2.1.n/\(∀ (x:Int),L.memo A19 x=L.memo (L.tabF t.1 (t.2.1.g A12).grain) x)/\L.isLt A16 g=L.isLt A16 t.2.1.n/\A6/\A32.grain=(t.2.1.g A16).grain/\L.isLt A16 g=L.isLt A16 t.2.1.n/\(∀ (x:Int),L.memo A20 x=L.memo (L.tabF t.1 (t.2.1.g A16).grain) x)/\(T A15=t.2.1.n /\ ∀ (i:Nat),i<T A15 -> [I A23] = [I
 (t.snd.snd.snd.snd.snd.2.1 i)])/\(T A34=t.1.n /\ ∀ (i:Nat),i<T A34 -> [I A23] = [I (L.atI t.snd.snd.2.1 t.snd.snd.snd.2.1 i)])/\(L.okW t.1/\t.2.1.n <= A59/\(∀ (k:Nat),k<t.2.1.n->L.vSheet (t.2.1.g k)=true)/\t.snd.2.1 <= t.1.n/\L.lenI t.snd.snd.2.1=t.snd.2.1/\L.okG t.2.1.n t.snd.2.1 t.snd.snd.snd.snd.snd.2.1/\A23 <= t.snd.snd.snd.snd.2.1/\t.snd.snd.snd.snd.2.1 <= (↑t.snd.2.1
:Int) * (16777216:Int)) /\ ∀ (u:Nat->Int),True -> ∃ (u:Nat),(A56.n=A39.n /\ ∀ (i:Nat),i<A56.n -> [I (A56.g i)] = [I (A39.g i)])/\A11.ls=A31.ls/\A11.fd=A31.fd/\True)) (by kernel_rfl) (by
 conv=>zeta
 have hp:L.okW w/\s.n <= 4/\(∀ k,k<s.n->L.vSheet (s.g k)=true):=hp
 obtain ⟨hok,hs4,hsv⟩:=hp
 have hw4:=hok.1
 have b1:0 <= (s.n:Int):=Int.natCast_nonneg _
 have b2:(s.n:Int) * 8 <= 140737488355328:=by omega
 have b3:0 <= (w.n:Int):=Int.natCast_nonneg _
 have b4:(w.n:Int) * 8 <= 140737488355328:=by omega
 have b5:2 * s.n <= 0+1+1+1+1+1+1+1+1:=by omega
 rw [Int.toNat_natCast s.n,Int.toNat_natCast w.n]
 refine ⟨⟨b1,Int.le_refl _,b2⟩,b5,⟨0,(by (try dsimp only);(repeat' with_reducible apply And.intro) <;> first | with_reducible rfl | with_reducible exact Nat.zero_le _ | with_reducible exact isLt_0 _ | with_reducible exact fun _=>rfl | with_reducible exact fun _ _=>rfl | with_reducible exact trivial | exact rfl | (intro _;exact rfl) | (intro _ _;exact rfl) | exact Nat.zero_le _ | exact isLt_0 _ | exact trivial | (intro _ h_;exact absurd h_ (Nat.not_lt_zero _)))⟩,fun g hg=>?_⟩
 rw [Int.toNat_natCast g]
 refine ⟨fun hc=>?_,fun hc=>?_⟩
 ·have hc:(g:Int)<(s.n:Int):=of_decide_eq_true hc
  have hk:g<s.n:=by omega
  have c0:0 <= (g:Int)/\(g:Int)<(s.n:Int):=⟨Int.natCast_nonneg _,hc⟩
  have k2:InK .i64 ((g:Int)+1):=jK
  have kk:g+1 <= s.n:=hk
  have mm:s.n - (g+1)<s.n - g:=by omega
  have cn:(g:Int)+1=((g+1:Nat):Int):=by omega
  repeat' with_reducible apply And.intro
  all_goals first | exact c0.1 | exact c0.2 | exact ⟨(w,(s.g g).grain,L.tabF w (s.g g).grain),(by (try dsimp only);(repeat' with_reducible apply And.intro) <;> first | with_reducible rfl | with_reducible exact fun _=>rfl | with_reducible exact fun _ _=>rfl | with_reducible exact trivial | (intro u _;exact (by (try dsimp only);(repeat' with_reducible apply And.intro) <;> first | with_reducible rfl | with_reducible assumption | with_reducible exact c0.1 | with_reducible exact c0.2 | with_reducible exact fun _=>rfl | with_reducible exact fun _ _=>rfl | with_reducible exact trivial | (intro e;exact by subst e;exact ⟨isLt_self _,isLt_self _,fun _ h=>(by cases h),⟨rfl,fun _ _=>rfl⟩,rfl⟩) | exact ⟨g+1,(by (try dsimp only);(repeat' with_reducible apply And.intro) <;> first | with_reducible rfl | with_reducible assumption | with_reducible exact isLt_succ 0 g | with_reducible exact isLt_succ 1 g | with_reducible exact isLt_succ 2 g | with_reducible exact isLt_succ 3 g | with_reducible exact fun _=>rfl | with_reducible exact fun _ _=>rfl | with_reducible exact trivial | exact rfl | (intro _;exact rfl) | (intro _ _;exact rfl) | exact cn | exact kk | exact mm | exact isLt_succ 0 g | exact isLt_succ 1 g | exact isLt_succ 2 g | exact isLt_succ 3 g | exact trivial | (intro _ h_;exact absurd h_ (Nat.not_lt_zero _)))⟩ | exact rfl | (intro _;exact rfl) | (intro _ _;exact rfl) | exact c0.1 | exact c0.2 | exact hk | exact k2 | exact trivial | (intro _ h_;exact absurd h_ (Nat.not_lt_zero _)))) | exact rfl | (intro _;exact rfl) | (intro _ _;exact rfl) | exact trivial | (intro _ h_;exact absurd h_ (Nat.not_lt_zero _)))⟩
 ·have hc:¬ (g:Int)<(s.n:Int):=of_decide_eq_false hc
  obtain rfl:g=s.n:=by omega
  have z0:(0:Int) <= 0:=Int.le_refl _
  have og:L.okG s.n 0 (fun _=>0):=fun k _=>⟨Int.le_refl _,(by show (0:Int)<2 ^ 0;decide)⟩
  have at0:∀ i,i<w.n -> [SV.int .i64 0] = [SV.int .i64 (L.atI [] (fun _=>0) i)]:=fun i _=>by
   unfold L.atI;rfl
  have s1:(0:Int) <= ((0:Nat):Int) * 16777216:=by decide
  repeat' with_reducible apply And.intro
  all_goals first | exact b1 | exact b2 | exact b3 | exact b4 | exact z0 | exact Int.le_refl _ | exact ⟨(w,s,0,[],fun _=>0,0,fun _=>0,L.as0),(by (try dsimp only);(repeat' with_reducible apply And.intro) <;> first | with_reducible rfl | with_reducible assumption | with_reducible exact Nat.zero_le _ | with_reducible exact fun _=>rfl | with_reducible exact fun _ _=>rfl | with_reducible exact trivial | (intro u _;exact ⟨(0:Nat),(by (try dsimp only);(repeat' with_reducible apply And.intro) <;> first | with_reducible rfl | with_reducible exact fun _=>rfl | with_reducible exact fun _ _=>rfl | with_reducible exact trivial | exact rfl | (intro _;exact rfl) | (intro _ _;exact rfl) | exact trivial | (intro _ h_;exact absurd h_ (Nat.not_lt_zero _)))⟩) | exact rfl | (intro _;exact rfl) | (intro _ _;exact rfl) | exact hok | exact hs4 | exact hsv | exact Nat.zero_le _ | exact og | exact z0 | exact s1 | exact at0 | exact trivial | (intro _ h_;exact absurd h_ (Nat.not_lt_zero _)))⟩)
theorem c_assign_en:Enters Tryz.prog 78:=fun args w=>by kernel_rfl
theorem c_assign_mok:MkOk Tryz.prog 78 c_assign_mk:=mk_ok (n:=2) Tryz.func78 (c:=bodyOf Tryz.f78) (by kernel_rfl) mixed ⟨fun t=>rfl,fun t=>rfl,fun t u=>rfl,fun t u=>rfl,fun t u=>rfl,fun t u=>⟨rfl,rfl⟩,by kernel_rfl,by kernel_rfl⟩ (fun ⟨w,s⟩ hp=>⟨_,c_assign_vc w s hp,⟨show SpecsL Tryz.prog _ from SpecsL.nil,rfl,⟨show ItersL Tryz.prog _ from ItersL.nil,⟨TrsOk.no1 (fun _=>rfl),⟨show MksL Tryz.prog _ from (MksL.cons c_shapesOf_mok c_shapesOf_en (MksL.cons c_as1_mok c_as1_en MksL.nil)),FamsOk.none (fun _=>rfl)⟩⟩⟩⟩⟩)
end
end Go.Proofs.YtpgaejicfbpcmaaGreat
namespace Go.Proofs.YtpgaejicfbpcmaaGreat
open Go.SE Go.RowKit
set_option maxRecDepth 100000
set_option maxHeartbeats 4000000
set_option linter.unusedVariables false
attribute [local irreducible] vc
def L.inS (n:Nat) (l:List Int):Prop:=∀ x,x ∈ l->0 <= x/\x<(n:Int)
theorem asP_in (w:L.Sq L.Want) (s:L.Sq L.Sheet):∀ (f i:Nat) (A:List Int) (sum:Int) (G:Nat->Int) (st:L.AS),L.inS s.n A->L.inS s.n st.bt->L.inS s.n (L.asP w s f i A sum G st).bt
 | 0,_,_,_,_,_,_,h=>h
 | f+1,i,A,sum,G,st,hA,h=>by
   rw [L.asP]
   split
   ·exact h
   ·split
    ·exact hA
    ·have key : ∀ (l : List Nat) (st : L.AS), (∀ k, k ∈ l -> k < s.n) -> L.inS s.n st.bt -> L.inS s.n (l.foldl (fun st k => bif L.asNo w s G i k then st else L.asP w s f (i + 1) (L.snocI A k) (sum + L.asM s G k) (L.asG G k i) st) st).bt := fun l => by
      induction l with
      | nil=>intro st _ h;exact h
      | cons k l ih =>
        intro st hl h
        rw [List.foldl_cons]
        refine ih _ (fun k hk=>hl k (List.mem_cons_of_mem _ hk)) ?_
        cases L.asNo w s G i k with
        | true=>exact h
        | false =>
          refine asP_in w s f _ _ _ _ _ (fun x hx=>?_) h
          unfold L.snocI at hx
          rcases List.mem_append.1 hx with hx | hx
          ·exact hA x hx
          ·have:=hl k (List.mem_cons_self ..)
           rw [List.mem_singleton.1 hx];omega
     exact key _ st (fun k hk=>List.mem_range.1 hk) h
theorem asgF_in (w:L.Sq L.Want) (s:L.Sq L.Sheet) {i:Nat} (hi:i<(L.sqI (L.asgF w s).bt).n):0 <= (L.sqI (L.asgF w s).bt).g i/\(L.sqI (L.asgF w s).bt).g i<(s.n:Int):=by
 have h:L.inS s.n (L.asgF w s).bt:=asP_in w s _ _ _ _ _ _ (fun x hx=>by cases hx) (fun x hx=>by cases hx)
 have hi:i<(L.asgF w s).bt.length:=hi
 have e:(L.sqI (L.asgF w s).bt).g i=(L.asgF w s).bt[i]:=by
  show (L.asgF w s).bt.getD i 0=_
  rw [List.getD_eq_getElem?_getD,List.getElem?_eq_getElem hi];rfl
 rw [e]
 exact h _ (List.getElem_mem hi)
theorem asP_len (w:L.Sq L.Want) (s:L.Sq L.Sheet):∀ (f i:Nat) (A:List Int) (sum:Int) (G:Nat->Int) (st:L.AS),A.length=i->(st.bt.length=0\/st.bt.length=w.n)->(L.asP w s f i A sum G st).bt.length=0\/(L.asP w s f i A sum G st).bt.length=w.n
 | 0,_,_,_,_,_,_,h=>h
 | f+1,i,A,sum,G,st,hA,h=>by
   rw [L.asP]
   split
   ·exact h
   ·split
    ·rename_i e;exact .inr (hA.trans e)
    ·have key : ∀ (l : List Nat) (st : L.AS), (st.bt.length = 0 \/ st.bt.length = w.n) -> ((l.foldl (fun st k => bif L.asNo w s G i k then st else L.asP w s f (i + 1) (L.snocI A k) (sum + L.asM s G k) (L.asG G k i) st) st).bt.length = 0 \/ (l.foldl (fun st k => bif L.asNo w s G i k then st else L.asP w s f (i + 1) (L.snocI A k) (sum + L.asM s G k) (L.asG G k i) st) st).bt.length = w.n) := fun l => by
      induction l with
      | nil=>intro st h;exact h
      | cons k l ih =>
        intro st h
        rw [List.foldl_cons]
        refine ih _ ?_
        cases L.asNo w s G i k with
        | true=>exact h
        | false=>exact asP_len w s f _ _ _ _ _ (by unfold L.snocI;simp [hA]) h
     exact key _ st h
theorem asgF_len (w:L.Sq L.Want) (s:L.Sq L.Sheet):(L.sqI (L.asgF w s).bt).n <= w.n:=by
 have:=asP_len w s (w.n+1 - 0) 0 [] 0 (fun _=>0) L.as0 rfl (.inl rfl)
 have:(L.asgF w s).bt.length=0\/(L.asgF w s).bt.length=w.n:=this
 show (L.asgF w s).bt.length <= w.n
 omega
def L.preS (s:L.Sq L.Sheet):Prop:=(s.n <= 4\/7<s.n)/\s.n <= 1000000
def L.agE (w:L.Sq L.Want) (s:L.Sq L.Sheet):Int:=bif !decide (L.badE w s true=0) then L.badE w s true else bif !(L.asgF w s).fd then 52 else 0
def L.agN (w:L.Sq L.Want) (s:L.Sq L.Sheet):Nat:=bif decide (L.agE w s=0) then (L.sqI (L.asgF w s).bt).n else 0
def L.agA (w:L.Sq L.Want) (s:L.Sq L.Sheet):Int:=bif decide (L.agE w s=0) then (L.asgF w s).ls else 0
def L.agI (w:L.Sq L.Want) (s:L.Sq L.Sheet) (i:Nat):Int:=(s.g ((L.sqI (L.asgF w s).bt).g i).toNat).id
theorem vSheets_o9 {s:L.Sq L.Sheet} (h:L.vSheets s=true):∀ i,i<s.n->L.vSheet (s.g i)=true:=fun i hi=>by
 have:=allB_iff.1 h i hi
 simp only [Bool.not_eq_true'] at this
 unfold L.badAt at this
 cases h1:L.vSheet (s.g i)
 ·simp only [h1] at this;cases this
 ·rfl
section
attribute [local irreducible] L.putK L.putF L.asP L.asgF L.roomB L.tabF L.tab L.all
def c_Assign_p (w:(L.Sq L.Want)) (s:(L.Sq L.Sheet)):Prop:=L.preW w/\L.preS s
def c_Assign_r (w:(L.Sq L.Want)) (s:(L.Sq L.Sheet)):SV:=.tup [.sl 1 (L.agN w s) (fun i=>[.int .i64 (L.agI w s i)]),.int .i64 (L.agA w s),.int .i64 (L.agE w s)]
def c_Assign_s:List EV->Option (Prop × SV)
 | [.p (.sl 4 w_n w_g),.p (.sl 5 s_n s_g)]=>some ((∀ i,i<w_n->okWant (w_g i))/\(∀ i,i<s_n->s_g i = [.int .i64 ((ofSheet (s_g i)).id),.int .i64 ((ofSheet (s_g i)).colour),.int .i64 ((ofSheet (s_g i)).w),.int .i64 ((ofSheet (s_g i)).h),.int .i64 ((ofSheet (s_g i)).grain)])/\c_Assign_p (⟨w_n,fun i=>ofWant (w_g i)⟩:(L.Sq L.Want)) (⟨s_n,fun i=>ofSheet (s_g i)⟩:(L.Sq L.Sheet)),c_Assign_r (⟨w_n,fun i=>ofWant (w_g i)⟩:(L.Sq L.Want)) (⟨s_n,fun i=>ofSheet (s_g i)⟩:(L.Sq L.Sheet)))
 | _=>none
abbrev c_Assign_S:SE.Spec:=(specO c_Assign_s)
def c_Assign_C:Cfg:={ cC with muts:=[40],frz:=lookN [(12,[40])],specs:=lookS [(60,c_bad_S)],mks:=lookK [(78,c_assign_mk)],ren:=fun k=>k,nilsL:=lookM [(8,[(4,40,3,1)])] }
theorem c_Assign_vc (w:(L.Sq L.Want)) (s:(L.Sq L.Sheet)) (hp:c_Assign_p w s):vc Tryz.prog ({ c_Assign_C with loops:=lookL [(8,{ T:=Nat,keep:=[1,4,5,27,28],keepO:=[],chg:=fun i=>[(29,.p (.int .i64 (i:Int)))],own:=fun i=>[(40,.row 3 1 i (fun j=>[.int .i64 (L.agI w s j)]))],inv:=fun i=>i <= (L.sqI (L.asgF w s).bt).n,mu:=fun i=>(L.sqI (L.asgF w s).bt).n - i })],rfs:=lookR [] }) (bodyOf Tryz.f27) (st0 Tryz.f27 [.p (.sl 4 w.n (fun i=>[.int .i64 ((w.g i).id),.int .i64 ((w.g i).colour),.int .i64 ((w.g i).grain),.sl 2 (w.g i).ol.n (fun i1=>[.int .i64 (((w.g i).ol.g i1).x),.int .i64 (((w.g i).ol.g i1).y)])])),.p (.sl 5 s.n (fun i=>[.int .i64 ((s.g i).id),.int .i64 ((s.g i).colour),.int .i64 ((s.g i).w),.int .i64 ((s.g i).h),.int .i64 ((s.g i).grain)]))]) (retFn Tryz.prog Tryz.f27 (c_Assign_r w s)) :=
 @Eq.mpr _ (let I:=SV.int .i64;let T:=Int.toNat;let A16:=(0:Nat);let A14:=(1000000:Nat);let A12:=(L.Sq.mk s.n fun (i:Nat)=>s.g i);let A11:=(0:Int);let A4:=(L.sqI (L.asgF w s).bt);let A2:=(L.Sq.mk w.n fun (i:Nat)=>L.Want.mk (w.g i).id (w.g i).colour (w.g i).grain (L.Sq.mk (w.g i).ol.n fun (i_1:Nat)=>(w.g i).ol.g i_1));let A3:=(!decide (L.badE A2 A12 true=A11));((∀ (i:Nat),i<w.n -> ∀ (i_1:Nat),let A9:=((w.g i).ol.g i_1);i_1<(w.g i).ol.n -> [I A9.x,I A9.y] = [I A9.x,I A9.y])/\(∀ (i:Nat),let A5:=[I (s.g i).id,I (s.g i).colour,I (s.g i).w,I (s.g i).h,I (s.g i).grain];i<s.n->A5=A5)/\w.n <= A14/\(∀ (i:Nat),i<w.n->(w.g i).ol.n <= A14)/\s.n <= A14)/\(A3=true->L.agN w s=A16/\A11=L.agA w s/\L.badE A2 A12 true=L.agE w s)/\(A3=false -> ∃ (t:L.Sq L.Want × L.Sq L.Sheet),let A7:=(L.asgF t.1 t.2);let A1:=(L.sqI A7.bt);let A10:=(↑A1.n:Int);(w.n=t.1.n /\ ∀ (i:Nat),let A13:=(t.1.g i);i<w.n -> [I (w.g i).id,I (w.g i).colour,I (w.g i).grain,SV.sl (2:Nat) (w.g i).ol.n fun (i1:Nat)=>[I ((w.g i).ol.g i1).x,I ((w.g i).ol.g i1).y]] = [I A13.id,I A13.colour,I A13.grain,SV.sl (2:Nat) A13.ol.n fun (i1:Nat)=>[I (A13.ol.g i1).x,I (A13.ol.g i1).y]])/\(s.n=t.2.n /\ ∀ (i:Nat),let A15:=(t.2.g i);i<s.n -> [I (s.g i).id,I (s.g i).colour,I (s.g i).w,I (s.g i).h,I (s.g i).grain] = [I A15.id,I A15.colour,I A15.w,I A15.h,I A15.grain])/\(L.okW t.1/\t.2.n <= (4:Nat) /\ ∀ (k:Nat),k<t.2.n->L.vSheet (t.2.g k)=true) /\ ∀ (u:Nat),True->((!A7.fd)=true->L.agN w s=A16/\A11=L.agA w s/\(52:Int)=L.agE w s)/\((!A7.fd)=false->(∃ (g:Nat),A11=(↑g:Int)/\(A16=g /\ ∀ (i:Nat),i<A16 -> [] = [I (L.agI w s i)])/\g <= A4.n) /\ ∀ (g:Nat),let A8:=(↑g:Int);g <= A4.n->(decide (A8<A10)=true->(A11 <= A8/\A8<A10)/\(A11 <= A1.g (T A8)/\A1.g (T A8)<(↑s.n:Int))/\(g+nat_lit 1) * nat_lit 8 <= (140737488355328:Nat)/\InK .i64 (A8+(1:Int)) /\ ∃ (g':Nat),A8+(1:Int)=(↑g':Int)/\A10=A10/\(A1.n=A1.n /\ ∀ (i:Nat),i<A1.n -> [I (A1.g i)] = [I (A1.g i)])/\A7.ls=A7.ls/\(s.n=s.n /\ ∀ (i:Nat),let A6:=[I (s.g i).id,I (s.g i).colour,I (s.g i).w,I (s.g i).h,I (s.g i).grain];i<s.n->A6=A6)/\(g+nat_lit 1=g' /\ ∀ (i:Nat),i<g+nat_lit 1->appGet g (fun (j:Nat)=>[I (L.agI w s j)]) (fun (x:Nat)=>[I (s.g (T (A1.g (T A8)))).id]) i = [I (L.agI w s i)])/\g' <= A4.n/\A4.n - g'<A4.n - g)/\(decide (A8<A10)=false->(g=L.agN w s /\ ∀ (i:Nat),i<g -> [I (L.agI w s i)] = [I (L.agI w s i)])/\A7.ls=L.agA w s/\A11=L.agE w s)))) (by kernel_rfl) (by
 conv=>zeta
 obtain ⟨hw,hs⟩:=(show L.preW w/\L.preS s from hp)
 have fin:∀ e,L.agE w s=e->e ≠ 0->L.agN w s=0/\0=L.agA w s/\e=L.agE w s:=fun e h h0=>⟨by unfold L.agN;rw [h,decide_eq_false h0];rfl,by unfold L.agA;rw [h,decide_eq_false h0];rfl,h.symm⟩
 refine ⟨⟨fun _ _ _ _=>rfl,fun _ _=>rfl,hw.2.1,hw.2.2,hs.2⟩,fun h=>?_,fun h=>?_⟩
 ·have h:(!decide (L.badE w s true=0))=true:=h
  exact fin _ (by unfold L.agE;rw [h];rfl) (of_decide_eq_false (notT h))
 ·have h:(!decide (L.badE w s true=0))=false:=h
  obtain ⟨-,v2,-,v4,v5⟩:=badE_0 (of_decide_eq_true (notF h))
  have ok:=okW_of hw v4
  have s4:s.n <= 4:=by have:=hs.1;omega
  refine ⟨(w,s),⟨rfl,fun _ _=>rfl⟩,⟨rfl,fun _ _=>rfl⟩,⟨ok,s4,vSheets_o9 v2⟩,fun _ _=>⟨fun h2=>?_,fun h2=>?_⟩⟩
  ·have h2:(!(L.asgF w s).fd)=true:=h2
   exact fin 52 (by unfold L.agE;rw [h,h2];rfl) (by decide)
  ·have h2:(!(L.asgF w s).fd)=false:=h2
   have e:L.agE w s=0:=by unfold L.agE;rw [h,h2];rfl
   have eN:L.agN w s=(L.sqI (L.asgF w s).bt).n:=by unfold L.agN;rw [e];rfl
   have eA:L.agA w s=(L.asgF w s).ls:=by unfold L.agA;rw [e];rfl
   rw [e,eN,eA]
   have hl:=asgF_len w s
   have hw4:=ok.1
   dsimp only
   refine ⟨⟨0,rfl,⟨rfl,fun i hi=>absurd hi (Nat.not_lt_zero _)⟩,Nat.zero_le _⟩,fun g hg=>⟨fun hc=>?_,fun hc=>?_⟩⟩
   ·have hc:(g:Int)<((L.sqI (L.asgF w s).bt).n:Int):=of_decide_eq_true hc
    have hlt:g<(L.sqI (L.asgF w s).bt).n:=by omega
    have hin:=asgF_in w s hlt
    rw [Int.toNat_natCast g]
    refine ⟨⟨Int.natCast_nonneg _,hc⟩,hin,by show (g+1) * 8 <= 140737488355328;omega,jK,g+1,by omega,rfl,⟨rfl,fun _ _=>rfl⟩,rfl,⟨rfl,fun _ _=>rfl⟩,⟨rfl,fun i hi=>?_⟩,hlt,by omega⟩
    unfold appGet
    by_cases e:i<g
    ·rw [if_pos e]
    ·rw [if_neg e]
     obtain rfl:i=g:=by omega
     rfl
   ·have hc:¬ (g:Int)<((L.sqI (L.asgF w s).bt).n:Int):=of_decide_eq_false hc
    exact ⟨⟨by omega,fun _ _=>rfl⟩,rfl,rfl⟩)
theorem c_Assign_ok:SpecOk Tryz.prog 27 c_Assign_S:=fnX Tryz.func27 (c:=bodyOf Tryz.f27) (by kernel_rfl) mixed (fun args p r hs hp=>by
 unfold c_Assign_s at hs
 split at hs
 ·cases hs;exact ⟨_,_,c_Assign_vc _ _ hp.2.2,(.p (Want_ext hp.1) (.p (.sl hp.2.1) .nil)),⟨show SpecsL Tryz.prog _ from (SpecsL.cons c_bad_ok c_bad_en SpecsL.nil),rfl,⟨show ItersL Tryz.prog _ from ItersL.nil,⟨TrsOk.no1 (fun _=>rfl),⟨show MksL Tryz.prog _ from (MksL.cons c_assign_mok c_assign_en MksL.nil),FamsOk.none (fun _=>rfl)⟩⟩⟩⟩⟩
 ·cases hs)
theorem c_Assign_en:Enters Tryz.prog 27:=fun args w=>by kernel_rfl
end
end Go.Proofs.YtpgaejicfbpcmaaGreat
namespace Go.Proofs.YtpgaejicfbpcmaaGreat
open Go.SE Go.RowKit
set_option maxRecDepth 100000
set_option maxHeartbeats 4000000
set_option linter.unusedVariables false
attribute [local irreducible] vc
def L.ptsL (l:List (Int × Int)):L.Sq L.Pt:=⟨l.length,fun i=>⟨(l.getD i (0,0)).1,(l.getD i (0,0)).2⟩⟩
def L.w1:L.Want:=⟨1,1,0,L.ptsL [(0,0),(8,0),(8,4),(4,3),(0,4)]⟩
def L.w2:L.Want:=⟨2,1,0,L.ptsL [(0,0),(6,0),(6,2),(0,2)]⟩
def L.gt (a:Nat) (b:Int):Bool:=decide (b<(a:Int))
def L.lee (a:Nat) (b:Int):Bool:=decide ((a:Int) <= b)
def L.fewN (a b:Nat):Bool:=bif bif bif bif L.gt a 4 then L.lee a 7 else false then true else L.gt a 20 then true else bif L.gt b 4 then L.lee b 7 else false then true else L.gt b 20
def L.few (w:L.Sq L.Want) (s:L.Sq L.Sheet):Bool:=bif L.fewN w.n s.n then false else L.allB w.n fun i=>!L.gt (w.g i).ol.n 60
def w_first_p :Prop:=True
def w_first_r :SV:=(.agg [.int .i64 L.w1.id,.int .i64 L.w1.colour,.int .i64 L.w1.grain,.sl 2 L.w1.ol.n (fun i=>[.int .i64 ((L.w1.ol.g i).x),.int .i64 ((L.w1.ol.g i).y)])])
def w_first_s:List EV->Option (Prop × SV)
 | []=>some (w_first_p , w_first_r )
 | _=>none
abbrev w_first_S:SE.Spec:=(specO w_first_s)
def w_first_C:Cfg:={ cC with muts:=[0] }
theorem w_first_vc  (hp:w_first_p):vc Tryz.prog (w_first_C) (bodyOf Tryz.f58) (st0 Tryz.f58 []) (retFn Tryz.prog Tryz.f58 (w_first_r )) :=
 @Eq.mpr _ (let I:=SV.int .i64;let A1:=(0:Int);(1:Int)=L.w1.id/\(1:Int)=L.w1.colour/\A1=L.w1.grain/\nat_lit 5=nat_lit 5 /\ ∀ (i:Nat),i<nat_lit 5->rowsOf [I A1,I A1,I (8:Int),I A1,I (8:Int),I (4:Int),I (4:Int),I (3:Int),I A1,I (4:Int)] (nat_lit 2) i = [I (L.w1.ol.g i).x,I (L.w1.ol.g i).y]) (by kernel_rfl) (by
 conv=>zeta
 refine ⟨rfl,rfl,rfl,rfl,fun i hi=>?_⟩
 match i,hi with
 | 0,_=>rfl
 | 1,_=>rfl
 | 2,_=>rfl
 | 3,_=>rfl
 | 4,_=>rfl)
theorem w_first_ok:SpecOk Tryz.prog 58 w_first_S:=fnX Tryz.func58 (c:=bodyOf Tryz.f58) (by kernel_rfl) mixed (fun args p r hs hp=>by
 unfold w_first_s at hs
 split at hs
 ·cases hs;exact ⟨_,_,w_first_vc  hp,.nil,⟨show SpecsL Tryz.prog _ from SpecsL.nil,rfl,⟨show ItersL Tryz.prog _ from ItersL.nil,(TrsOk.none (fun _=>rfl))⟩⟩⟩
 ·cases hs)
theorem w_first_en:Enters Tryz.prog 58:=fun args w=>by kernel_rfl
def w_second_p :Prop:=True
def w_second_r :SV:=(.agg [.int .i64 L.w2.id,.int .i64 L.w2.colour,.int .i64 L.w2.grain,.sl 2 L.w2.ol.n (fun i=>[.int .i64 ((L.w2.ol.g i).x),.int .i64 ((L.w2.ol.g i).y)])])
def w_second_s:List EV->Option (Prop × SV)
 | []=>some (w_second_p , w_second_r )
 | _=>none
abbrev w_second_S:SE.Spec:=(specO w_second_s)
def w_second_C:Cfg:={ cC with muts:=[0] }
theorem w_second_vc  (hp:w_second_p):vc Tryz.prog (w_second_C) (bodyOf Tryz.f59) (st0 Tryz.f59 []) (retFn Tryz.prog Tryz.f59 (w_second_r )) :=
 @Eq.mpr _ (let I:=SV.int .i64;let A1:=(0:Int);(2:Int)=L.w2.id/\(1:Int)=L.w2.colour/\A1=L.w2.grain/\nat_lit 4=nat_lit 4 /\ ∀ (i:Nat),i<nat_lit 4->rowsOf [I A1,I A1,I (6:Int),I A1,I (6:Int),I (2:Int),I A1,I (2:Int)] (nat_lit 2) i = [I (L.w2.ol.g i).x,I (L.w2.ol.g i).y]) (by kernel_rfl) (by
 conv=>zeta
 refine ⟨rfl,rfl,rfl,rfl,fun i hi=>?_⟩
 match i,hi with
 | 0,_=>rfl
 | 1,_=>rfl
 | 2,_=>rfl
 | 3,_=>rfl)
theorem w_second_ok:SpecOk Tryz.prog 59 w_second_S:=fnX Tryz.func59 (c:=bodyOf Tryz.f59) (by kernel_rfl) mixed (fun args p r hs hp=>by
 unfold w_second_s at hs
 split at hs
 ·cases hs;exact ⟨_,_,w_second_vc  hp,.nil,⟨show SpecsL Tryz.prog _ from SpecsL.nil,rfl,⟨show ItersL Tryz.prog _ from ItersL.nil,(TrsOk.none (fun _=>rfl))⟩⟩⟩
 ·cases hs)
theorem w_second_en:Enters Tryz.prog 59:=fun args w=>by kernel_rfl
def w_few_p (w:(L.Sq L.Want)) (s:(L.Sq L.Sheet)):Prop:=True
def w_few_r (w:(L.Sq L.Want)) (s:(L.Sq L.Sheet)):SV:=.bool (L.few w s)
def w_few_s:List EV->Option (Prop × SV)
 | [.p (.sl 4 w_n w_g),.p (.sl 5 s_n s_g)]=>some ((∀ i,i<w_n->okWant (w_g i))/\(∀ i,i<s_n->s_g i = [.int .i64 ((ofSheet (s_g i)).id),.int .i64 ((ofSheet (s_g i)).colour),.int .i64 ((ofSheet (s_g i)).w),.int .i64 ((ofSheet (s_g i)).h),.int .i64 ((ofSheet (s_g i)).grain)])/\w_few_p (⟨w_n,fun i=>ofWant (w_g i)⟩:(L.Sq L.Want)) (⟨s_n,fun i=>ofSheet (s_g i)⟩:(L.Sq L.Sheet)),w_few_r (⟨w_n,fun i=>ofWant (w_g i)⟩:(L.Sq L.Want)) (⟨s_n,fun i=>ofSheet (s_g i)⟩:(L.Sq L.Sheet)))
 | _=>none
abbrev w_few_S:SE.Spec:=(specO w_few_s)
def w_few_C:Cfg:={ muts:=[],frz:=lookN [],specs:=lookS [],loops:=fun _=>none,iters:=lookI [],rfs:=lookR [],nils:=lookM [] }
theorem w_few_vc (w:(L.Sq L.Want)) (s:(L.Sq L.Sheet)) (hp:w_few_p w s):vc Tryz.prog ({ w_few_C with loops:=lookL [(4,{ T:=Nat,keep:=[0],keepO:=[],chg:=fun i=>[(5,.p (.int .i64 (i:Int)))],own:=fun _=>[],inv:=fun i=>i <= w.n /\ ∀ j,j<i->L.gt (w.g j).ol.n 60=false,mu:=fun i=>w.n - i })],rfs:=lookR [] }) (bodyOf Tryz.f13) (st0 Tryz.f13 [.p (.sl 4 w.n (fun i=>[.int .i64 ((w.g i).id),.int .i64 ((w.g i).colour),.int .i64 ((w.g i).grain),.sl 2 (w.g i).ol.n (fun i1=>[.int .i64 (((w.g i).ol.g i1).x),.int .i64 (((w.g i).ol.g i1).y)])])),.p (.sl 5 s.n (fun i=>[.int .i64 ((s.g i).id),.int .i64 ((s.g i).colour),.int .i64 ((s.g i).w),.int .i64 ((s.g i).h),.int .i64 ((s.g i).grain)]))]) (retFn Tryz.prog Tryz.f13 (w_few_r w s)) :=
 @Eq.mpr _ (let I:=SV.int .i64;let A7:=(↑s.n:Int);let A6:=(60:Int);let A4:=(↑w.n:Int);let A1:=(bif bif bif bif decide ((4:Int)<A4) then decide (A4 <= (7:Int)) else false then true else decide ((20:Int)<A4) then true else bif decide ((4:Int)<A7) then decide (A7 <= (7:Int)) else false then true else decide ((20:Int)<A7));(A1=true->false=L.few w s)/\(A1=false->(∃ (g:Nat),(0:Int)=(↑g:Int)/\g <= w.n /\ ∀ (j:Nat),j<g->L.gt (w.g j).ol.n A6=false) /\ ∀ (g:Nat),let A3:=(↑g:Int);let A5:=(↑(w.g (Int.toNat A3)).ol.n:Int);(g <= w.n /\ ∀ (j:Nat),j<g->L.gt (w.g j).ol.n A6=false)->(decide (A3<A4)=true->((0:Int) <= A3/\A3<A4)/\(decide (A6<A5)=true->false=L.few w s)/\(decide (A6<A5)=false->InK .i64 (A3+(1:Int)) /\ ∃ (g':Nat),A3+(1:Int)=(↑g':Int)/\(w.n=w.n /\ ∀ (i:Nat),let A2:=[I (w.g i).id,I (w.g i).colour,I (w.g i).grain,SV.sl (2:Nat) (w.g i).ol.n fun (i1:Nat)=>[I ((w.g i).ol.g i1).x,I ((w.g i).ol.g i1).y]];i<w.n->A2=A2)/\(g' <= w.n /\ ∀ (j:Nat),j<g'->L.gt (w.g j).ol.n A6=false)/\w.n - g'<w.n - g))/\(decide (A3<A4)=false->true=L.few w s))) (by kernel_rfl) (by
 conv=>zeta
 refine ⟨fun h=>?_,fun h=>?_⟩
 ·have h:L.fewN w.n s.n=true:=h
  unfold L.few;rw [h];rfl
 have h:L.fewN w.n s.n=false:=h
 have hn:w.n <= 20:=by
  apply Decidable.byContradiction
  intro hn
  have e:L.gt w.n 20=true:=decide_eq_true (by omega)
  unfold L.fewN at h
  rw [e] at h
  revert h
  cases (bif L.gt w.n 4 then L.lee w.n 7 else false) <;> simp
 refine ⟨⟨(0:Nat),rfl,Nat.zero_le _,fun j hj=>absurd hj (Nat.not_lt_zero _)⟩,fun g hg=>⟨fun hc=>?_,fun hc=>?_⟩⟩
 ·have hc:(g:Int)<(w.n:Int):=of_decide_eq_true hc
  have hlt:g<w.n:=by omega
  rw [Int.toNat_natCast g]
  refine ⟨⟨Int.natCast_nonneg _,hc⟩,fun h3=>?_,fun h3=>?_⟩
  ·have h3:L.gt (w.g g).ol.n 60=true:=h3
   unfold L.few
   rw [h]
   exact (allB_false (i:=g) (f:=fun i=>!L.gt (w.g i).ol.n 60) hlt (by show (!_)=false;rw [h3];rfl)).symm
  ·have h3:L.gt (w.g g).ol.n 60=false:=h3
   refine ⟨jK,g+1,by omega,⟨rfl,fun _ _=>rfl⟩,⟨hlt,fun j hj=>?_⟩,by omega⟩
   rcases Nat.lt_succ_iff_lt_or_eq.1 hj with h' | rfl
   ·exact hg.2 j h'
   ·exact h3
 ·have hc:¬ (g:Int)<(w.n:Int):=of_decide_eq_false hc
  unfold L.few
  rw [h]
  exact (allB_iff.2 (fun i hi=>by show (!_)=true;rw [hg.2 i (by omega)];rfl)).symm)
theorem w_few_ok:SpecOk Tryz.prog 13 w_few_S:=fnX Tryz.func13 (c:=bodyOf Tryz.f13) (by kernel_rfl) mixed (fun args p r hs hp=>by
 unfold w_few_s at hs
 split at hs
 ·cases hs;exact ⟨_,_,w_few_vc _ _ hp.2.2,(.p (Want_ext hp.1) (.p (.sl hp.2.1) .nil)),⟨show SpecsL Tryz.prog _ from SpecsL.nil,rfl,⟨show ItersL Tryz.prog _ from ItersL.nil,(TrsOk.none (fun _=>rfl))⟩⟩⟩
 ·cases hs)
theorem w_few_en:Enters Tryz.prog 13:=fun args w=>by kernel_rfl
end Go.Proofs.YtpgaejicfbpcmaaGreat
namespace Go.Proofs.YtpgaejicfbpcmaaGreat
open Go.SE Go.RowKit
set_option maxRecDepth 100000
set_option maxHeartbeats 4000000
set_option linter.unusedVariables false
attribute [local irreducible] vc
def w_awake_p :Prop:=True
def w_awake_r :SV:=.bool true
def w_awake_s:List EV->Option (Prop × SV)
 | []=>some (w_awake_p , w_awake_r )
 | _=>none
abbrev w_awake_S:SE.Spec:=(specO w_awake_s)
def w_awake_C:Cfg:={ cC with specs:=lookS [(58,w_first_S),(59,w_second_S),(14,c_Sizes_S),(19,c_Lay_S),(27,c_Assign_S),(47,c_Pocket_S)] }
theorem w_awake_vc  (hp:w_awake_p):vc Tryz.prog (w_awake_C) (bodyOf Tryz.f12) (st0 Tryz.f12 []) (retFn Tryz.prog Tryz.f12 (w_awake_r )) :=
 @Eq.mpr _ (let I:=SV.int .i64;let A10:=(1:Int);let A9:=(nat_lit 4);let A7:=(L.Sq.mk (nat_lit 5) fun (i:Nat)=>L.w1.ol.g i);let A6:=(nat_lit 2);let A5:=(0:Int);let A4:=[I (9:Int),I A10,I (10:Int),I (6:Int),I A5];let A3:=(∀ (i:Nat),i<nat_lit 2->okWant (rowsOf [I L.w1.id,I L.w1.colour,I L.w1.grain,SV.sl A6 (nat_lit 5) fun (i:Nat)=>[I (L.w1.ol.g i).x,I (L.w1.ol.g i).y],I L.w2.id,I L.w2.colour,I L.w2.grain,SV.sl A6 A9 fun (i:Nat)=>[I (L.w2.ol.g i).x,I (L.w2.ol.g i).y]] A9 i));let A2:=(L.Sq.mk A6 fun (i:Nat)=>ofWant (rowsOf [I L.w1.id,I L.w1.colour,I L.w1.grain,SV.sl A6 (nat_lit 5) fun (i:Nat)=>[I (L.w1.ol.g i).x,I (L.w1.ol.g i).y],I L.w2.id,I L.w2.colour,I L.w2.grain,SV.sl A6 A9 fun (i:Nat)=>[I (L.w2.ol.g i).x,I (L.w2.ol.g i).y]] A9 i));let A1:=(A3/\L.preW A2);True/\True/\A1/\A1/\(A3/\(∀ (i:Nat),i<nat_lit 1->A4=A4)/\L.preW A2/\L.preS (L.Sq.mk (nat_lit 1) fun (i:Nat)=>L.Sheet.mk (9:Int) A10 (10:Int) (6:Int) A5))/\(A5 <= A5/\A5<(↑A6:Int))/\((∀ (i:Nat),let A8:=[I (L.w1.ol.g i).x,I (L.w1.ol.g i).y];i<nat_lit 5->A8=A8)/\nat_lit 5 <= (1000000:Nat)/\(L.validOutline A7=true->L.okPks A7))/\(true=true->A5 <= A10/\A10<(↑A9:Int))/\(false=true->false=true)/\(false=false->(A5 <= A10/\A10<(↑A6:Int))/\(true=true->A5 <= A5/\A5<(↑(nat_lit 1):Int))/\true=true)) (by kernel_rfl) (by
 conv=>zeta
 have ok:∀ (g:Nat->List SV),g 0 = [.int .i64 L.w1.id,.int .i64 L.w1.colour,.int .i64 L.w1.grain,.sl 2 5 fun (i:Nat)=>[.int .i64 (L.w1.ol.g i).x,.int .i64 (L.w1.ol.g i).y]]->g 1 = [.int .i64 L.w2.id,.int .i64 L.w2.colour,.int .i64 L.w2.grain,.sl 2 4 fun (i:Nat)=>[.int .i64 (L.w2.ol.g i).x,.int .i64 (L.w2.ol.g i).y]]->(∀ i,i<2->okWant (g i))/\L.preW ⟨2,fun i=>ofWant (g i)⟩:=fun g h0 h1=>by
  have two:∀ i:Nat,i<2->i=0\/i=1:=fun i hi=>by omega
  refine ⟨fun i hi=>?_,.inl (show 2 <= 4 by decide),show 2 <= 1000000 by decide,fun i hi=>?_⟩
  ·rcases two i hi with rfl | rfl
   ·rw [h0];exact fun _ _=>rfl
   ·rw [h1];exact fun _ _=>rfl
  ·rcases two i hi with rfl | rfl
   ·show (ofWant (g 0)).ol.n <= 1000000
    rw [h0];show 5 <= 1000000;decide
   ·show (ofWant (g 1)).ol.n <= 1000000
    rw [h1];show 4 <= 1000000;decide
 have e1:(L.pks L.w1.ol).n=1:=by kernel_rfl
 have e2:(L.pks L.w1.ol).g 0=⟨2,4,8⟩:=by kernel_rfl
 have pk:L.okPks L.w1.ol:=fun i hi=>by
  rw [e1] at hi
  obtain rfl:i=0:=by omega
  rw [e2]
  show (((0:Int) <= 2/\(2:Int)<5)/\((0:Int) <= 4/\(4:Int)<5)/\(2:Int) ≠ 4)
  decide
 refine ⟨trivial,trivial,ok _ rfl rfl,ok _ rfl rfl,⟨(ok _ rfl rfl).1,fun _ _=>rfl,(ok _ rfl rfl).2,.inl (show 1 <= 4 by decide),show 1 <= 1000000 by decide⟩,by decide,⟨fun _ _=>rfl,by decide,fun _=>pk⟩,fun _=>(by decide),fun h=>(by cases h),fun _=>⟨by decide,fun _=>(by decide),rfl⟩⟩)
theorem w_awake_ok:SpecOk Tryz.prog 12 w_awake_S:=fnX Tryz.func12 (c:=bodyOf Tryz.f12) (by kernel_rfl) mixed (fun args p r hs hp=>by
 unfold w_awake_s at hs
 split at hs
 ·cases hs;exact ⟨_,_,w_awake_vc  hp,.nil,⟨show SpecsL Tryz.prog _ from (SpecsL.cons w_first_ok w_first_en (SpecsL.cons w_second_ok w_second_en (SpecsL.cons c_Sizes_ok c_Sizes_en (SpecsL.cons c_Lay_ok c_Lay_en (SpecsL.cons c_Assign_ok c_Assign_en (SpecsL.cons c_Pocket_ok c_Pocket_en SpecsL.nil)))))),rfl,⟨show ItersL Tryz.prog _ from ItersL.nil,(TrsOk.none (fun _=>rfl))⟩⟩⟩
 ·cases hs)
theorem w_awake_en:Enters Tryz.prog 12:=fun args w=>by kernel_rfl
end Go.Proofs.YtpgaejicfbpcmaaGreat
namespace Go.Proofs.YtpgaejicfbpcmaaGreat
open Go.SE Go.RowKit
set_option maxRecDepth 100000
set_option maxHeartbeats 4000000
set_option linter.unusedVariables false
attribute [local irreducible] vc
def L.bitI (g:Int) (i:Nat):Bool:=decide (L.iand (L.ishr g i) 1=1)
def L.posL (m:Int):List Nat:=(List.range 4).filter (L.bitI m)
def L.expG (b:Int):Nat->List Nat->Int
 | _,[]=>0
 | i,p :: l=>(bif L.bitI b i then 2 ^ p else 0)+L.expG b (i+1) l
def L.expI (m b:Int):Int:=L.expG b 0 (L.posL m)
def chkE1 (m b:Nat):Bool:=let e:=L.expI m b;decide (0 <= e) && decide (e <= 15) && (if b=0 then decide (e=0) else decide (1 <= e) && (L.isOne b == L.isOne e) && (if L.isOne b=true then decide (L.ix1 e=(L.posL m).getD (L.ix1 b) 0) && decide (L.ix1 b<(L.posL m).length) else
 decide (L.partN e=L.partN b) && (List.range (L.partN b)).all fun k=>decide (L.part e k=L.expI m (L.part b k)) && decide (L.cmp_ e k=L.expI m (L.cmp_ b k))))
def chkE (m:Nat):Bool:=(List.range (2 ^ (L.posL m).length)).all (chkE1 m)
theorem chkE_all:((List.range 16).all chkE)=true:=by kernel_rfl
theorem posL_len (m:Int):(L.posL m).length <= 4:=Nat.le_trans (List.length_filter_le _ _) (by rw [List.length_range];exact Nat.le_refl _)
theorem expI_of {m b:Int} (h:0 <= m) (h':m <= 15) (hb:0 <= b) (hb':b<2 ^ (L.posL m).length):(0 <= L.expI m b/\L.expI m b <= 15)/\(b=0->L.expI m b=0)/\(1 <= b->1 <= L.expI m b/\L.isOne b=L.isOne (L.expI m b) /\
  (L.isOne b=true->L.ix1 (L.expI m b)=(L.posL m).getD (L.ix1 b) 0/\L.ix1 b<(L.posL m).length) /\
  (L.isOne b=false->L.partN (L.expI m b)=L.partN b /\ ∀ k,k<L.partN b->L.part (L.expI m b) k=L.expI m (L.part b k)/\L.cmp_ (L.expI m b) k=L.expI m (L.cmp_ b k))):=by
 obtain ⟨m,rfl⟩:=Int.eq_ofNat_of_zero_le h
 obtain ⟨b,rfl⟩:=Int.eq_ofNat_of_zero_le hb
 have h1:=List.all_eq_true.1 chkE_all m (List.mem_range.2 (by omega))
 have h2:=List.all_eq_true.1 h1 b (List.mem_range.2 (by exact_mod_cast hb'))
 unfold chkE1 at h2
 simp only [Bool.and_eq_true,decide_eq_true_eq] at h2
 obtain ⟨⟨h3,h4⟩,h5⟩:=h2
 refine ⟨⟨h3,h4⟩,fun e=>?_,fun e=>?_⟩
 ·rw [if_pos (by omega)] at h5
  exact of_decide_eq_true h5
 ·rw [if_neg (by omega)] at h5
  simp only [Bool.and_eq_true,decide_eq_true_eq,beq_iff_eq] at h5
  obtain ⟨⟨h6,h7⟩,h8⟩:=h5
  refine ⟨h6,h7,fun e1=>?_,fun e1=>?_⟩
  ·rw [if_pos e1] at h8
   simpa using h8
  ·rw [if_neg (by rw [e1];decide)] at h8
   simp only [Bool.and_eq_true,decide_eq_true_eq,List.all_eq_true] at h8
   exact ⟨h8.1,fun k hk=>h8.2 k (List.mem_range.2 hk)⟩
theorem isOne_0:L.isOne 0=true:=by decide
attribute [local irreducible] L.tab L.expI L.part L.cmp_ L.partN L.isOne L.ix1
theorem oneC_congr {w w':L.Sq L.Want} {gr:Int} {i j:Nat} (h:w'.g i=w.g j):L.oneC w' gr i=L.oneC w gr j:=by unfold L.oneC;rw [h]
theorem psK_map {T T':Int->List L.Size} {g g':Int}:∀ {n},(∀ k,k<n->T' (L.part g' k)=T (L.part g k)/\T' (L.cmp_ g' k)=T (L.cmp_ g k))->L.psK T' g' n=L.psK T g n
 | 0,_=>rfl
 | n+1,h=>by
   rw [L.psK,L.psK,psK_map (fun k hk=>h k (by omega)),(h n (by omega)).1,(h n (by omega)).2]
theorem tab_exp {w w':L.Sq L.Want} {gr m:Int} (h:0 <= m) (h':m <= 15) (hw:∀ i,i<(L.posL m).length->w'.g i=w.g ((L.posL m).getD i 0)):∀ b:Nat,(b:Int)<2 ^ (L.posL m).length->L.tab w' gr b=L.tab w gr (L.expI m b):=fun b=>by
 induction b using Nat.strongRecOn with
 | _ b ih =>
   intro hb
   have h4:=posL_len m
   have hp:(2:Int) ^ (L.posL m).length <= 2 ^ 4:=by
    exact_mod_cast Nat.pow_le_pow_right (show 0<2 by decide) h4
   have hb15:(b:Int) <= 15:=by omega
   obtain ⟨⟨e1,e2⟩,e3,e4⟩:=expI_of h h' (show 0 <= (b:Int) by omega) hb
   by_cases h0:b=0
   ·subst h0
    rw [e3 rfl,show ((0:Nat):Int)=0 from rfl,tab_0,tab_0]
   ·obtain ⟨f1,f2,f3,f4⟩:=e4 (by omega)
    cases h1:L.isOne b with
    | true =>
      obtain ⟨g1,g2⟩:=f3 h1
      rw [tab_1 w' gr (by omega) hb15 h1,tab_1 w gr f1 e2 (by rw [<- f2];exact h1),g1,oneC_congr (hw _ g2)]
    | false =>
      obtain ⟨g1,g2⟩:=f4 h1
      rw [tab_2 w' gr (by omega) hb15 h1,tab_2 w gr f1 e2 (by rw [<- f2];exact h1),g1]
      congr 1
      obtain ⟨_,hpt⟩:=grp_prt (show 1 <= (b:Int) by omega) hb15 h1
      refine psK_map fun k hk=>?_
      obtain ⟨p1,p2,p3,p4,_⟩:=hpt k hk
      obtain ⟨q1,q2⟩:=g2 k hk
      rw [q1,q2]
      obtain ⟨x,hx⟩:=Int.eq_ofNat_of_zero_le (Int.le_of_lt p1)
      obtain ⟨y,hy⟩:=Int.eq_ofNat_of_zero_le (Int.le_of_lt p3)
      rw [hx,hy]
      exact ⟨ih x (by omega) (by omega),ih y (by omega) (by omega)⟩
theorem tab_stair (w:L.Sq L.Want) (gr:Int) {g:Int} (h:0 <= g) (h15:g <= 15):Cu.Stair (L.tab w gr g):=by
 by_cases h0:g=0
 ·rw [h0,tab_0];exact List.pairwise_singleton _ _
 ·cases h1:L.isOne g with
  | true=>rw [tab_1 w gr (by omega) h15 h1];exact (Cu.stair_ok _).1
  | false=>rw [tab_2 w gr (by omega) h15 h1];exact (Cu.stair_ok _).1
def Jn (p q:L.Size->Prop) (s:L.Size):Prop:=(∃ x y,x+y <= s.w/\p ⟨x,s.h⟩ /\ q ⟨y,s.h⟩)\/(∃ x y,x+y <= s.h/\p ⟨s.w,x⟩ /\ q ⟨s.w,y⟩)
theorem Jn.symm {p q:L.Size->Prop} {s:L.Size} (h:Jn p q s):Jn q p s:=by
 rcases h with ⟨x,y,h,h1,h2⟩ | ⟨x,y,h,h1,h2⟩
 ·exact .inl ⟨y,x,by omega,h2,h1⟩
 ·exact .inr ⟨y,x,by omega,h2,h1⟩
theorem Jn.mono {p q p' q':L.Size->Prop} {s:L.Size} (hp:∀ s,p s->p' s) (hq:∀ s,q s->q' s) (h:Jn p q s):Jn p' q' s:=by
 rcases h with ⟨x,y,h,h1,h2⟩ | ⟨x,y,h,h1,h2⟩
 ·exact .inl ⟨x,y,h,hp _ h1,hq _ h2⟩
 ·exact .inr ⟨x,y,h,hp _ h1,hq _ h2⟩
theorem cov_prs {A B:List L.Size} {s:L.Size}:Cu.cov (L.prs A B) s ↔ Jn (Cu.cov A) (Cu.cov B) s:=by
 constructor
 ·rintro ⟨x,hx,h1,h2⟩
  unfold L.prs at hx
  obtain ⟨a,ha,hx⟩:=List.mem_flatMap.1 hx
  obtain ⟨b,hb,hx⟩:=List.mem_flatMap.1 hx
  unfold L.mrg at hx
  rcases List.mem_cons.1 hx with rfl | hx
  ·simp only at h1 h2
   exact .inl ⟨a.w,b.w,h1,⟨a,ha,Int.le_refl _,by simp only;omega⟩,⟨b,hb,Int.le_refl _,by simp only;omega⟩⟩
  ·rcases List.mem_cons.1 hx with rfl | hx
   ·simp only at h1 h2
    exact .inr ⟨a.h,b.h,h2,⟨a,ha,by simp only;omega,Int.le_refl _⟩,⟨b,hb,by simp only;omega,Int.le_refl _⟩⟩
   ·cases hx
 ·rintro (⟨x,y,h,⟨a,ha,a1,a2⟩,⟨b,hb,b1,b2⟩⟩ | ⟨x,y,h,⟨a,ha,a1,a2⟩,⟨b,hb,b1,b2⟩⟩)
  ·simp only at a1 a2 b1 b2
   refine ⟨⟨a.w+b.w,max a.h b.h⟩,List.mem_flatMap.2 ⟨a,ha,List.mem_flatMap.2 ⟨b,hb,by simp [L.mrg]⟩⟩,?_,?_⟩ <;> simp only <;> omega
  ·simp only at a1 a2 b1 b2
   refine ⟨⟨max a.w b.w,a.h+b.h⟩,List.mem_flatMap.2 ⟨a,ha,List.mem_flatMap.2 ⟨b,hb,by simp [L.mrg]⟩⟩,?_,?_⟩ <;> simp only <;> omega
theorem cov_psK {T:Int->List L.Size} {g:Int} {s:L.Size}:∀ {n},Cu.cov (L.psK T g n) s ↔ ∃ k,k<n/\Jn (Cu.cov (T (L.part g k))) (Cu.cov (T (L.cmp_ g k))) s
 | 0=>⟨fun ⟨x,hx,_⟩=>(by cases hx),fun ⟨k,hk,_⟩=>(by omega)⟩
 | n+1=>by
   rw [L.psK,Cu.cov_append,cov_psK,cov_prs]
   constructor
   ·rintro (⟨k,hk,h⟩ | h)
    ·exact ⟨k,by omega,h⟩
    ·exact ⟨n,by omega,h⟩
   ·rintro ⟨k,hk,h⟩
    by_cases e:k=n
    ·exact .inr (e ▸ h)
    ·exact .inl ⟨k,by omega,h⟩
def L.fits (w:L.Sq L.Want) (gr g:Int) (s:L.Size):Prop:=Cu.cov (L.tab w gr g) s
theorem fits_mono {w:L.Sq L.Want} {gr g:Int} {s t:L.Size} (h:L.fits w gr g s) (k:Cu.le s t):L.fits w gr g t:=by
 obtain ⟨x,hx,hl⟩:=h
 exact ⟨x,hx,Cu.le_trans hl k⟩
theorem fits_pos {w:L.Sq L.Want} {gr g:Int} {s:L.Size} (h:0 <= g) (h15:g <= 15) (hf:L.fits w gr g s):0 <= s.w/\0 <= s.h:=by
 obtain ⟨x,hx,h1,h2⟩:=hf
 have:=(tab_okI w gr h h15).bd x hx
 omega
theorem fits_0 {w:L.Sq L.Want} {gr:Int} {s:L.Size}:L.fits w gr 0 s ↔ 0 <= s.w/\0 <= s.h:=by
 unfold L.fits
 rw [tab_0]
 exact ⟨fun ⟨x,hx,h1,h2⟩=>by rw [List.mem_singleton.1 hx] at h1 h2;exact ⟨h1,h2⟩,fun ⟨h1,h2⟩=>⟨_,List.mem_singleton_self _,h1,h2⟩⟩
theorem fits_1 {w:L.Sq L.Want} {gr g:Int} {s:L.Size} (h:1 <= g) (h15:g <= 15) (h1:L.isOne g=true):L.fits w gr g s ↔ ∃ t:Int,(t=0\/t=1)/\L.alw (w.g (L.ix1 g)).grain gr t=true/\Cu.le (L.box (w.g (L.ix1 g)).ol t) s:=by
 unfold L.fits
 rw [tab_1 w gr h h15 h1,(Cu.stair_ok _).2 s]
 unfold L.oneC
 constructor
 ·rintro ⟨x,hx,hl⟩
  obtain ⟨t,ht,rfl⟩:=List.mem_map.1 hx
  obtain ⟨h2,h3⟩:=List.mem_filter.1 ht
  exact ⟨t,by simpa using h2,h3,hl⟩
 ·rintro ⟨t,ht,h2,h3⟩
  exact ⟨_,List.mem_map.2 ⟨t,List.mem_filter.2 ⟨by simpa using ht,h2⟩,rfl⟩,h3⟩
theorem fits_2 {w:L.Sq L.Want} {gr g:Int} {s:L.Size} (h:1 <= g) (h15:g <= 15) (h1:L.isOne g=false):L.fits w gr g s ↔ ∃ k,k<L.partN g/\Jn (L.fits w gr (L.part g k)) (L.fits w gr (L.cmp_ g k)) s:=by
 unfold L.fits
 rw [tab_2 w gr h h15 h1,(Cu.stair_ok _).2 s,cov_psK]
theorem alw_0 (o t:Int):L.alw o 0 t=true:=by unfold L.alw;simp
theorem box_turn (l:L.Sq L.Pt):(L.box l 1).w=(L.box l 0).h/\(L.box l 1).h=(L.box l 0).w:=by unfold L.box;simp
theorem fits_turn (w:L.Sq L.Want):∀ (n:Nat),n <= 15 -> ∀ s:L.Size,L.fits w 0 n s->L.fits w 0 n ⟨s.h,s.w⟩:=fun n=>by
 induction n using Nat.strongRecOn with
 | _ n ih =>
   intro hn s hf
   by_cases h0:n=0
   ·subst h0
    rw [show ((0:Nat):Int)=0 from rfl] at hf ⊢
    rw [fits_0] at hf ⊢
    exact ⟨hf.2,hf.1⟩
   ·cases h1:L.isOne n with
    | true =>
      rw [fits_1 (by omega) (by omega) h1] at hf ⊢
      obtain ⟨t,ht,_,h2,h3⟩:=hf
      obtain ⟨b1,b2⟩:=box_turn (w.g (L.ix1 n)).ol
      rcases ht with rfl | rfl
      ·exact ⟨1,.inr rfl,alw_0 _ _,by simp only [b1];exact h3,by simp only [b2];exact h2⟩
      ·exact ⟨0,.inl rfl,alw_0 _ _,by simp only [<- b2];exact h3,by simp only [<- b1];exact h2⟩
    | false =>
      rw [fits_2 (by omega) (by omega) h1] at hf ⊢
      obtain ⟨k,hk,hj⟩:=hf
      obtain ⟨p1,p2,p3,p4,_⟩:=(grp_prt (show 1 <= (n:Int) by omega) (by omega) h1).2 k hk
      obtain ⟨x,hx⟩:=Int.eq_ofNat_of_zero_le (Int.le_of_lt p1)
      obtain ⟨y,hy⟩:=Int.eq_ofNat_of_zero_le (Int.le_of_lt p3)
      rw [hx,hy] at hj
      refine ⟨k,hk,?_⟩
      rw [hx,hy]
      rcases hj with ⟨a,b,h,q1,q2⟩ | ⟨a,b,h,q1,q2⟩
      ·exact .inr ⟨a,b,h,ih x (by omega) (by omega) _ q1,ih y (by omega) (by omega) _ q2⟩
      ·exact .inl ⟨a,b,h,ih x (by omega) (by omega) _ q1,ih y (by omega) (by omega) _ q2⟩
def L.tr (l:List L.Size):List L.Size:=(l.map fun s=>(⟨s.h,s.w⟩:L.Size)).reverse
theorem tr_stair {l:List L.Size} (h:Cu.Stair l):Cu.Stair (L.tr l):=by
 unfold L.tr Cu.Stair
 rw [List.pairwise_reverse,List.pairwise_map]
 exact h.imp (fun {a b} ⟨h1,h2⟩=>⟨h2,h1⟩)
theorem tab_turn (w:L.Sq L.Want) {g:Int} (h:0 <= g) (h15:g <= 15):L.tr (L.tab w 0 g)=L.tab w 0 g:=by
 obtain ⟨n,rfl⟩:=Int.eq_ofNat_of_zero_le h
 have mem:∀ x:L.Size,x ∈ L.tr (L.tab w 0 n) ↔ (⟨x.h,x.w⟩:L.Size) ∈ L.tab w 0 n:=fun x=>by
  unfold L.tr
  rw [List.mem_reverse,List.mem_map]
  constructor
  ·rintro ⟨s,hs,rfl⟩;exact hs
  ·exact fun hs=>⟨_,hs,rfl⟩
 refine Cu.stair_uniq (tr_stair (tab_stair w 0 h h15)) (tab_stair w 0 h h15) (fun s=>⟨?_,?_⟩)
 ·rintro ⟨x,hx,h1,h2⟩
  have h3:L.fits w 0 n ⟨s.h,s.w⟩:=⟨_,(mem x).1 hx,h2,h1⟩
  exact fits_turn w n (by omega) _ h3
 ·intro hf
  obtain ⟨x,hx,h1,h2⟩:=fits_turn w n (by omega) _ hf
  exact ⟨⟨x.h,x.w⟩,(mem _).2 hx,h2,h1⟩
theorem tab_mirror (w:L.Sq L.Want) {g:Int} (h:0 <= g) (h15:g <= 15) {i:Nat} (hi:i<(L.tab w 0 g).length):((L.tab w 0 g).getD i ⟨0,0⟩).w=((L.tab w 0 g).getD ((L.tab w 0 g).length - 1 - i) ⟨0,0⟩).h:=by
 have e:=tab_turn w h h15
 have e2:(L.tab w 0 g)[i]? = (L.tr (L.tab w 0 g))[i]?:=by rw [e]
 unfold L.tr at e2
 rw [List.getElem?_reverse (by simpa using hi),List.getElem?_map,List.length_map] at e2
 rw [List.getD_eq_getElem?_getD,List.getD_eq_getElem?_getD,e2,List.getElem?_eq_getElem (by omega)]
 rfl
def chkD1 (g i k:Nat):Bool:=let e:Int:=2 ^ i;let h:Int:=(g:Int) - e;let p:=L.part g k;let c:=L.cmp_ g k;let q:=bif L.bitI p i then p else c;let r:=bif L.bitI p i then c else p
 (decide (q=e) && decide (r=h)) || (decide (1 <= h) && decide (L.isOne h=false) && decide (0 <= q - e) && L.bitI q i && (List.range (L.partN h)).any fun k'=>(decide (L.part h k'=q - e) && decide (L.cmp_ h k'=r)) || (decide (L.part h k'=r) && decide (L.cmp_ h k'=q - e)))
def chkD (g:Nat):Bool:=(List.range 4).all fun i=>!L.bitI g i || (if L.isOne g=true then decide ((g:Int)=2 ^ i) else decide (0 <= (g:Int) - 2 ^ i) && (List.range (L.partN g)).all fun k=>chkD1 g i k)
theorem chkD_all:((List.range 16).all chkD)=true:=by kernel_rfl
theorem fits_less (w:L.Sq L.Want) (gr:Int):∀ (n:Nat),n <= 15 -> ∀ i,i<4->L.bitI n i=true -> ∀ s:L.Size,L.fits w gr n s->L.fits w gr ((n:Int) - 2 ^ i) s:=fun n=>by
 induction n using Nat.strongRecOn with
 | _ n ih =>
   intro hn i hi hb s hf
   have hc:=List.all_eq_true.1 (List.all_eq_true.1 chkD_all n (List.mem_range.2 (by omega))) i (List.mem_range.2 hi)
   rw [hb,Bool.not_true,Bool.false_or] at hc
   have hpos:=fits_pos (by omega) (by omega) hf
   cases h1:L.isOne n with
   | true =>
     rw [if_pos h1] at hc
     rw [of_decide_eq_true hc,Int.sub_self,fits_0]
     exact hpos
   | false =>
     rw [if_neg (by rw [h1];decide)] at hc
     have h0:n ≠ 0:=fun e=>by subst e;rw [show ((0:Nat):Int)=0 from rfl,isOne_0] at h1;cases h1
     obtain ⟨hz,hc⟩:=Bool.and_eq_true_iff.1 hc
     have hz:=of_decide_eq_true hz
     rw [fits_2 (by omega) (by omega) h1] at hf
     obtain ⟨k,hk,hj⟩:=hf
     have hc:=List.all_eq_true.1 hc k (List.mem_range.2 hk)
     obtain ⟨p1,p2,p3,p4,p5⟩:=(grp_prt (show 1 <= (n:Int) by omega) (by omega) h1).2 k hk
     have main : ∀ q r : Int, 0 < q -> q < n -> 0 < r -> r < n -> Jn (L.fits w gr q) (L.fits w gr r) s -> ((decide (q = 2 ^ i) && decide (r = (n:Int) - 2 ^ i)) || (decide (1 <= (n:Int) - 2 ^ i) && decide (L.isOne ((n:Int) - 2 ^ i) = false) && decide (0 <= q - 2 ^ i) && L.bitI q i && (List.range (L.partN ((n:Int) - 2 ^ i))).any fun k' =>
       (decide (L.part ((n:Int) - 2 ^ i) k'=q - 2 ^ i) && decide (L.cmp_ ((n:Int) - 2 ^ i) k'=r)) || (decide (L.part ((n:Int) - 2 ^ i) k'=r) && decide (L.cmp_ ((n:Int) - 2 ^ i) k'=q - 2 ^ i))))=true->L.fits w gr ((n:Int) - 2 ^ i) s:=fun q r q1 q2 r1 r2 hj h=>by
      simp only [Bool.or_eq_true,Bool.and_eq_true,decide_eq_true_eq,List.any_eq_true] at h
      rcases h with ⟨h2,h3⟩ | ⟨⟨⟨⟨h2,h3⟩,h4⟩,h5⟩,k',hk',h6⟩
      ·rw [<- h3]
       rcases hj with ⟨x,y,hl,j1,j2⟩ | ⟨x,y,hl,j1,j2⟩
       ·have:=(fits_pos (by omega) (by omega) j1).1
        exact fits_mono j2 ⟨by simp only at *;omega,Int.le_refl _⟩
       ·have:=(fits_pos (by omega) (by omega) j1).2
        exact fits_mono j2 ⟨Int.le_refl _,by simp only at *;omega⟩
      ·have hq : ∀ s, L.fits w gr q s -> L.fits w gr (q - 2 ^ i) s := fun s hs => by
        obtain ⟨m,rfl⟩:=Int.eq_ofNat_of_zero_le (Int.le_of_lt q1)
        exact ih m (by omega) (by omega) i hi h5 s hs
       rw [fits_2 h2 (by have:(0:Int)<2 ^ i:=Int.pow_pos (by decide);omega) h3]
       refine ⟨k',List.mem_range.1 hk',?_⟩
       have hj':=hj.mono hq (fun _ h=>h)
       rcases h6 with ⟨e1,e2⟩ | ⟨e1,e2⟩
       ·rw [e1,e2];exact hj'
       ·rw [e1,e2];exact hj'.symm
     unfold chkD1 at hc
     cases hb:L.bitI (L.part n k) i with
     | true =>
       have hc:=hc
       simp only [hb,cond_true] at hc
       exact main _ _ p1 p2 p3 p4 hj (by rw [hb];exact hc)
     | false =>
       simp only [hb,cond_false] at hc
       exact main _ _ p3 p4 p1 p2 hj.symm hc
def L.rmTo (w:L.Sq L.Want) (s:L.Sheet) (i:Nat):Bool:=L.anyB i fun j=>L.fitsB ((L.tabF w s.grain (L.all w.n)).g j) ⟨s.w,s.h⟩
def L.less (w:L.Sq L.Want) (k:Nat):L.Sq L.Want:=⟨w.n - 1,fun i=>if i<k then w.g i else w.g (i+1)⟩
def chkLs (n k:Nat):Bool:=let m:=L.all n - 2 ^ k;decide (0 <= m) && (decide (m <= 15) && (decide ((L.posL m).length=n - 1) && (((List.range (n - 1)).all fun i=>decide ((L.posL m).getD i 0=if i<k then i else i+1)) && (decide (L.expI m (L.all (n - 1))=m) && (L.bitI (L.all n) k && (decide (0 <= L.all (n - 1)) && decide (L.all (n - 1)<2 ^ (n - 1))))))))
theorem chkLs_all:((List.range 5).all fun n=>(List.range n).all fun k=>chkLs n k)=true:=by kernel_rfl
theorem chkLs_at {n k:Nat} (hn:n <= 4) (hk:k<n):0 <= L.all n - 2 ^ k/\L.all n - 2 ^ k <= 15/\(L.posL (L.all n - 2 ^ k)).length=n - 1/\(∀ i,i<n - 1->(L.posL (L.all n - 2 ^ k)).getD i 0=if i<k then i else i+1)/\L.expI (L.all n - 2 ^ k) (L.all (n - 1))=L.all n - 2 ^ k/\L.bitI (L.all n) k=true/\0 <= L.all (n - 1)/\L.all (n - 1)<2 ^ (n - 1):=by
 have h:=List.all_eq_true.1 (List.all_eq_true.1 chkLs_all n (List.mem_range.2 (by omega))) k (List.mem_range.2 hk)
 unfold chkLs at h
 simp only [Bool.and_eq_true,decide_eq_true_eq,List.all_eq_true,List.mem_range] at h
 obtain ⟨h1,h2,h3,h4,h5,h6,h7,h8⟩:=h
 exact ⟨h1,h2,h3,h4,h5,h6,h7,h8⟩
theorem less_fits {w:L.Sq L.Want} {gr:Int} {k:Nat} {s:L.Size} (hn:w.n <= 4) (hk:k<w.n) (h:L.fits w gr (L.all w.n) s):L.fits (L.less w k) gr (L.all (w.n - 1)) s:=by
 obtain ⟨h1,h2,h3,h4,h5,h6,h7,h8⟩:=chkLs_at hn hk
 obtain ⟨a1,a2,_,_⟩:=all_bd hn
 have e1:((L.all w.n).toNat:Int)=L.all w.n:=Int.toNat_of_nonneg a1
 have e2:((L.all (w.n - 1)).toNat:Int)=L.all (w.n - 1):=Int.toNat_of_nonneg h7
 have f1:=fits_less w gr (L.all w.n).toNat (by omega) k (by omega) (by rw [e1];exact h6) s (by rw [e1];exact h)
 rw [e1] at f1
 have t:=tab_exp (w:=w) (w':=L.less w k) (gr:=gr) h1 h2 (fun i hi=>by
  rw [h3] at hi
  rw [h4 i hi]
  unfold L.less
  simp only
  split <;> rfl) (L.all (w.n - 1)).toNat (by rw [e2,h3];exact h8)
 rw [e2,h5] at t
 unfold L.fits
 rw [t]
 exact f1
theorem roomB_iff {w:L.Sq L.Want} {gr g:Int} {s:L.Size}:L.roomB w gr g s=true ↔ L.fits w gr g s:=by
 unfold L.roomB L.fits Cu.cov
 rw [anyB_iff]
 constructor
 ·rintro ⟨i,hi,h⟩
  refine ⟨_,tabF_mem hi,?_⟩
  unfold L.fitsB at h
  by_cases h1:((L.tabF w gr g).g i).w <= s.w
  ·rw [decide_eq_true h1] at h
   exact ⟨h1,of_decide_eq_true h⟩
  ·rw [decide_eq_false h1] at h;cases h
 ·rintro ⟨x,hx,h1,h2⟩
  obtain ⟨i,hi,rfl⟩:=List.getElem_of_mem hx
  refine ⟨i,hi,?_⟩
  have e:(L.tabF w gr g).g i=(L.tab w gr g)[i]:=by
   show (L.tab w gr g).getD i ⟨0,0⟩=_
   rw [List.getD_eq_getElem?_getD,List.getElem?_eq_getElem hi];rfl
  unfold L.fitsB
  rw [e,decide_eq_true h1]
  exact decide_eq_true h2
theorem few_pre {w:L.Sq L.Want} {s:L.Sq L.Sheet} (h:L.few w s=true):L.preW w/\w.n <= 20/\(s.n <= 4\/7<s.n)/\s.n <= 20:=by
 unfold L.few at h
 cases hf:L.fewN w.n s.n with
 | true=>rw [hf] at h;cases h
 | false =>
   rw [hf] at h
   have hall:∀ i,i<w.n->(w.g i).ol.n <= 1000000:=fun i hi=>by
    have h1:=allB_iff.1 h i hi
    have h2:(!L.gt (w.g i).ol.n 60)=true:=h1
    cases e:L.gt (w.g i).ol.n 60 with
    | true=>rw [e] at h2;cases h2
    | false=>have:¬ (60:Int)<((w.g i).ol.n:Int):=of_decide_eq_false e;omega
   unfold L.fewN at hf
   unfold L.preW
   cases e1:L.gt w.n 4 <;> cases e2:L.lee w.n 7 <;> cases e3:L.gt w.n 20 <;> cases e4:L.gt s.n 4 <;> cases e5:L.lee s.n 7 <;> cases e6:L.gt s.n 20 <;> rw [e1,e2,e3,e4,e5,e6] at hf <;> first
    | exact absurd hf (by decide)
    | (simp only [L.gt,L.lee,decide_eq_true_eq,decide_eq_false_iff_not] at e1 e2 e3 e4 e5 e6;exact ⟨⟨by omega,by omega,hall⟩,by omega,by omega,by omega⟩)
theorem vSheets_one {s:L.Sheet} (h:L.vSheet s=true):L.vSheets (L.oneSh s)=true:=allB_iff.2 fun i hi=>by
 have hi:i<1:=hi
 obtain rfl:i=0:=by omega
 show (!L.badAt (fun _=>L.vSheet s) (fun _=>s.id) 0)=true
 unfold L.badAt
 rw [h];rfl
theorem szE_fit {w:L.Sq L.Want} {s:L.Sheet} (h:L.vSheet s=true) {gr:Int} (hg:L.within gr 0 2=true):L.szE w gr=L.fitE w s:=by
 unfold L.szE L.fitE L.badE
 rw [hg,vSheets_one h]
 rfl
theorem vSheet_gr {s:L.Sheet} (h:L.vSheet s=true):L.within s.grain 0 2=true:=by
 unfold L.vSheet at h
 generalize (bif (bif (bif L.within s.id 1 65535 then L.within s.colour 1 16 else false) then L.within s.w 1 4096 else false) then L.within s.h 1 4096 else false)=b at h
 cases b with
 | true=>exact h
 | false=>cases h
theorem vWants_at {w:L.Sq L.Want} (h:L.vWants w=true) {i:Nat} (hi:i<w.n):L.vWant (w.g i)=true/\(0<i->(w.g (i - 1)).id<(w.g i).id):=by
 have h1:=allB_iff.1 h i hi
 have h2:(!L.badAt (fun i=>L.vWant (w.g i)) (fun i=>(w.g i).id) i)=true:=h1
 unfold L.badAt at h2
 cases e:L.vWant (w.g i) with
 | false=>simp only [e] at h2;cases h2
 | true =>
   refine ⟨rfl,fun h0=>?_⟩
   simp only [e,decide_eq_true (show 0<(i:Int) by omega)] at h2
   have h3:(!decide ((w.g i).id <= (w.g (i - 1)).id))=true:=h2
   simp only [Bool.not_eq_true',decide_eq_false_iff_not] at h3
   omega
theorem vWants_of {w:L.Sq L.Want} (h:∀ i,i<w.n->L.vWant (w.g i)=true/\(0<i->(w.g (i - 1)).id<(w.g i).id)):L.vWants w=true:=allB_iff.2 fun i hi=>by
 obtain ⟨h1,h2⟩:=h i hi
 show (!(bif !L.vWant (w.g i) then true else bif decide (0<(i:Int)) then decide ((w.g i).id <= (w.g (i - 1)).id) else false))=true
 rw [h1]
 by_cases e:0<i
 ·have:=h2 e
  rw [decide_eq_true (show 0<(i:Int) by omega),decide_eq_false (show ¬ (w.g i).id <= (w.g (i - 1)).id by omega)];rfl
 ·rw [decide_eq_false (show ¬ 0<(i:Int) by omega)];rfl
theorem less_all {w w':L.Sq L.Want} {s:L.Sheet} {k:Nat} (hv:L.vWants w=true) (hs:L.vSheet s=true) (hn:w.n <= 4) (hk:k<w.n) (hn':w'.n=w.n - 1) (hg:∀ i,i<w.n - 1->w'.g i=if i<k then w.g i else w.g (i+1)) :
  L.fitE w' s=0/\(L.fitB w s=true->L.fitB w' s=true):=by
 have hv':L.vWants w'=true:=vWants_of fun i hi=>by
  rw [hn'] at hi
  rw [hg i hi]
  by_cases h1:i<k
  ·rw [if_pos h1]
   obtain ⟨a,b⟩:=vWants_at hv (show i<w.n by omega)
   refine ⟨a,fun h0=>?_⟩
   rw [hg (i - 1) (by omega),if_pos (by omega)]
   exact b h0
  ·rw [if_neg h1]
   obtain ⟨a,b⟩:=vWants_at hv (show i+1<w.n by omega)
   refine ⟨a,fun h0=>?_⟩
   have b:=b (by omega)
   rw [Nat.add_sub_cancel] at b
   rw [hg (i - 1) (by omega)]
   by_cases h2:i - 1<k
   ·rw [if_pos h2]
    have c:=(vWants_at hv (show i<w.n by omega)).2 h0
    omega
   ·rw [if_neg h2,show i - 1+1=i by omega]
    exact b
 have e0:L.fitE w' s=0:=by
  unfold L.fitE L.badE
  rw [hv',vSheets_one hs,decide_eq_false (show ¬ (7:Int)<(w'.n:Int) by omega)]
  rfl
 refine ⟨e0,fun h=>?_⟩
 unfold L.fitB at h ⊢
 rw [e0,decide_eq_true rfl,cond_true]
 cases hd:decide (L.fitE w s=0) with
 | false=>rw [hd] at h;cases h
 | true =>
   rw [hd,cond_true] at h
   have f:=less_fits (s:=⟨s.w,s.h⟩) hn hk (roomB_iff.1 h)
   refine roomB_iff.2 ?_
   obtain ⟨h1,h2,h3,h4,h5,h6,h7,h8⟩:=chkLs_at hn hk
   have e2:((L.all (w.n - 1)).toNat:Int)=L.all (w.n - 1):=Int.toNat_of_nonneg h7
   have t:=tab_exp (w:=w) (w':=w') (gr:=s.grain) h1 h2 (fun i hi=>by
    rw [h3] at hi
    rw [h4 i hi,hg i hi]
    split <;> rfl) (L.all (w.n - 1)).toNat (by rw [e2,h3];exact h8)
   have t':=tab_exp (w:=w) (w':=L.less w k) (gr:=s.grain) h1 h2 (fun i hi=>by
    rw [h3] at hi
    rw [h4 i hi]
    unfold L.less
    simp only
    split <;> rfl) (L.all (w.n - 1)).toNat (by rw [e2,h3];exact h8)
   unfold L.fits at f ⊢
   rw [hn',<- e2,t,<- t',e2]
   exact f
end Go.Proofs.YtpgaejicfbpcmaaGreat
namespace Go.Proofs.YtpgaejicfbpcmaaGreat
open Go.SE Go.RowKit
set_option maxRecDepth 100000
set_option maxHeartbeats 20000000
set_option linter.unusedVariables false
attribute [local irreducible] vc
section
attribute [local irreducible] L.all L.tab L.few L.vWants L.badE
def w_Sizes_p (w:(L.Sq L.Want)) (s:L.Sheet) (k:Int):Prop:=InK .i64 k
def w_Sizes_r (w:(L.Sq L.Want)) (s:L.Sheet) (k:Int):SV:=.bool true
def w_Sizes_s:List EV->Option (Prop × SV)
 | [.p (.sl 4 w_n w_g),.p (.agg [.int .i64 s_id,.int .i64 s_colour,.int .i64 s_w,.int .i64 s_h,.int .i64 s_grain]),.p (.int .i64 k)]=>some ((∀ i,i<w_n->okWant (w_g i))/\w_Sizes_p (⟨w_n,fun i=>ofWant (w_g i)⟩:(L.Sq L.Want)) (⟨s_id,s_colour,s_w,s_h,s_grain⟩:L.Sheet) k,w_Sizes_r (⟨w_n,fun i=>ofWant (w_g i)⟩:(L.Sq L.Want)) (⟨s_id,s_colour,s_w,s_h,s_grain⟩:L.Sheet) k)
 | _=>none
abbrev w_Sizes_S:SE.Spec:=(specO w_Sizes_s)
def w_Sizes_C:Cfg:={ cC with specs:=lookS [(12,w_awake_S),(13,w_few_S),(23,r5_ValidSheet_S),(14,c_Sizes_S),(16,c_FitsIn_S)],nils:=lookM [(28,[(18,175,55,4)])] }
theorem w_Sizes_vc (w:(L.Sq L.Want)) (s:L.Sheet) (k:Int) (hp:w_Sizes_p w s k):vc Tryz.prog ({ w_Sizes_C with loops:=lookL [(10,{ T:=Nat,keep:=[0,2,4,7,8,10],keepO:=[],chg:=fun i=>[(12,.p (.bool (L.rmTo w s i))),(13,.p (.int .i64 (i:Int)))],own:=fun _=>[],inv:=fun i=>i <= L.szN w s.grain,mu:=fun i=>L.szN w s.grain - i }),(17,{ T:=Nat,keep:=[0,2,4,7,10,12,14,15],keepO:=[],chg:=fun i=>[(16,.p (.int .i64 (i:Int)))],own:=fun _=>[],inv:=fun i=>i <= L.szN w 0,mu:=fun i=>L.szN w 0 - i })],rfs:=lookR [],joins:=lookL [(26,{ T:=Nat,keep:=[0,4,7,10,12,15],keepO:=[],chg:=fun t=>[(2,.p (.int .i64 (t:Int)))],own:=fun _=>[],inv:=fun t=>t <= 9223372036854775807,mu:=fun _=>0 })] }) (bodyOf Tryz.f4) (st0 Tryz.f4 [.p (.sl 4 w.n (fun i=>[.int .i64 ((w.g i).id),.int .i64 ((w.g i).colour),.int .i64 ((w.g i).grain),.sl 2 (w.g i).ol.n (fun i1=>[.int .i64 (((w.g i).ol.g i1).x),.int .i64 (((w.g i).ol.g i1).y)])])),.p (.agg [.int .i64 s.id,.int .i64 s.colour,.int .i64 s.w,.int .i64 s.h,.int .i64 s.grain]),.p (.int .i64 k)]) (retFn Tryz.prog Tryz.f4 (w_Sizes_r w s k)) :=
 @Eq.mpr _ (let I:=SV.int .i64;let T:=Int.toNat;let M:=Int.tmod;let A43:=(140737488355328:Nat);let A42:=(2:Nat);let A38:=(L.all w.n);let A34:=(9223372036854775807:Nat);let A27:=(nat_lit 0);let A18:=(1:Int);let A14:=(↑w.n:Int);let A11:=[I s.id,I s.colour,I s.w,I s.h,I s.grain];let A8:=(∀ (i:Nat),i<w.n -> ∀ (i_1:Nat),let A35:=((w.g i).ol.g i_1);i_1<(w.g i).ol.n -> [I A35.x,I A35.y] = [I A35.x,I A35.y]);let A4:=(0:Int);let A21:=(L.Sq.mk A27 fun (i:Nat)=>L.Sheet.mk A4 A4 A4 A4 A4);let A3:=(w.n=w.n /\ ∀ (i:Nat),let A17:=[I (w.g i).id,I (w.g i).colour,I (w.g i).grain,SV.sl A42 (w.g i).ol.n fun (i1:Nat)=>[I ((w.g i).ol.g i1).x,I ((w.g i).ol.g i1).y]];i<w.n->A17=A17);let A1:=(L.Sq.mk w.n fun (i:Nat)=>L.Want.mk (w.g i).id (w.g i).colour (w.g i).grain (L.Sq.mk (w.g i).ol.n fun (i_1:Nat)=>(w.g i).ol.g i_1));let A41:=(A8/\L.preW A1);let A33:=(bif !L.few A1 A21 then true else !L.vSheet s);let A23:=(bif !decide (L.szE A1 s.grain=A4) then true else !decide (L.fitE A1 s=A4));let A16:=(↑(L.szN A1 s.grain):Int);let A15:=(↑(L.szN A1 A4):Int);let A9:=(L.tabF A1 s.grain A38);True/\(A8/\(∀ (i:Nat),i<nat_lit 0 -> [] = [I A4,I A4,I A4,I A4,I A4])/\True)/\((!!L.few A1 A21)=true->True)/\(A33=true->true=true)/\(A33=false->A41/\A41/\(A23=true->(bif true then decide (L.szE A1 s.grain=L.fitE A1 s) else false)=true)/\(A23=false->(∃ (g:Nat),false=L.rmTo w s g/\A4=(↑g:Int)/\g <= L.szN w s.grain) /\ ∀ (g:Nat),let A19:=(bif bif !L.rmTo w s g == L.fitB A1 s then true else !decide (L.szE A1 A4=A4) then true else decide (A14=A4));let A10:=(↑g:Int);let A36:=(A9.g (T (A10 - A18)));let A32:=(A9.g (T A10));let A13:=(decide (A4<A10) && !decide (A32.w <= A36.w));let A12:=(bif decide (A4<A10) then bif decide (A32.w <= A36.w) then true else decide (A36.h <= A32.h) else false);g <= L.szN w s.grain->(decide (A10<A16)=true->(decide (A4<A10)=true->A4 <= A10/\A10<A16)/\(decide (A4<A10)=true->InK .i64 (A10 - A18))/\(decide (A4<A10)=true->A4 <= A10 - A18/\A10 - A18<A16)/\(A13=true->A4 <= A10/\A10<A16)/\(A13=true->InK .i64 (A10 - A18))/\(A13=true->A4 <= A10 - A18/\A10 - A18<A16)/\(A12=true->false=true)/\(A12=false->((!L.rmTo w s g)=true->A4 <= A10/\A10<A16)/\((!L.rmTo w s g && decide (A32.w <= s.w))=true->A4 <= A10/\A10<A16)/\InK .i64 (A10+A18) /\ ∃ (g':Nat),(bif L.rmTo w s g then true else bif decide (A32.w <= s.w) then decide (A32.h <= s.h) else false)=L.rmTo w s g'/\A10+A18=(↑g':Int)/\L.fitB A1 s=L.fitB A1 s/\(L.szN A1 s.grain=L.szN A1 s.grain /\ ∀ (i:Nat),let A6:=(L.Sq.mk w.n fun (i:Nat)=>L.Want.mk (w.g i).id (w.g i).colour (w.g i).grain (L.Sq.mk (w.g i).ol.n fun (i_1:Nat)=>(w.g i).ol.g i_1));let A22:=((L.tabF A6 s.grain A38).g i);i<L.szN A6 s.grain -> [I A22.w,I A22.h] = [I A22.w,I A22.h])/\true=true/\SV.ref A11 A27=SV.ref A11 A27/\A3/\k=k/\g' <= L.szN w s.grain/\L.szN w s.grain - g'<L.szN w s.grain - g))/\(decide (A10<A16)=false->A41/\(∃ (g:Nat),A4=(↑g:Int)/\g <= L.szN w A4) /\ ∀ (g_1:Nat),let A25:=(↑g_1:Int);let A20:=(!decide (((L.tabF A1 A4 A38).g (T A25)).w=((L.tabF A1 A4 A38).g (T (A15 - A18 - A25))).h));g_1 <= L.szN w A4->(decide (A25<A15)=true->InK .i64 (A15 - A18)/\InK .i64 (A15 - A18 - A25)/\(A4 <= A25/\A25<A15)/\(A4 <= A15 - A18 - A25/\A15 - A18 - A25<A15)/\(A20=true->false=true)/\(A20=false->InK .i64 (A25+A18) /\ ∃ (g':Nat),A25+A18=(↑g':Int)/\L.szE A1 A4=L.szE A1 A4/\(L.szN A1 A4=L.szN A1 A4 /\ ∀ (i:Nat),let A7:=(L.Sq.mk w.n fun (i:Nat)=>L.Want.mk (w.g i).id (w.g i).colour (w.g i).grain (L.Sq.mk (w.g i).ol.n fun (i_1:Nat)=>(w.g i).ol.g i_1));let A26:=((L.tabF A7 A4 A38).g i);i<L.szN A7 A4 -> [I A26.w,I A26.h] = [I A26.w,I A26.h])/\L.rmTo w s g=L.rmTo w s g/\L.fitB A1 s=L.fitB A1 s/\true=true/\SV.ref A11 A27=SV.ref A11 A27/\A3/\k=k/\g' <= L.szN w A4/\L.szN w A4 - g'<L.szN w A4 - g_1))/\(decide (A25<A15)=false->(A19=true->(bif bif true then L.rmTo w s g == L.fitB A1 s else false then decide (L.szE A1 A4=A4) else false)=true)/\(A19=false->((decide (k<A4)=true->InK .i64 (k+A18)/\InK .i64 (A4 - (k+A18)) /\ ∃ (g_2:Nat),A4 - (k+A18)=(↑g_2:Int)/\L.szE A1 A4=L.szE A1 A4/\L.rmTo w s g=L.rmTo w s g/\L.fitB A1 s=L.fitB A1 s/\true=true/\SV.ref A11 A27=SV.ref A11 A27/\A3/\g_2 <= A34)/\(decide (k<A4)=false -> ∃ (g_2:Nat),k=(↑g_2:Int)/\L.szE A1 A4=L.szE A1 A4/\L.rmTo w s g=L.rmTo w s g/\L.fitB A1 s=L.fitB A1 s/\true=true/\SV.ref A11 A27=SV.ref A11 A27/\A3/\g_2 <= A34)) /\ ∀ (g:Nat),let A37:=(↑g:Int);let A24:=(M A37 A14 - A4);let A39:=(nat_lit 0+T A24);let A5:=(M A37 A14+A18);let A40:=(nat_lit 0+T A24+T (A14 - A5));let A2:=(L.Sq.mk A40 fun (i:Nat)=>ofWant (appGet A39 (appGet A27 (fun (x:Nat)=>[]) fun (i:Nat)=>let A28:=(w.g (T A4+i));[I A28.id,I A28.colour,I A28.grain,SV.sl A42 A28.ol.n fun (i1:Nat)=>[I (A28.ol.g i1).x,I (A28.ol.g i1).y]]) (fun (i:Nat)=>let A29:=(w.g (T A5+i));[I A29.id,I A29.colour,I A29.grain,SV.sl A42 A29.ol.n fun (i1:Nat)=>[I (A29.ol.g i1).x,I (A29.ol.g i1).y]]) i));g <= A34->A14 ≠ A4/\(A4 <= A4/\A4 <= M A37 A14/\M A37 A14 <= A14)/\A39 * nat_lit 48 <= A43/\InK .i64 A5/\(A4 <= M A37 A14+A18/\M A37 A14+A18 <= A14/\A14 <= A14)/\A40 * nat_lit 48 <= A43/\((∀ (i:Nat),i<nat_lit 0+T A24+T (A14 - A5)->okWant (appGet A39 (appGet A27 (fun (x:Nat)=>[]) fun (i:Nat)=>let A30:=(w.g (T A4+i));[I A30.id,I A30.colour,I A30.grain,SV.sl A42 A30.ol.n fun (i1:Nat)=>[I (A30.ol.g i1).x,I (A30.ol.g i1).y]]) (fun (i:Nat)=>let A31:=(w.g (T A5+i));[I A31.id,I A31.colour,I A31.grain,SV.sl A42 A31.ol.n fun (i1:Nat)=>[I (A31.ol.g i1).x,I (A31.ol.g i1).y]]) i))/\L.preW A2)/\(bif bif true then decide (L.fitE A2 s=A4) else false then bif L.fitB A2 s then true else !L.fitB A1 s else false)=true)))))) (by kernel_rfl) (by
 conv=>zeta
 have hk:InK .i64 k:=hp
 have eW:(L.Sq.mk w.n fun i=>L.Want.mk (w.g i).id (w.g i).colour (w.g i).grain (L.Sq.mk (w.g i).ol.n fun j=>(w.g i).ol.g j))=w:=rfl
 have ol:∀ i,i<w.n -> ∀ j,j<(w.g i).ol.n -> [SV.int .i64 ((w.g i).ol.g j).x,SV.int .i64 ((w.g i).ol.g j).y] = [SV.int .i64 ((w.g i).ol.g j).x,SV.int .i64 ((w.g i).ol.g j).y]:=fun _ _ _ _=>rfl
 rw [eW]
 refine ⟨trivial,⟨ol,fun i hi=>absurd hi (Nat.not_lt_zero _),trivial⟩,fun _=>trivial,fun _=>rfl,fun hf=>?_⟩
 have hfew:L.few w (L.Sq.mk 0 fun _=>L.Sheet.mk 0 0 0 0 0)=true:=by
  cases e:L.few w (L.Sq.mk 0 fun _=>L.Sheet.mk 0 0 0 0 0) with
  | true=>rfl
  | false=>rw [e] at hf;cases hf
 have hs:L.vSheet s=true:=by
  rw [hfew] at hf
  cases e:L.vSheet s with
  | true=>rfl
  | false=>rw [e] at hf;cases hf
 obtain ⟨hpre,hn20,_,_⟩:=few_pre hfew
 have gr:=vSheet_gr hs
 have eE:=szE_fit (w:=w) hs gr
 have eE0:=szE_fit (w:=w) hs (gr:=0) (by decide)
 refine ⟨⟨ol,hpre⟩,⟨ol,hpre⟩,fun he=>?_,fun he=>?_⟩
 ·show decide (L.szE w s.grain=L.fitE w s)=true
  rw [eE];exact decide_eq_true rfl
 have h0:L.fitE w s=0:=by
  cases e:decide (L.fitE w s=0) with
  | true=>exact of_decide_eq_true e
  | false =>
    rw [eE,e] at he;cases he
 have hz:L.szE w s.grain=0:=eE.trans h0
 have hz0:L.szE w 0=0:=eE0.trans h0
 obtain ⟨hv,-,-,h7,-⟩:=badE_0 h0
 have ok:=okW_of hpre h7
 have hn4:=ok.1
 obtain ⟨a1,a2,_,_⟩:=all_bd hn4
 have eN:∀ gr,L.szE w gr=0->L.szN w gr=(L.tab w gr (L.all w.n)).length:=fun gr h=>by unfold L.szN;rw [h];rfl
 have eM:=eN _ hz
 have eM0:=eN _ hz0
 have lM:=tab_len_le w s.grain a1 a2
 have lM0:=tab_len_le w 0 a1 a2
 have st:=tab_stair w s.grain a1 a2
 have at_:∀ gr i,(L.tabF w gr (L.all w.n)).g i=(L.tab w gr (L.all w.n)).getD i ⟨0,0⟩:=fun _ _=>rfl
 refine ⟨⟨0,rfl,rfl,Nat.zero_le _⟩,fun g hg=>⟨fun hc=>?_,fun hc=>?_⟩⟩
 ·have hc:(g:Int)<(L.szN w s.grain:Int):=of_decide_eq_true hc
  have hlt:g<L.szN w s.grain:=by omega
  have e0:((g:Int)).toNat=g:=Int.toNat_natCast g
  have e1:((g:Int) - 1).toNat=g - 1:=by omega
  have c0:0 <= (g:Int)/\(g:Int)<(L.szN w s.grain:Int):=⟨Int.natCast_nonneg _,hc⟩
  have k1:InK .i64 ((g:Int) - 1):=jK
  have k2:InK .i64 ((g:Int)+1):=jK
  have c1:0<(g:Int)->0 <= (g:Int) - 1/\(g:Int) - 1<(L.szN w s.grain:Int):=fun h=>by omega
  have pos:∀ {b:Bool},(decide (0<(g:Int)) && b)=true->0<(g:Int):=fun h=>of_decide_eq_true (Bool.and_eq_true_iff.1 h).1
  rw [e0,e1]
  refine ⟨fun _=>c0,fun _=>k1,fun h=>c1 (of_decide_eq_true h),fun _=>c0,fun _=>k1,fun h=>c1 (pos h),fun h=>?_,fun _=>⟨fun _=>c0,fun _=>c0,k2,g+1,?_,(by (try dsimp only);(repeat' with_reducible apply And.intro) <;> first | with_reducible rfl | with_reducible assumption | with_reducible exact fun _=>rfl | with_reducible exact fun _ _=>rfl | with_reducible exact trivial | exact rfl | (intro _;exact rfl) | (intro _ _;exact rfl) | exact hg | exact by omega | exact by show _ <= _;omega | exact trivial | (intro _ h_;exact absurd h_ (Nat.not_lt_zero _)))⟩⟩
  ·exfalso
   cases hd:decide (0<(g:Int)) with
   | false=>rw [hd] at h;cases h
   | true =>
     have h1:0<(g:Int):=of_decide_eq_true hd
     rw [hd,cond_true] at h
     have i1:g - 1<(L.tab w s.grain (L.all w.n)).length:=by omega
     have i2:g<(L.tab w s.grain (L.all w.n)).length:=by omega
     obtain ⟨q1,q2⟩:=List.pairwise_iff_getElem.1 st (g - 1) g i1 i2 (by omega)
     rw [at_,at_,List.getD_eq_getElem?_getD,List.getD_eq_getElem?_getD,List.getElem?_eq_getElem i1,List.getElem?_eq_getElem i2] at h
     simp only [Option.getD_some] at h
     rw [decide_eq_false (by omega),decide_eq_false (by omega)] at h
     cases h
  ·show (bif L.rmTo w s g then true else L.fitsB ((L.tabF w s.grain (L.all w.n)).g g) ⟨s.w,s.h⟩)=L.rmTo w s (g+1)
   unfold L.rmTo
   rw [L.anyB]
   cases L.anyB g fun j=>L.fitsB ((L.tabF w s.grain (L.all w.n)).g j) ⟨s.w,s.h⟩ <;> cases L.fitsB ((L.tabF w s.grain (L.all w.n)).g g) ⟨s.w,s.h⟩ <;> rfl
 ·have hc:¬ (g:Int)<(L.szN w s.grain:Int):=of_decide_eq_false hc
  obtain rfl:g=L.szN w s.grain:=by omega
  have eR:L.rmTo w s (L.szN w s.grain)=L.fitB w s:=by
   unfold L.fitB
   rw [h0,eM]
   rfl
  rw [eR]
  refine ⟨⟨ol,hpre⟩,⟨0,rfl,Nat.zero_le _⟩,fun g hg=>⟨fun hc=>?_,fun hc=>?_⟩⟩
  ·have hc:(g:Int)<(L.szN w 0:Int):=of_decide_eq_true hc
   have hlt:g<L.szN w 0:=by omega
   have e0:((g:Int)).toNat=g:=Int.toNat_natCast g
   have e1:((L.szN w 0:Int) - 1 - (g:Int)).toNat=(L.tab w 0 (L.all w.n)).length - 1 - g:=by omega
   have k2:InK .i64 ((g:Int)+1):=jK
   rw [e0,e1]
   refine ⟨jK,jK,by omega,by omega,fun h=>?_,fun _=>⟨k2,g+1,(by (try dsimp only);(repeat' with_reducible apply And.intro) <;> first | with_reducible rfl | with_reducible assumption | with_reducible exact fun _=>rfl | with_reducible exact fun _ _=>rfl | with_reducible exact trivial | exact rfl | (intro _;exact rfl) | (intro _ _;exact rfl) | exact hg | exact by omega | exact by show _ <= _;omega | exact trivial | (intro _ h_;exact absurd h_ (Nat.not_lt_zero _)))⟩⟩
   exfalso
   have m:=tab_mirror w a1 a2 (i:=g) (by omega)
   rw [at_,at_,decide_eq_true m] at h
   cases h
  ·refine ⟨fun _=>?_,fun h2=>⟨⟨fun hneg=>?_,fun hneg=>?_⟩,fun t ht=>?_⟩⟩
   ·rw [hz0]
    cases L.fitB w s <;> rfl
   ·have hneg:k<0:=of_decide_eq_true hneg
    have hk1 : -9223372036854775808 <= k:=hk.1
    exact ⟨jK,jK,(0 - (k+1)).toNat,(by (try dsimp only);(repeat' with_reducible apply And.intro) <;> first | with_reducible rfl | with_reducible exact fun _=>rfl | with_reducible exact fun _ _=>rfl | with_reducible exact trivial | exact rfl | (intro _;exact rfl) | (intro _ _;exact rfl) | exact by omega | exact trivial | (intro _ h_;exact absurd h_ (Nat.not_lt_zero _)))⟩
   ·have hneg:¬ k<0:=of_decide_eq_false hneg
    have hk2:k <= 9223372036854775807:=hk.2
    exact ⟨k.toNat,(by (try dsimp only);(repeat' with_reducible apply And.intro) <;> first | with_reducible rfl | with_reducible exact fun _=>rfl | with_reducible exact fun _ _=>rfl | with_reducible exact trivial | exact rfl | (intro _;exact rfl) | (intro _ _;exact rfl) | exact by omega | exact trivial | (intro _ h_;exact absurd h_ (Nat.not_lt_zero _)))⟩
   ·have hn1 : 0 < w.n := by
     rcases Nat.eq_zero_or_pos w.n with h | h
     ·rw [h,hz0] at h2
      exfalso
      revert h2
      cases L.fitB w s <;> decide
     ·exact h
    have m1:=Int.tmod_nonneg (w.n:Int) (show 0 <= (t:Int) by omega)
    have m2:=Int.tmod_lt_of_pos (t:Int) (show 0<(w.n:Int) by omega)
    generalize Int.tmod (t:Int) (w.n:Int)=q at *
    obtain ⟨q,rfl⟩:=Int.eq_ofNat_of_zero_le m1
    have eq1:0+((q:Int) - 0).toNat=q:=by omega
    have eq2:((w.n:Int) - ((q:Int)+1)).toNat=w.n - 1 - q:=by omega
    have eq3:((q:Int)+1).toNat=q+1:=by omega
    rw [eq1,eq2,eq3]
    have eq4:q+(w.n - 1 - q)=w.n - 1:=by omega
    rw [eq4]
    obtain ⟨G,hG⟩:∃ G:Nat->List SV,G=fun i=>appGet q (appGet 0 (fun _=>[]) fun i=>[SV.int .i64 (w.g (Int.toNat 0+i)).id,.int .i64 (w.g (Int.toNat 0+i)).colour,.int .i64 (w.g (Int.toNat 0+i)).grain,.sl 2 (w.g (Int.toNat 0+i)).ol.n fun i1=>[.int .i64 ((w.g (Int.toNat 0+i)).ol.g i1).x,.int .i64 ((w.g (Int.toNat 0+i)).ol.g i1).y]]) (fun i=>[SV.int .i64 (w.g (q+1+i)).id,.int .i64 (w.g (q+1+i)).colour,.int .i64 (w.g (q+1+i)).grain,.sl 2 (w.g (q+1+i)).ol.n fun i1=>[.int .i64 ((w.g (q+1+i)).ol.g i1).x,.int .i64 ((w.g (q+1+i)).ol.g i1).y]]) i:=⟨_,rfl⟩
    have gA:∀ i,i<q->G i = [SV.int .i64 (w.g i).id,.int .i64 (w.g i).colour,.int .i64 (w.g i).grain,.sl 2 (w.g i).ol.n fun i1=>[.int .i64 ((w.g i).ol.g i1).x,.int .i64 ((w.g i).ol.g i1).y]]:=fun i hi=>by
     rw [hG]
     unfold appGet
     simp only [if_pos hi,if_neg (Nat.not_lt_zero i),Nat.sub_zero]
     rw [show Int.toNat 0+i=i from Nat.zero_add i]
    have gB:∀ i,i<w.n - 1->¬ i<q->G i = [SV.int .i64 (w.g (i+1)).id,.int .i64 (w.g (i+1)).colour,.int .i64 (w.g (i+1)).grain,.sl 2 (w.g (i+1)).ol.n fun i1=>[.int .i64 ((w.g (i+1)).ol.g i1).x,.int .i64 ((w.g (i+1)).ol.g i1).y]]:=fun i hi hn=>by
     rw [hG]
     unfold appGet
     simp only [if_neg hn]
     rw [show q+1+(i - q)=i+1 by omega]
    have oA:∀ i,i<q->okWant (G i)/\ofWant (G i)=w.g i:=fun i hi=>by
     rw [gA i hi];exact ⟨fun _ _=>rfl,rfl⟩
    have oB:∀ i,i<w.n - 1->¬ i<q->okWant (G i)/\ofWant (G i)=w.g (i+1):=fun i hi hn=>by
     rw [gB i hi hn];exact ⟨fun _ _=>rfl,rfl⟩
    have ok':∀ i,i<w.n - 1->okWant (G i):=fun i hi=>by
     by_cases h:i<q
     ·exact (oA i h).1
     ·exact (oB i hi h).1
    have hl:=less_all (w':=⟨w.n - 1,fun i=>ofWant (G i)⟩) hv hs hn4 (k:=q) (by omega) rfl (fun i hi=>by
     by_cases h:i<q
     ·rw [if_pos h];exact (oA i h).2
     ·rw [if_neg h];exact (oB i hi h).2)
    have pre':L.preW ⟨w.n - 1,fun i=>ofWant (G i)⟩:=⟨.inl (by show w.n - 1 <= 4;omega),by show w.n - 1 <= 1000000;omega,fun i hi=>by
     have hi:i<w.n - 1:=hi
     show (ofWant (G i)).ol.n <= 1000000
     by_cases h:i<q
     ·rw [(oA i h).2];exact ok.2 _ (by omega)
     ·rw [(oB i hi h).2];exact ok.2 _ (by omega)⟩
    have goal : ↑w.n ≠ (0:Int)/\((0:Int) <= 0/\0 <= (q:Int)/\(q:Int) <= (w.n:Int))/\q * 48 <= 140737488355328/\InK .i64 ((q:Int)+1)/\(0 <= (q:Int)+1/\(q:Int)+1 <= (w.n:Int)/\(w.n:Int) <= (w.n:Int))/\(w.n - 1) * 48 <= 140737488355328/\((∀ i,i<w.n - 1->okWant (G i))/\L.preW ⟨w.n - 1,fun i=>ofWant (G i)⟩)/\(bif bif true then decide (L.fitE ⟨w.n - 1,fun i=>ofWant (G i)⟩ s=0) else false then bif L.fitB ⟨w.n - 1,fun i=>ofWant (G i)⟩ s then true else !L.fitB w s else false)=true:=by
     refine ⟨by omega,by omega,by omega,jK,by omega,by omega,⟨ok',pre'⟩,?_⟩
     rw [hl.1]
     cases hb:L.fitB w s with
     | false=>cases L.fitB ⟨w.n - 1,fun i=>ofWant (G i)⟩ s <;> rfl
     | true=>rw [hl.2 hb];rfl
    rw [hG] at goal
    exact goal)
theorem w_Sizes_ok:SpecOk Tryz.prog 4 w_Sizes_S:=fnX Tryz.func4 (c:=bodyOf Tryz.f4) (by kernel_rfl) mixed (fun args p r hs hp=>by
 unfold w_Sizes_s at hs
 split at hs
 ·cases hs;exact ⟨_,_,w_Sizes_vc _ _ _ hp.2,(.p (Want_ext hp.1) (.same _ (.same _ .nil))),⟨show SpecsL Tryz.prog _ from (SpecsL.cons w_awake_ok w_awake_en (SpecsL.cons w_few_ok w_few_en (SpecsL.cons r5_ValidSheet_ok r5_ValidSheet_en (SpecsL.cons c_Sizes_ok c_Sizes_en (SpecsL.cons c_FitsIn_ok c_FitsIn_en SpecsL.nil))))),rfl,⟨show ItersL Tryz.prog _ from ItersL.nil,(TrsOk.none (fun _=>rfl))⟩⟩⟩
 ·cases hs)
end
end Go.Proofs.YtpgaejicfbpcmaaGreat
