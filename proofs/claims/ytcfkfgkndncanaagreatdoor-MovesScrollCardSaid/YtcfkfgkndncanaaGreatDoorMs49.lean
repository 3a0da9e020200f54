/- Texts of this claim, merged by a program of this claim: FLawS. -/
import Derived.Test.YtcfkfgkndncanaaGreatDoorMs44
import Derived.Test.YtcfkfgkndncanaaGreatDoorMs48
namespace Go.Proofs.YtcfkfgkndncanaaGreatDoor
set_option linter.unusedVariables false
set_option linter.unusedSimpArgs false
section
open Go.RowKit
set_option maxRecDepth 100000
set_option maxHeartbeats 8000000
theorem jzk (v:Int) (h:0≤v∧v<256):IntKind.u8.wrap (97+v % 26)=97+v % 26∧IntKind.i32.wrap (97+v % 26)=97+v % 26:=⟨w_u8 (by omega),js3 (by omega)⟩
abbrev jxx (k:Int) (r:Int) (L:List CD) (x:Int) (y:Int) (hd:Bool) (mo:Int) (ti:ByteArray) (l:List ByteArray) (lt:Int) (nn:Int) (x0:Int):List CV:=[.agg [.int .i64 k,.int .i64 r,.vec .cell L,.int .i64 x,.int .i64 y,.bool hd,.int .u8 mo,.str ti,.vec .str l],.int .u8 lt,.int .u8 nn,.int .i64 x0]
abbrev jxy (k:Int) (r:Int) (L:List CD) (x:Int) (y:Int) (hd:Bool) (mo:Int) (ti:ByteArray) (l:List ByteArray) (lt:Int) (nn:Int) (x0:Int):Prop×Res:=(((∀c∈L,CWf c)∧SLen ti∧(∀s∈l,SLen s)∧0≤mo)∧(0≤lt∧lt<256)∧(0≤nn∧nn<256)∧(-9223372036854775808≤x0∧x0≤9223372036854775807),.ret (.bool true))
noncomputable def sp_lawS:Spec:=spOf (α:=Int×Int×(List CD)×Int×Int×Bool×Int×ByteArray×(List ByteArray)×Int×Int×Int) (fun⟨k,r,L,x,y,hd,mo,ti,l,lt,nn,x0⟩=>jxx k r L x y hd mo ti l lt nn x0) fun⟨k,r,L,x,y,hd,mo,ti,l,lt,nn,x0⟩=>jxy k r L x y hd mo ti l lt nn x0
theorem jtQ (k:Int) (r:Int) (L:List CD) (x:Int) (y:Int) (hd:Bool) (mo:Int) (ti:ByteArray) (l:List ByteArray) (lt:Int) (nn:Int) (x0:Int):sp_lawS (jxx k r L x y hd mo ti l lt nn x0)=some (jxy k r L x y hd mo ti l lt nn x0):=jak _ injS (k,r,L,x,y,hd,mo,ti,l,lt,nn,x0)
theorem jBx:Alias Tryz.prog E0 6 sp_lawS:=Alias.of fun⟨k,r,L,x,y,hd,mo,ti,l,lt,nn,x0⟩ hG=>TF.intro (V:=(VV [(7,conF [.agg [.any,.any,.sl .cell,.any,.any,.any,.any,.any,.sl .str]] sp_great),(8,conF [] sp_fixedE),(15,conF [.agg [.any,.any,.sl .cell,.any,.any,.any,.any,.any,.sl .str]] sp_r12right),(19,conA [.agg [.any,.any,.sl .cell,.any,.any,.any,.any,.any,.sl .str]] sp_r8grid),(18,conF [.agg [.any,.any,.sl .cell],.any,.any,.any,.any] sp_r9scroll),(20,conF [.agg [.any,.any,.sl .cell],.any,.any,.any,.any,.any,.any] sp_r9do),(9,conF [.agg [.any,.any,.sl .cell,.any,.any,.any,.any,.any,.sl .str]] sp_scopy),(16,conF [.agg [.any,.any,.sl .cell,.any,.any,.any,.any,.any,.sl .str],.agg [.any,.any,.sl .cell,.any,.any,.any,.any,.any,.sl .str]] sp_menc),(11,conA [.agg [.any,.any,.sl .cell,.any,.any,.any,.any,.any,.sl .str],.sl (.int .u8)] sp_apply),(13,conF [.agg [.any,.any,.sl .cell,.any,.any,.any,.any,.any,.sl .str],.agg [.any,.any,.sl .cell,.any,.any,.any,.any,.any,.sl .str]] sp_ssame)] (.cons (jaa jk6) (Fresh.soundF jyQ) (.cons (jaa jlv) (Fresh.soundF jxb) (.cons (jaa jk5) (Fresh.soundF jqM) (.cons (jaa jmu) (Alias.soundA jxt) (.cons (jaa jji) (Fresh.soundF jrw) (.cons (jaa jsG) (Fresh.soundF jBu) (.cons (jaa jmm) (Fresh.soundF jyR) (.cons (jaa je8) (Fresh.soundF jBn) (.cons (jkb jhZ) (Alias.soundA jy4) (.cons (jaa jmn) (Fresh.soundF jyT) GOk.nil)))))))))) 120 0)) jiU rfl rfl (by
 dsimp only[jxx,jxy]at hG ⊢
 obtain⟨⟨hwf,ht,hsl,hmo⟩,hlt,hnn,hx0⟩:=hG
 by_cases hgt:(3000<(L.length:Int)∨1000<(ti.size:Int))∨1000<(l.length:Int)
 ·repeat' first|exact⟨hwf,by omega,by omega,hsl⟩|simp only[SA,seval,rdB,jcD,jca,jbE,jcb,jbF,jc6,jcE,jc5,jcG,jcF]|simp only[hw]|simp only[hw2]|simp only[hw3]|simp only[hw4]|refine tT ?_|refine Cos.intro [] [] rfl ?_|refine And.intro ?_ ?_|exact tC|(refine tI ?_;intro hyp)|intro hyp0|omega
  all_goals (exfalso;omega)
 have hsc:ScrOk L l:=⟨hwf,by omega,by omega,hsl⟩
 have g1:¬3000<(L.length:Int):=by omega
 have g2:¬1000<(ti.size:Int):=by omega
 have g3:¬1000<(l.length:Int):=by omega
 cases hA:ja6 k r L x y mo ti l
 ·have hw:=hA
  repeat' first|exact hsc|simp only[SA,seval,rdB,jcD,jca,jbE,jcb,jbF,jc6,jcE,jc5,jcG,jcF]|simp only[hw]|simp only[hw2]|simp only[hw3]|simp only[hw4]|refine tT ?_|refine Cos.intro [] [] rfl ?_|refine And.intro ?_ ?_|exact tC|(refine tI ?_;intro hyp)|intro hyp0|omega
 by_cases hno:0<(l.length:Int)∨r<2∨x0<0∨k≤x0
 ·have hw:=hA
  repeat' first|exact hsc|simp only[SA,seval,rdB,jcD,jca,jbE,jcb,jbF,jc6,jcE,jc5,jcG,jcF]|simp only[hw]|simp only[hw2]|simp only[hw3]|simp only[hw4]|refine tT ?_|refine Cos.intro [] [] rfl ?_|refine And.intro ?_ ?_|exact tC|(refine tI ?_;intro hyp)|intro hyp0|omega
  all_goals (exfalso;omega)
 obtain rfl:l=[]:=List.length_eq_zero_iff.1 (by omega)
 have hA2:=hA
 have hti:jfr ti=true:=by
  unfold ja6 at hA2
  simp only[Bool.and_eq_true]at hA2
  exact hA2.2
 have hA3:=hA
 obtain⟨K,R,X,Y,M,rfl,rfl,rfl,rfl,rfl,f⟩:=jb4 hA hmo
 have hf:=f.k1
 have hr1:=f.r1
 have hgr:=f.grid
 have hcw:CWs L:=fun c hc=>(hwf c hc).rune
 have hkr:K*R≤1920:=Nat.mul_le_mul (show K≤80 by omega) (show R≤24 by omega)
 have hbl:=jpi (c:=letC lt) f.len (by omega)
 have hmod:0≤nn % K∧nn % K<K:=⟨Int.emod_nonneg _ (by omega),Int.emod_lt_of_pos _ (by omega)⟩
 obtain⟨kk,hkk⟩:∃kk:Nat,nn % (K:Int)+1=kk:=⟨(nn % K+1).toNat,by omega⟩
 have hw:=And.intro hA3 (And.intro hbl hkk)
 repeat' first|exact hsc|exact hcw|exact hgr|simp only[SA,seval,rdB,jcD,jca,jbE,jcb,jbF,jc6,jcE,jc5,jcG,jcF]|simp only[hw]|simp only[hw2]|simp only[hw3]|simp only[hw4]|refine tT ?_|refine And.intro ?_ ?_|exact tC|(refine tI ?_;intro hyp)|intro hyp0|omega
 have hkK:kk≤K:=by omega
 have hcm:=jBt lt hlt.1
 have hcf:=jCm lt hlt.1
 have hlw:=jpg lt hlt.1
 have hwr:=jzk lt hlt
 have hR1:(R:Int)-1=((R-1:Nat):Int):=by omega
 obtain⟨X0,rfl⟩:∃X0:Nat,x0=X0:=⟨x0.toNat,by omega⟩
 have hmay:=fun (i:Nat) (h:i≤K)=>jph (kk:=i) (c:=letC lt) (x2:=X0) f hti hwf (by omega) h (by omega) hcm hcf rfl rfl
 have hnar:∀i,i≤K→∀q∈jaY (jaU K L i (letC lt)) K (R-1),q.wide=0:=fun i h q hq=>by
  rw[jf2 f.len (by omega) h]at hq
  rcases List.mem_append.1 hq with h|h
  ·rw[(List.mem_replicate.1 h).2];rfl
  ·rw[(List.mem_replicate.1 h).2]
 refine T.loop (fun i:Nat=>⟨[(1,.int .u8 lt),(3,.int .i64 X0),(4,.ptr 0 0 0),(9,.ptr 1 0 0),(10,.int .i64 kk),(11,.int .i64 i)],[.box [.int .i64 K,.int .i64 R,.vec .cell L,.int .i64 X,.int .i64 Y,.bool hd,.int .u8 M,.str ti,.vec .str []],.box [.int .i64 K,.int .i64 R,.vec .cell (jaU K L i (letC lt))]]⟩) (fun i=>i≤kk) (fun i=>kk-i) 0 (by omega) (Cos.intro [0,1] [] rfl (by (simp only[SA,seval,rdB,jcD,jca,jbE,jcb,jbF,jc6,jcE,jc5,jcG,jcF]<;>exact tE))) (fun i hi=>?_)
 by_cases hik:i<kk
 ·have hm:=hmay i (by omega)
  have hn:=hnar i (by omega)
  have hcws:CWs (jaU K L i (letC lt)):=fun c hc=>(hm.2.1 c hc).rune
  have hg2:=hm.2.2
  have hput:((jam (jaU K L i (letC lt)) K R).set (R-1) ((jaY (jaU K L i (letC lt)) K (R-1)).set i ⟨97+lt % 26,0,0,0,0,0⟩)).flatten=jaU K L (i+1) (letC lt):=jtP (c:=letC lt) f.len (by omega) (by omega)
  have hw2:=And.intro hR1 (And.intro hwr.1 hwr.2)
  have hw3:=And.intro hput hlw
  repeat' first|exact hcws|exact hg2|exact hn|exact jqV|simp only[SA,seval,rdB,jcD,jca,jbE,jcb,jbF,jc6,jcE,jc5,jcG,jcF]|simp only[hw]|simp only[hw2]|simp only[hw3]|simp only[hw4]|refine tT ?_|refine And.intro ?_ ?_|exact tC|(refine tI ?_;intro hyp)|intro hyp0|omega
  exact⟨i+1,by omega,by omega,Cos.intro [0,1] [] rfl (by (simp only[SA,seval,rdB,jcD,jca,jbE,jcb,jbF,jc6,jcE,jc5,jcG,jcF]<;>exact tE))⟩
 ·obtain rfl:i=kk:=by omega
  obtain⟨hB,hBw,hBg⟩:=hmay i hkK
  obtain⟨B,hBe⟩:∃B,jaU K L i (letC lt)=B:=⟨_,rfl⟩
  have hBl:B.length=K*R:=by rw[←hBe];exact jeF f.len (by omega) hkK
  obtain⟨K2,R2,X2,Y2,M2,e1,e2,e3,e4,e5,f2⟩:=jb4 hB (by omega)
  obtain rfl:K=K2:=by omega
  obtain rfl:R=R2:=by omega
  obtain rfl:X0=X2:=by omega
  obtain rfl:R-1=Y2:=by omega
  obtain rfl:M=M2:=by omega
  have hlen:=jtO (hd:=hd) f (by omega) hkK f2 hBw
  rw[hBe]at hB hBw hlen
  obtain⟨d,hdd⟩:∃d,encI K R L X Y hd M ti [] K R B X0 ((R-1:Nat):Int) hd M ti []=d:=⟨_,rfl⟩
  have hde:d=jf7 K R L X Y hd M ti [] B X0 (R-1) hd M ti []:=by
   rw[←hdd,encI,if_pos (by rw[hA3,hB];rfl),if_pos ⟨rfl,rfl⟩]
   rfl
  obtain⟨l0,a0,h1⟩:=jCk (hd:=hd) (hd':=hd) hA3 (by omega) hB (by omega) hBw
  have hb1:=jBp K R L X Y hd M ti [] K R B X0 ((R-1:Nat):Int) hd M ti []
  rw[hdd]at h1 hb1
  rw[←hde]at hlen
  have hl3:d.length≤1000000:=by omega
  have hscB:ScrOk B []:=⟨hBw,by omega,by simp,fun s hs=>by cases hs⟩
  have hw2:=And.intro hR1 (And.intro hBe (show errN true=0 from rfl))
  have hw3:=And.intro hA3 hB
  have hw4:=And.intro hdd h1
  repeat' first|exact hsc|exact hscB|exact hl3|exact hb1|exact ht|exact hwf _ ‹_›|simp only[SA,seval,rdB,jcD,jca,jbE,jcb,jbF,jc6,jcE,jc5,jcG,jcF]|simp only[hw]|simp only[hw2]|simp only[hw3]|simp only[hw4]|refine tT ?_|refine Cos.intro [] [] rfl ?_|refine And.intro ?_ ?_|exact tC|(refine tI ?_;intro hyp)|intro hyp0|omega
  exact decide_eq_true (by omega))
end
end Go.Proofs.YtcfkfgkndncanaaGreatDoor
