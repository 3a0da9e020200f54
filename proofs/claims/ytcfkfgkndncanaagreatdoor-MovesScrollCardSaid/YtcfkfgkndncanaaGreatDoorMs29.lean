/- Texts of this claim, merged by a program of this claim: FDif, FDif2. -/
import Derived.Test.YtcfkfgkndncanaaGreatDoorMs23
import Derived.Test.YtcfkfgkndncanaaGreatDoorMs24
import Derived.Test.YtcfkfgkndncanaaGreatDoorMs28
namespace Go.Proofs.YtcfkfgkndncanaaGreatDoor
set_option linter.unusedVariables false
set_option linter.unusedSimpArgs false
section
open Go.RowKit
set_option maxRecDepth 100000
set_option maxHeartbeats 4000000
theorem jwH (f:CD→CD){L:List CD}{i:Nat}(h:i<L.length):(half f L i).getD i default=L.getD i default:=by
 rw[List.getD_eq_getElem?_getD,jse f (jdi h)]
 rfl
theorem jwI {f:CD→CD}{L:List CD}{i:Nat}(h:i<L.length) (e:f (L.getD i default)=L.getD i default):half f L (i+1)=half f L i:=by
 rw[←jsf f (jdi h),e]
 have hl:i<(half f L i).length:=by rw[jsd];exact h
 have:=jse f (jdi h)
 rw[List.getElem?_eq_getElem hl]at this
 rw[←Option.some.inj this,List.set_getElem_self]
abbrev jqT (k:Int) (r:Int) (L:List CD) (x:Int) (y:Int) (hd:Bool) (mo:Int) (ti:ByteArray) (bl:List ByteArray) (links:List ByteArray):List CV:=[.agg [.int .i64 k,.int .i64 r,.vec .cell L,.int .i64 x,.int .i64 y,.bool hd,.int .u8 mo,.str ti,.vec .str bl],.vec .str links]
abbrev jqU (k:Int) (r:Int) (L:List CD) (x:Int) (y:Int) (hd:Bool) (mo:Int) (ti:ByteArray) (bl:List ByteArray) (links:List ByteArray):Prop×Res:=(L.length≤60000∧bl.length≤60000∧links.length≤60000∧(∀c∈L,CWf c)∧(∀c∈L,c.link≤bl.length),.ret (.vec .cell (L.map (ulf bl links))))
noncomputable def sp_under:Spec:=spOf (α:=Int×Int×(List CD)×Int×Int×Bool×Int×ByteArray×(List ByteArray)×(List ByteArray)) (fun⟨k,r,L,x,y,hd,mo,ti,bl,links⟩=>jqT k r L x y hd mo ti bl links) fun⟨k,r,L,x,y,hd,mo,ti,bl,links⟩=>jqU k r L x y hd mo ti bl links
theorem jai (k:Int) (r:Int) (L:List CD) (x:Int) (y:Int) (hd:Bool) (mo:Int) (ti:ByteArray) (bl:List ByteArray) (links:List ByteArray):sp_under (jqT k r L x y hd mo ti bl links)=some (jqU k r L x y hd mo ti bl links):=jak _ injS (k,r,L,x,y,hd,mo,ti,bl,links)
theorem jss:Fresh Tryz.prog E0 85 sp_under:=Fresh.of fun⟨k,r,L,x,y,hd,mo,ti,bl,links⟩ hG=>TF.intro (V:=(VV [(24,conT [.sl .cell] sp_clone),(114,conF [.sl .str,.any] sp_sindex)] (.cons (jaa ja7) (Fresh.soundT jgB) (.cons (jaa jbA) (Fresh.soundF jk2) GOk.nil)) 41 0)) jef rfl rfl (by
 dsimp only[jqT,jqU]at hG ⊢
 obtain⟨hL,hb,hl,hc,hle⟩:=hG
 repeat' first|simp only[SA,seval,rdB,jaf,jba]|simp only[hw]|simp only[hw2]|simp only[hw3]|refine tT ?_|refine Cos.intro [1] [] rfl ?_|refine And.intro ?_ ?_|exact tC|(refine tI ?_;intro hyp)|intro hyp0|omega
 refine T.loop (fun i:Nat=>⟨[(1,.vec .str links),(2,.ptr 0 0 0),(5,.slice 1 0 6 L.length L.length),(12,.int .i64 L.length),(13,.int .i64 i)],[.box [.int .i64 k,.int .i64 r,.vec .cell L,.int .i64 x,.int .i64 y,.bool hd,.int .u8 mo,.str ti,.vec .str bl],.seq .cell (half (ulf bl links) L i)]⟩) (fun i=>i≤L.length) (fun i=>L.length-i) 0 (by omega) (Cos.intro [0,1] [] rfl (by simp only[SA,seval,rdB,jaf,jba];simp[half])) (fun i hi=>?_)
 have hhl:=jsd (ulf bl links) L i
 by_cases hil:i<L.length
 ·have hlk:=(hc _ (jcU hil)).link
  have hlb:=hle _ (jcU hil)
  have hw:=jwH (ulf bl links) hil
  have hst:=jsf (ulf bl links) (jdi hil)
  by_cases h0:0<(L.getD i default).link
  ·have hpl:=jdS links (bl.getD ((L.getD i default).link-1).toNat ETy.str.dflt)
   have hu:ulf bl links (L.getD i default)={ L.getD i default with link:=jaS links (bl.getD ((L.getD i default).link-1).toNat ETy.str.dflt)+1 }:=if_pos h0
   rw[hu]at hst
   have hw2:IntKind.u16.wrap ((L.getD i default).link-1)=(L.getD i default).link-1:=jpy (by omega)
   have hw3:IntKind.u16.wrap (jaS links (bl.getD ((L.getD i default).link-1).toNat ETy.str.dflt)+1)=jaS links (bl.getD ((L.getD i default).link-1).toNat ETy.str.dflt)+1:=jpy (by omega)
   repeat' first|simp only[SA,seval,rdB,jaf,jba]|simp only[hw]|simp only[hw2]|simp only[hw3]|refine tT ?_|refine And.intro ?_ ?_|exact tC|(refine tI ?_;intro hyp)|intro hyp0|omega
   exact⟨i+1,by omega,by omega,Cos.intro [0,1] [] rfl (by rw[←hst];(simp only[SA,seval,rdB,jaf,jba]<;>exact tE))⟩
  ·have hu:ulf bl links (L.getD i default)=L.getD i default:=if_neg h0
   have hsk:=jwI (f:=ulf bl links) hil hu
   repeat' first|simp only[SA,seval,rdB,jaf,jba]|simp only[hw]|simp only[hw2]|simp only[hw3]|refine tT ?_|refine And.intro ?_ ?_|exact tC|(refine tI ?_;intro hyp)|intro hyp0|omega
   exact⟨i+1,by omega,by omega,Cos.intro [0,1] [] rfl (by rw[hsk];(simp only[SA,seval,rdB,jaf,jba]<;>exact tE))⟩
 ·have e:half (ulf bl links) L i=L.map (ulf bl links):=jyF _ _ _ (by omega)
  rw[e]
  have hlm:(L.map (ulf bl links)).length=L.length:=by simp
  repeat' first|simp only[SA,seval,rdB,jaf,jba]|simp only[hw]|simp only[hw2]|simp only[hw3]|refine tT ?_|refine Cos.intro [1] [] rfl ?_|refine And.intro ?_ ?_|exact tC|(refine tI ?_;intro hyp)|intro hyp0|omega)
end
section
open Go.RowKit
set_option maxRecDepth 100000
set_option maxHeartbeats 4000000
abbrev jlx (k:Int) (r:Int) (L:List CD) (x:Int) (y:Int) (hd:Bool) (mo:Int) (ti:ByteArray) (l:List ByteArray) (k':Int) (r':Int) (L':List CD) (x':Int) (y':Int) (hd':Bool) (mo':Int) (ti':ByteArray) (l':List ByteArray) (m:Int):List CV:=[.agg [.int .i64 k,.int .i64 r,.vec .cell L,.int .i64 x,.int .i64 y,.bool hd,.int .u8 mo,.str ti,.vec .str l],.agg [.int .i64 k',.int .i64 r',.vec .cell L',.int .i64 x',.int .i64 y',.bool hd',.int .u8 mo',.str ti',.vec .str l'],.int .i64 m]
abbrev jly (k:Int) (r:Int) (L:List CD) (x:Int) (y:Int) (hd:Bool) (mo:Int) (ti:ByteArray) (l:List ByteArray) (k':Int) (r':Int) (L':List CD) (x':Int) (y':Int) (hd':Bool) (mo':Int) (ti':ByteArray) (l':List ByteArray) (m:Int):Prop×Res:=(L.length≤60000∧L'.length≤60000∧(-10000≤m*k∧m*k≤10000),.ret (.int .i64 (cntF (fun i=>jfs L (i+m*k)) (cAt L') L'.length)))
noncomputable def sp_differs:Spec:=spOf (α:=Int×Int×(List CD)×Int×Int×Bool×Int×ByteArray×(List ByteArray)×Int×Int×(List CD)×Int×Int×Bool×Int×ByteArray×(List ByteArray)×Int) (fun⟨k,r,L,x,y,hd,mo,ti,l,k',r',L',x',y',hd',mo',ti',l',m⟩=>jlx k r L x y hd mo ti l k' r' L' x' y' hd' mo' ti' l' m) fun⟨k,r,L,x,y,hd,mo,ti,l,k',r',L',x',y',hd',mo',ti',l',m⟩=>jly k r L x y hd mo ti l k' r' L' x' y' hd' mo' ti' l' m
theorem jbb (k:Int) (r:Int) (L:List CD) (x:Int) (y:Int) (hd:Bool) (mo:Int) (ti:ByteArray) (l:List ByteArray) (k':Int) (r':Int) (L':List CD) (x':Int) (y':Int) (hd':Bool) (mo':Int) (ti':ByteArray) (l':List ByteArray) (m:Int):sp_differs (jlx k r L x y hd mo ti l k' r' L' x' y' hd' mo' ti' l' m)=some (jly k r L x y hd mo ti l k' r' L' x' y' hd' mo' ti' l' m):=jak _ injS (k,r,L,x,y,hd,mo,ti,l,k',r',L',x',y',hd',mo',ti',l',m)
theorem jtI:Alias Tryz.prog E0 115 sp_differs:=Alias.of fun⟨k,r,L,x,y,hd,mo,ti,l,k',r',L',x',y',hd',mo',ti',l',m⟩ hG=>TF.intro (V:=(VV [(126,conF [.any] sp_cblank)] (.cons (jaa jdP) (Fresh.soundF jkA) GOk.nil) 53 0)) jeB rfl rfl (by
 dsimp only[jlx,jly]at hG ⊢
 obtain⟨hL,hL',hm⟩:=hG
 repeat' first|simp only[SA,seval,rdB,jav]|simp only[hw3]|refine tT ?_|refine Cos.intro [] [] rfl ?_|refine And.intro ?_ ?_|exact tC|(refine tI ?_;intro hyp)|intro hyp0|omega
 refine T.loop (fun i:Nat=>⟨[(3,.ptr 0 0 0),(7,.int .i64 (cntF (fun i=>jfs L (i+m*k)) (cAt L') i)),(8,.int .i64 (m*k)),(17,.vec .cell L'),(18,.int .i64 L'.length),(19,.int .i64 i)],[.box [.int .i64 k,.int .i64 r,.vec .cell L,.int .i64 x,.int .i64 y,.bool hd,.int .u8 mo,.str ti,.vec .str l]]⟩) (fun i=>i≤L'.length) (fun i=>L'.length-i) 0 (by omega) (Cos.intro [0] [] rfl (by simp only[SA,seval,rdB,jav];simp[cntF])) (fun i hi=>?_)
 have hct:=jqr (fun i=>jfs L (i+m*k)) (cAt L') i
 have hcs:=jhT (fun i=>jfs L (i+m*k)) (cAt L') i
 by_cases hil:i<L'.length
 ·rw[jfZ hil]at hcs
  by_cases hin:0≤(i:Int)+m*k∧(i:Int)+m*k<L.length
  ·have e:jfs L ((i:Int)+m*k)=L.getD ((i:Int)+m*k).toNat default:=by
    unfold jfs
    rw[if_pos hin,jfZ (by omega)]
   rw[e]at hcs
   unfold jee at hcs
   repeat' first|simp only[SA,seval,rdB,jav]|simp only[hw3]|refine tT ?_|refine And.intro ?_ ?_|exact tC|(refine tI ?_;intro hyp)|intro hyp0|omega
   ·refine⟨i+1,by omega,by omega,Cos.intro [0] [] rfl ?_⟩
    rw[hcs,if_neg (fun q=>hyp (of_decide_eq_true q))]
    (simp only[SA,seval,rdB,jav]<;>exact tE)
   ·refine⟨i+1,by omega,by omega,Cos.intro [0] [] rfl ?_⟩
    rw[hcs,if_pos (decide_eq_true hyp)]
    (simp only[SA,seval,rdB,jav]<;>exact tE)
  ·have e:jfs L ((i:Int)+m*k)=blank0:=if_neg hin
   rw[e]at hcs
   unfold jee at hcs
   have hw3:jeU { fg:=0,bg:=0,attrs:=0,link:=0 }=blank0:=rfl
   repeat' first|simp only[SA,seval,rdB,jav]|simp only[hw3]|refine tT ?_|refine And.intro ?_ ?_|exact tC|(refine tI ?_;intro hyp)|intro hyp0|omega
   ·refine⟨i+1,by omega,by omega,Cos.intro [0] [] rfl ?_⟩
    rw[hcs,if_neg (fun q=>hyp (of_decide_eq_true q))]
    (simp only[SA,seval,rdB,jav]<;>exact tE)
   ·refine⟨i+1,by omega,by omega,Cos.intro [0] [] rfl ?_⟩
    rw[hcs,if_pos (decide_eq_true hyp)]
    (simp only[SA,seval,rdB,jav]<;>exact tE)
 ·obtain rfl:i=L'.length:=by omega
  repeat' first|simp only[SA,seval,rdB,jav]|simp only[hw3]|refine tT ?_|refine Cos.intro [] [] rfl ?_|refine And.intro ?_ ?_|exact tC|(refine tI ?_;intro hyp)|intro hyp0|omega)
theorem jtJ:Fresh Tryz.prog E0 115 sp_differs:=Alias.fresh jtI (fun x=>rfl)
theorem jy6 {m k:Int}(h1:-100≤m∧m≤100) (h2:0≤k∧k≤100):-10000≤m*k∧m*k≤10000:=by
 have a1:m*k≤100*k:=Int.mul_le_mul_of_nonneg_right h1.2 h2.1
 have a2:-100*k≤m*k:=Int.mul_le_mul_of_nonneg_right h1.1 h2.1
 omega
abbrev jxc (k:Int) (r:Int) (L:List CD) (x:Int) (y:Int) (hd:Bool) (mo:Int) (ti:ByteArray) (l:List ByteArray) (k':Int) (r':Int) (L':List CD) (x':Int) (y':Int) (hd':Bool) (mo':Int) (ti':ByteArray) (l':List ByteArray):List CV:=[.agg [.int .i64 k,.int .i64 r,.vec .cell L,.int .i64 x,.int .i64 y,.bool hd,.int .u8 mo,.str ti,.vec .str l],.agg [.int .i64 k',.int .i64 r',.vec .cell L',.int .i64 x',.int .i64 y',.bool hd',.int .u8 mo',.str ti',.vec .str l']]
abbrev jxd (k:Int) (r:Int) (L:List CD) (x:Int) (y:Int) (hd:Bool) (mo:Int) (ti:ByteArray) (l:List ByteArray) (k':Int) (r':Int) (L':List CD) (x':Int) (y':Int) (hd':Bool) (mo':Int) (ti':ByteArray) (l':List ByteArray):Prop×Res:=(L.length≤60000∧L'.length≤60000∧(0≤k∧k≤100)∧(1≤r∧r≤100),.ret (.int .i64 (jd1 (fun m=>cntF (fun i=>jfs L (i+m*k)) (cAt L') L'.length) (r.toNat-1)).1))
noncomputable def sp_best:Spec:=spOf (α:=Int×Int×(List CD)×Int×Int×Bool×Int×ByteArray×(List ByteArray)×Int×Int×(List CD)×Int×Int×Bool×Int×ByteArray×(List ByteArray)) (fun⟨k,r,L,x,y,hd,mo,ti,l,k',r',L',x',y',hd',mo',ti',l'⟩=>jxc k r L x y hd mo ti l k' r' L' x' y' hd' mo' ti' l') fun⟨k,r,L,x,y,hd,mo,ti,l,k',r',L',x',y',hd',mo',ti',l'⟩=>jxd k r L x y hd mo ti l k' r' L' x' y' hd' mo' ti' l'
theorem jaA (k:Int) (r:Int) (L:List CD) (x:Int) (y:Int) (hd:Bool) (mo:Int) (ti:ByteArray) (l:List ByteArray) (k':Int) (r':Int) (L':List CD) (x':Int) (y':Int) (hd':Bool) (mo':Int) (ti':ByteArray) (l':List ByteArray):sp_best (jxc k r L x y hd mo ti l k' r' L' x' y' hd' mo' ti' l')=some (jxd k r L x y hd mo ti l k' r' L' x' y' hd' mo' ti' l'):=jak _ injS (k,r,L,x,y,hd,mo,ti,l,k',r',L',x',y',hd',mo',ti',l')
theorem jBl:Alias Tryz.prog E0 86 sp_best:=Alias.of fun⟨k,r,L,x,y,hd,mo,ti,l,k',r',L',x',y',hd',mo',ti',l'⟩ hG=>TF.intro (V:=(VV [(115,conF [.agg [.any,.any,.sl .cell,.any,.any,.any,.any,.any,.sl .str],.agg [.any,.any,.sl .cell,.any,.any,.any,.any,.any,.sl .str],.any] sp_differs)] (.cons (jaa jeB) (Fresh.soundF jtJ) GOk.nil) 40 0)) jgp rfl rfl (by
 dsimp only[jxc,jxd]at hG ⊢
 obtain⟨hL,hL',hk,hr⟩:=hG
 obtain⟨d,hD⟩:∃d:Int→Nat,d=fun m=>cntF (fun i=>jfs L (i+m*k)) (cAt L') L'.length:=⟨_,rfl⟩
 have hw:∀m:Int,cntF (fun i=>jfs L (i+m*k)) (cAt L') L'.length=d m:=fun m=>by rw[hD]
 have hdl:∀m,d m≤L'.length:=fun m=>by rw[hD];exact jqr _ _ _
 have hmk:∀m:Int,-100≤m∧m≤100 → -10000≤m*k∧m*k≤10000:=fun m h=>jy6 h hk
 have h00:=hmk 0 (by omega)
 repeat' first|simp only[SA,seval,rdB,jbb]|simp only[hw]|refine tT ?_|refine Cos.intro [] [] rfl ?_|refine And.intro ?_ ?_|exact tC|(refine tI ?_;intro hyp)|intro hyp0|omega
 refine T.loop (fun n:Nat=>⟨[(2,.ptr 0 0 0),(3,.ptr 1 0 0),(5,.int .i64 (jd1 d (n-1)).1),(6,.int .i64 (jd1 d (n-1)).2),(7,.int .i64 n)],[.box [.int .i64 k,.int .i64 r,.vec .cell L,.int .i64 x,.int .i64 y,.bool hd,.int .u8 mo,.str ti,.vec .str l],.box [.int .i64 k',.int .i64 r',.vec .cell L',.int .i64 x',.int .i64 y',.bool hd',.int .u8 mo',.str ti',.vec .str l']]⟩) (fun n=>1≤n∧n≤r.toNat) (fun n=>r.toNat-n) 1 (by omega) (Cos.intro [0,1] [] rfl (by simp only[SA,seval,rdB,jbb];simp[jd1])) (fun n hn=>?_)
 have hbl:∀j,(jd1 d j).2≤L'.length∧(-(j:Int)≤(jd1 d j).1∧(jd1 d j).1≤j):=fun j=>⟨by
  induction j with
  | zero=>exact hdl 0
  | succ j ih =>
   simp only[jd1,jdr]
   have:=hdl ((j+1:Nat):Int)
   have:=hdl (-((j+1:Nat):Int))
   split<;>(try split)<;>(try simp only)<;>omega,jnC d j⟩
 have hb1:=hbl (n-1)
 by_cases hnr:n<r.toNat
 ·repeat' first|simp only[SA,seval,rdB,jbb]|simp only[hw]|refine tT ?_|refine And.intro ?_ ?_|exact tC|(refine tI ?_;intro hyp)|intro hyp0|omega
  obtain⟨st,hst⟩:∃st,st=jd1 d (n-1):=⟨_,rfl⟩
  rw[←hst]
  refine T.loop (fun j:Nat=>⟨[(2,.ptr 0 0 0),(3,.ptr 1 0 0),(5,.int .i64 (innB d st n j).1),(6,.int .i64 (innB d st n j).2),(7,.int .i64 n),(23,.slice 2 0 1 2 2),(24,.int .i64 2),(25,.int .i64 j)],[.box [.int .i64 k,.int .i64 r,.vec .cell L,.int .i64 x,.int .i64 y,.bool hd,.int .u8 mo,.str ti,.vec .str l],.box [.int .i64 k',.int .i64 r',.vec .cell L',.int .i64 x',.int .i64 y',.bool hd',.int .u8 mo',.str ti',.vec .str l'],.seq (.int .i64) [n,-n]]⟩) (fun j=>j≤2) (fun j=>2-j) 0 (by omega) (Cos.intro [0,1,2] [] rfl (by simp only[SA,seval,rdB,jbb];simp[innB])) (fun j hj=>?_)
  rw[←hst]at hb1
  have hdn:=hdl n
  have hdm:=hdl (-n)
  rcases (show j=0∨j=1∨j=2 by omega)with rfl|rfl|rfl
  ·have e0:innB d st n 0=st:=rfl
   have e1:innB d st n 1=jdr d st n:=rfl
   rw[e0]
   repeat' first|exact hmk _ (by omega)|simp only[SA,seval,rdB,jbb]|simp only[hw]|refine tT ?_|refine And.intro ?_ ?_|exact tC|(refine tI ?_;intro hyp)|intro hyp0|omega
   ·exact⟨1,by omega,by omega,Cos.intro [0,1,2] [] rfl (by rw[e1,(jfQ d st n).1 (by omega)];(simp only[SA,seval,rdB,jbb]<;>exact tE))⟩
   ·exact⟨1,by omega,by omega,Cos.intro [0,1,2] [] rfl (by rw[e1,(jfQ d st n).2 (by omega)];(simp only[SA,seval,rdB,jbb]<;>exact tE))⟩
  ·have e1:innB d st n 1=jdr d st n:=rfl
   have e2:innB d st n 2=jdr d (jdr d st n) (-n):=rfl
   obtain⟨su,hsu⟩:∃su,su=jdr d st n:=⟨_,rfl⟩
   have hs2:su.2≤L'.length:=by
    rw[hsu]
    unfold jdr
    split<;>(try simp only)<;>omega
   rw[e1,←hsu]
   rw[←hsu]at e2
   repeat' first|exact hmk _ (by omega)|simp only[SA,seval,rdB,jbb]|simp only[hw]|refine tT ?_|refine And.intro ?_ ?_|exact tC|(refine tI ?_;intro hyp)|intro hyp0|omega
   ·exact⟨2,by omega,by omega,Cos.intro [0,1,2] [] rfl (by rw[e2,(jfQ d su (-n)).1 (by omega)];(simp only[SA,seval,rdB,jbb]<;>exact tE))⟩
   ·exact⟨2,by omega,by omega,Cos.intro [0,1,2] [] rfl (by rw[e2,(jfQ d su (-n)).2 (by omega)];(simp only[SA,seval,rdB,jbb]<;>exact tE))⟩
  ·have e2:innB d st n 2=jd1 d n:=by
    obtain⟨z,rfl⟩:∃z,n=z+1:=⟨n-1,by omega⟩
    rw[hst]
    rfl
   rw[e2]
   repeat' first|simp only[SA,seval,rdB,jbb]|simp only[hw]|refine tT ?_|refine And.intro ?_ ?_|exact tC|(refine tI ?_;intro hyp)|intro hyp0|omega
   exact⟨n+1,by omega,by omega,Cos.intro [0,1] [] rfl (by rw[Nat.add_sub_cancel];(simp only[SA,seval,rdB,jbb]<;>exact tE))⟩
 ·obtain rfl:n=r.toNat:=by omega
  repeat' first|simp only[SA,seval,rdB,jbb]|simp only[hw]|refine tT ?_|refine Cos.intro [] [] rfl ?_|refine And.intro ?_ ?_|exact tC|(refine tI ?_;intro hyp)|intro hyp0|omega)
theorem jBm:Fresh Tryz.prog E0 86 sp_best:=Alias.fresh jBl (fun x=>rfl)
end
end Go.Proofs.YtcfkfgkndncanaaGreatDoor
