/- Texts of this claim, merged by a program of this claim: DiffM2. -/
import Derived.Test.YtienkkicehmchaaGreatDoorDl15
namespace Go.Proofs.YtienkkicehmchaaGreatDoor
open List renaming length_append→qaa,length_cons→qab,drop_eq_getElem_cons→qac,range→qaf,flatten_append→qag,all_eq_true→qah,replicate→qai,mem_range→qaj,map_congr_left→qal,drop_of_length_le→qam,flatten_cons→qan,append_assoc→qap,set_append_right→qar,append_nil→qat,length_map→qau,length_nil→qav,drop_drop→qaw,length_range→qax,flatten_nil→qay,length_drop→qaz,range'_succ→qba,filter_cons→qbb,take_of_length_le→qbc,take_append_drop→qbd,replicate_succ'→qbf,mem_of_mem_drop→qbg,drop_left→qbh,flatMap_cons→qbi,getElem_mem→qbk,length→qbl
open Bool renaming and_eq_true→qad,or_eq_true→qbm
open Nat renaming le_refl→qae,mul_comm→qak,add_sub_cancel→qao,succ_mul→qaq,lt_or_ge→qas,mul_le_mul_right→qbe,sub_self→qbj,le_trans→qbn
set_option linter.unusedVariables false
set_option linter.unusedSimpArgs false
section
open Go.RowKit
set_option maxRecDepth 100000
set_option maxHeartbeats 4000000
theorem jcE {L:List CD}{k r y:Nat}(hy:y<r):mAt (jak L k r) y=jas L k y:=ji5 (by simp[jak,hy])
theorem jaZ {L:List CD}{k r:Nat}(hL:L.length=k*r):Rect (jak L k r) k r:=by
 refine⟨jba L k r,fun l hl=>?_⟩
 obtain⟨y,hy,rfl⟩:=List.mem_map.1 hl
 exact jaQ hL (List.mem_range.1 hy)
theorem jja (L:List CD) (k:Nat):∀y,((qaf y).map (jas L k)).flatten=L.take (y*k)
 | 0=>by simp
 | y+1=>by
  rw[jaD,qag,jja L k y,qaq,List.take_add]
  simp[jas]
theorem jdI {L:List CD}{k r:Nat}(hL:L.length=k*r):(jak L k r).flatten=L:=by
 unfold jak
 rw[jja,qbc (by rw[hL,qak];exact qae _)]
section
def scrG (M:List (List CD)) (top bot:Nat) (m:Int) (p:PD) (y:Nat):List CD :=
 if top≤y∧y≤bot then (if (top:Int)≤(y:Int)+m∧(y:Int)+m≤bot then mAt M ((y:Int)+m).toNat else qai (mAt M y).length (jcv p)) else mAt M y
def jb6 (M:List (List CD)) (top bot:Nat) (m:Int) (p:PD):List (List CD):=(qaf M.length).map (scrG M top bot m p)
theorem jpd {M:List (List CD)}{k r:Nat}(h:Rect M k r){top bot:Nat}{m:Int}{p:PD}(hb:bot<r){y:Nat}(hy:y<r):(scrG M top bot m p y).length=k:=by
 unfold scrG
 have h0:=(h.at_ hy).1
 by_cases h1:top≤y∧y≤bot
 ·rw[if_pos h1]
  by_cases h2:(top:Int)≤(y:Int)+m∧(y:Int)+m≤bot
  ·rw[if_pos h2]
   exact (h.at_ (show ((y:Int)+m).toNat<r by omega)).1
  ·rw[if_neg h2,List.length_replicate,h0]
 ·rw[if_neg h1,h0]
def jc7 (L:List CD) (k r top bot:Nat) (m:Int) (p:PD) (y:Nat):List CD:=((qaf y).map (scrG (jak L k r) top bot m p)).flatten++L.drop (y*k)
variable {L:List CD}{k r top bot:Nat}{m:Int}{p:PD}
theorem jdq (hL:L.length=k*r) (hb:bot<r):∀{y:Nat},y≤r→((qaf y).map (scrG (jak L k r) top bot m p)).flatten.length=y*k
 | 0,_=>by simp
 | y+1,h=>by
  rw[jaD,qag,qaa,jdq hL hb (by omega)]
  simp only[qan,qay,qat]
  rw[jpd (jaZ hL) hb (by omega),qaq]
theorem jmu (hL:L.length=k*r) (hb:bot<r){y:Nat}(hy:y≤r):(jc7 L k r top bot m p y).length=L.length:=by
 unfold jc7
 rw[qaa,jdq hL hb hy,qaz,hL,qak k r]
 have:=qbe k hy
 omega
theorem jn0 (ht:top≤r):jc7 L k r top bot m p top=L:=by
 unfold jc7
 have e:(qaf top).map (scrG (jak L k r) top bot m p)=(qaf top).map (jas L k):=by
  refine qal fun y hy=>?_
  have hy:=List.mem_range.1 hy
  unfold scrG
  rw[if_neg (by omega),jcE (by omega)]
 rw[e,jja,qbd]
theorem jqs {y:Nat}(hy:y<r) (h:¬(top≤y∧y≤bot)) (hL:L.length=k*r):jc7 L k r top bot m p (y+1)=jc7 L k r top bot m p y:=by
 unfold jc7
 rw[jaD,qag,qap]
 congr 1
 unfold scrG
 rw[if_neg h,jcE hy]
 simp only[qan,qay,qat]
 unfold jas
 rw[qaq,←qaw,qbd]
theorem jmv (hL:L.length=k*r) (hb:bot<r) (ht:top≤bot):jc7 L k r top bot m p (bot+1)=(jb6 (jak L k r) top bot m p).flatten:=by
 have key:∀d,bot+1+d≤r→jc7 L k r top bot m p (bot+1+d)=jc7 L k r top bot m p (bot+1):=fun d=>by
  induction d with
  | zero=>exact fun _=>rfl
  | succ d ih =>
   intro h
   rw[show bot+1+(d+1)=(bot+1+d)+1 by omega,jqs (by omega) (by omega) hL,ih (by omega)]
 rw[←key (r-(bot+1)) (by omega),show bot+1+(r-(bot+1))=r by omega]
 unfold jc7 jb6
 rw[qam (by rw[hL,qak];exact qae _),qat,jba]
theorem jku (hL:L.length=k*r) (hb:bot<r){y:Nat}(hy:y<r) (ys:List CD) (h:ys=scrG (jak L k r) top bot m p y) :
  (jc7 L k r top bot m p y).take (y*k)++ys++(jc7 L k r top bot m p y).drop (y*k+ys.length)=jc7 L k r top bot m p (y+1):=by
 have hl:=jdq (top:=top) (m:=m) (p:=p) hL hb (Nat.le_of_lt hy)
 have hys:ys.length=k:=by rw[h];exact jpd (jaZ hL) hb hy
 unfold jc7
 rw[←hl,List.take_left,jaD,qag,←h,hl,hys]
 simp only[qan,qay,qat]
 congr 1
 rw[←hl,←qaw,qbh,qaw,hl,qaq]
theorem jn1 {L:List CD}{k r:Nat}(hr:1≤r) (m:Int):jb6 (jak L k r) 0 (r-1) m pen0=jaM (jak L k r) m:=by
 unfold jb6 jaM
 refine qal fun y hy=>?_
 have hy:=List.mem_range.1 hy
 rw[jba]at hy
 unfold scrG jg5
 rw[if_pos (by omega),jba]
 by_cases h:0≤(y:Int)+m∧(y:Int)+m<r
 ·rw[if_pos (by omega),if_pos h]
 ·rw[if_neg (by omega),if_neg h]
  rfl
theorem jqt {M:List (List CD)}{top bot:Nat}{m c:Int}{p:PD}{y:Nat}(ht:top≤bot) (hc:c=max (-((bot:Int)-top+1)) (min m ((bot:Int)-top+1))):scrG M top bot c p y=scrG M top bot m p y:=by
 unfold scrG
 by_cases h:top≤y∧y≤bot
 ·rw[if_pos h,if_pos h]
  by_cases h2:(top:Int)≤(y:Int)+m∧(y:Int)+m≤bot
  ·rw[if_pos (by omega),if_pos h2,show c=m by omega]
  ·rw[if_neg (by omega),if_neg h2]
 ·rw[if_neg h,if_neg h]
theorem jlx {M:List (List CD)}{top bot:Nat}{m c:Int}{p:PD}(ht:top≤bot) (hc:c=max (-((bot:Int)-top+1)) (min m ((bot:Int)-top+1))):jb6 M top bot c p=jb6 M top bot m p:=by
 unfold jb6
 exact qal fun y _=>jqt ht hc
def jly (S:List CD) (y k:Nat) (b:CD) (x:Nat):List CD:=S.take (y*k)++qai x b++S.drop (y*k+x)
theorem jqu (S:List CD) (y k:Nat) (b:CD):jly S y k b 0=S:=by simp[jly]
theorem jsi {S:List CD}{y k x:Nat}{b:CD}(h:y*k+x≤S.length):(jly S y k b x).length=S.length:=by
 simp[jly]
 omega
theorem jsj {S:List CD}{y k x:Nat}{b:CD}(h:y*k+x<S.length):(jly S y k b x).set (y*k+x) b=jly S y k b (x+1):=by
 have hl:(S.take (y*k)++qai x b).length=y*k+x:=by simp;omega
 unfold jly
 rw[qar _ _ (by rw[hl];exact qae _),hl,qbj,qbf,←qap,qap (S.take (y*k)++qai x b)]
 congr 1
 rw[qac h]
 rfl
end
def jjb (A B:List (List CD)) (y:Nat):Nat→Option Nat
 | 0=>none
 | z+1=>(jjb A B y z).or (if mAt A z=mAt B y then some z else none)
def jaR (A B:List (List CD)) (y:Nat):List CD:=if (jjb A B y A.length).isSome then mAt B y else mAt A y
def jae (A B:List (List CD)):Nat→List Nat×Nat
 | 0=>([],0)
 | y+1=>if mAt A y=mAt B y then jae A B y else match jjb A B y A.length with
  | none=>jae A B y
  | some z=>((jae A B y).1++[y-(jae A B y).2,z],y+1)
theorem jcN {A B:List (List CD)}{y:Nat}:∀{n:Nat},(∀z,z<n→mAt A z≠mAt B y)→jjb A B y n=none
 | 0,h=>rfl
 | n+1,h=>by
  rw[jjb,jcN (fun z hz=>h z (by omega)),if_neg (h n (by omega))]
  rfl
theorem je9 {A B:List (List CD)}{y z:Nat}(h0:∀x,x<z→mAt A x≠mAt B y) (h1:mAt A z=mAt B y):∀{n:Nat},z<n→jjb A B y n=some z
 | 0,h=>by omega
 | n+1,h=>by
  rw[jjb]
  rcases (show z<n∨z=n by omega)with h2|rfl
  ·rw[je9 h0 h1 h2]
   rfl
  ·rw[jcN h0,if_pos h1]
   rfl
theorem jck (A B:List (List CD)):∀y,(jae A B y).2≤y∧(jae A B y).1.length≤2*y∧∀x∈(jae A B y).1,x≤y+A.length
 | 0=>⟨qae _,qae _,fun x h=>by cases h⟩
 | y+1=>by
  have ih:=jck A B y
  have hz:∀n z,jjb A B y n=some z→z<n:=by
   intro n
   induction n with
   | zero=>intro z h;cases h
   | succ n ih =>
    intro z h
    rw[jjb]at h
    cases hf:jjb A B y n with
    | none =>
     rw[hf]at h
     simp only[Option.none_or]at h
     split at h
     ·injection h with h;omega
     ·cases h
    | some q =>
     rw[hf]at h
     simp only[Option.some_or]at h
     injection h with h
     have:=ih q hf
     omega
  rw[jae]
  split
  ·exact⟨by omega,by omega,fun x hx=>by have:=ih.2.2 x hx;omega⟩
  ·split
   ·exact⟨by omega,by omega,fun x hx=>by have:=ih.2.2 x hx;omega⟩
   ·rename_i z hzz
    have hzl:=hz _ _ hzz
    refine⟨qae _,by simp;omega,fun x hx=>?_⟩
    simp only[List.mem_append,List.mem_cons,List.not_mem_nil,or_false]at hx
    rcases hx with hx|hx|hx
    ·have:=ih.2.2 x hx;omega
    ·omega
    ·omega
theorem jfN (A B:List (List CD)):∀y,(jae A B y).1.length % 2=0
 | 0=>rfl
 | y+1=>by
  have ih:=jfN A B y
  rw[jae]
  split
  ·exact ih
  ·split
   ·exact ih
   ·simp;omega
def jcw (A B:List (List CD)) (y:Nat):List CD:=((qaf y).map (jaR A B)).flatten++(A.drop y).flatten
def jgs (l:List Nat):List Int:=if l=[] then [] else (7:Int)::(varN (l.length / 2)++jaq l)
theorem jjc {A B:List (List CD)}{y:Nat}(hy:y<A.length) (h:jaR A B y=mAt A y):jcw A B (y+1)=jcw A B y:=by
 unfold jcw
 rw[jaD,qag,h]
 have hd:A.drop y=mAt A y::A.drop (y+1):=by rw[qac hy,ji5 (List.getElem?_eq_getElem hy)]
 rw[hd,qan]
 simp
theorem jkv {A B:List (List CD)}{k r y:Nat}(hA:Rect A k r) (hB:Rect B k r) (hy:y<r):(jaR A B y).length=k:=by
 unfold jaR
 split
 ·exact (hB.at_ hy).1
 ·exact (hA.at_ hy).1
theorem jdl {A B:List (List CD)}{k r:Nat}(hA:Rect A k r) (hB:Rect B k r):∀y,y≤r→(((qaf y).map (jaR A B)).flatten).length=y*k
 | 0,h=>by simp
 | y+1,h=>by
  rw[jaD,qag,qaa,jdl hA hB y (by omega),qaq]
  simp[jkv hA hB (show y<r by omega)]
theorem jqv {A B:List (List CD)}{k r y:Nat}(hA:Rect A k r) (hB:Rect B k r) (hy:y≤r):(jcw A B y).length=r*k:=by
 unfold jcw
 rw[qaa,jdl hA hB y hy,jeG (A.drop y) (fun l hl=>hA.row l (qbg hl)),qaz,hA.len,←Nat.add_mul]
 congr 1
 omega
theorem jn2 {A B:List (List CD)}{k r y:Nat}(hA:Rect A k r) (hB:Rect B k r) (hy:y<r) (h:jaR A B y=mAt B y) :
  (jcw A B y).take (y*k)++mAt B y++(jcw A B y).drop (y*k+(mAt B y).length)=jcw A B (y+1):=by
 have h1:=jdl hA hB y (by omega)
 have hd:A.drop y=mAt A y::A.drop (y+1):=by rw[qac (by rw[hA.len];exact hy),ji5 (List.getElem?_eq_getElem (by rw[hA.len];exact hy))]
 have hl:=(hA.at_ hy).1
 have hb:=(hB.at_ hy).1
 unfold jcw
 rw[List.take_append_of_le_length (by rw[h1];exact qae _),qbc (by rw[h1];exact qae _),jaD,qag,h,hd,qan,hb,←h1,←qaw,qbh,←hl,qbh]
 simp
theorem jjd {A B:List (List CD)}{y:Nat}(hy:y<A.length) (h:mAt A y=mAt B y):jaR A B y=mAt A y:=by
 unfold jaR
 split
 ·exact h.symm
 ·rfl
theorem jje {A B:List (List CD)}{y:Nat}(h:∀z,z<A.length→mAt A z≠mAt B y):jaR A B y=mAt A y:=by
 unfold jaR
 rw[jcN h]
 rfl
theorem jjf {A B:List (List CD)}{y z:Nat}(h0:∀x,x<z→mAt A x≠mAt B y) (h1:mAt A z=mAt B y) (hz:z<A.length):jaR A B y=mAt B y:=by
 unfold jaR
 rw[je9 h0 h1 hz]
 rfl
def jaa (W:List CD) (i:Nat):Nat:=if (cAt W i).wide=1 then 2 else 1
theorem jat (W:List CD) (i:Nat):1≤jaa W i∧jaa W i≤2:=by unfold jaa;split<;>omega
def jav (C W:List CD) (i:Nat):Bool:=!decide ((C.drop i).take (jaa W i)=(W.drop i).take (jaa W i))
def remF (oth:Nat→Bool) (wd:Nat→Nat) (N:Nat):Nat→Nat→List Nat
 | 0,_=>[]
 | f+1,i=>if i<N then (if oth i then [i] else [])++remF oth wd N f (i+wd i) else []
def rem (oth:Nat→Bool) (wd:Nat→Nat) (N i:Nat):List Nat:=remF oth wd N (N-i) i
theorem jjg {oth:Nat→Bool}{wd:Nat→Nat}{N:Nat}(hw:∀i,1≤wd i):∀(f g i:Nat),N-i≤f→N-i≤g→remF oth wd N f i=remF oth wd N g i
 | 0,0,i,_,_=>rfl
 | 0,g+1,i,h,_=>by rw[remF,remF,if_neg (by omega)]
 | f+1,0,i,_,h=>by rw[remF,remF,if_neg (by omega)]
 | f+1,g+1,i,h1,h2=>by
  rw[remF,remF]
  split
  ·have:=hw i
   rw[jjg hw f g (i+wd i) (by omega) (by omega)]
  ·rfl
theorem jd6 {oth:Nat→Bool}{wd:Nat→Nat}{N i:Nat}(hw:∀i,1≤wd i) (hi:i<N):rem oth wd N i=(if oth i then [i] else [])++rem oth wd N (i+wd i):=by
 obtain⟨f,hf⟩:∃f,N-i=f+1:=⟨N-i-1,by omega⟩
 have:=hw i
 unfold rem
 rw[hf,remF,if_pos hi,jjg hw f (N-(i+wd i)) (i+wd i) (by omega) (qae _)]
theorem jn3 {oth:Nat→Bool}{wd:Nat→Nat}{N i:Nat}(hi:N≤i):rem oth wd N i=[]:=by
 unfold rem
 rw[show N-i=0 by omega]
 rfl
theorem jlz {oth:Nat→Bool}{wd:Nat→Nat}{N:Nat}(hw:∀i,1≤wd i):∀(f i:Nat),∀x∈remF oth wd N f i,i≤x∧x<N∧oth x=true
 | 0,i,x,h=>by cases h
 | f+1,i,x,h=>by
  rw[remF]at h
  split at h
  ·rename_i hi
   rcases List.mem_append.1 h with h|h
   ·split at h
    ·rw[List.mem_singleton]at h
     subst h
     rename_i ho
     exact⟨qae _,hi,ho⟩
    ·cases h
   ·have h1:=jlz hw f _ x h
    have h2:=hw i
    exact⟨by omega,h1.2.1,h1.2.2⟩
  ·cases h
theorem jeI {oth:Nat→Bool}{wd:Nat→Nat}{N i x:Nat}(hw:∀i,1≤wd i) (h:x∈rem oth wd N i):i≤x∧x<N∧oth x=true:=jlz hw _ _ x h
theorem jpe {oth:Nat→Bool}{wd:Nat→Nat}{N:Nat}:∀(f i:Nat),(remF oth wd N f i).length≤f
 | 0,i=>qae _
 | f+1,i=>by
  rw[remF]
  split
  ·rw[qaa]
   have:=jpe (oth:=oth) (wd:=wd) (N:=N) f (i+wd i)
   split<;>simp<;>omega
  ·simp
theorem jbD {oth:Nat→Bool}{wd:Nat→Nat}{N i:Nat}:(rem oth wd N i).length≤N:=qbn (jpe _ _) (by omega)
def runP (W:List CD) (p:PD):Nat→List Nat→List Nat×Nat×List Nat
 | e,[]=>([],e,[])
 | e,x::l=>if x=e∧(cAt W x).pen=p then ((x::(runP W p (e+jaa W x) l).1),(runP W p (e+jaa W x) l).2) else ([],e,x::l)
theorem jcF (W:List CD) (p:PD):∀(l:List Nat) (e:Nat),(runP W p e l).1.length+(runP W p e l).2.2.length=l.length
 | [],e=>rfl
 | x::l,e=>by
  rw[runP]
  split
  ·have:=jcF W p l (e+jaa W x)
   simp only[qab]
   omega
  ·simp
theorem jie (W:List CD) (p:PD):∀(l:List Nat) (e:Nat),(runP W p e l).1++(runP W p e l).2.2=l
 | [],e=>rfl
 | x::l,e=>by
  rw[runP]
  split
  ·have:=jie W p l (e+jaa W x)
   simp only[List.cons_append,this]
  ·simp
theorem jcl (W:List CD) (x:Nat) (l:List Nat):(runP W (cAt W x).pen x (x::l)).1=x::(runP W (cAt W x).pen (x+jaa W x) l).1∧(runP W (cAt W x).pen x (x::l)).2=(runP W (cAt W x).pen (x+jaa W x) l).2:=by
 rw[runP,if_pos ⟨rfl,rfl⟩]
 exact⟨rfl,rfl⟩
def jbu (W:List CD) (l:List Nat):List Int:=l.flatMap fun x=>varN (cAt W x).rune.toNat
def penN (p:PD):List Nat:=[p.fg.toNat,p.bg.toNat,p.attrs.toNat,p.link.toNat]
def layR (W:List CD):Nat→Nat→List Nat→List Int×Nat
 | 0,_,_=>([],0)
 | f+1,bh,[]=>([],0)
 | f+1,bh,x::l=>(jaq ([x-bh,(runP W (cAt W x).pen x (x::l)).1.length]++penN (cAt W x).pen)++(jbu W (runP W (cAt W x).pen x (x::l)).1++(layR W f (runP W (cAt W x).pen x (x::l)).2.1 (runP W (cAt W x).pen x (x::l)).2.2).1),(layR W f (runP W (cAt W x).pen x (x::l)).2.1 (runP W (cAt W x).pen x (x::l)).2.2).2+1)
theorem jfa (W:List CD) (f bh:Nat):layR W f bh []=([],0):=by cases f<;>rfl
theorem jd7 (W:List CD):∀(f g bh:Nat) (l:List Nat),l.length≤f→l.length≤g→layR W f bh l=layR W g bh l
 | _,_,bh,[],_,_=>by rw[jfa,jfa]
 | 0,_,bh,x::l,h,_=>by simp at h
 | f+1,0,bh,x::l,_,h=>by simp at h
 | f+1,g+1,bh,x::l,h1,h2=>by
  have hh:=(jcl W x l).1
  have hl:=jcF W (cAt W x).pen (x::l) x
  rw[hh]at hl
  simp only[qab]at hl h1 h2
  rw[layR,layR,jd7 W f g _ (runP W (cAt W x).pen x (x::l)).2.2 (by omega) (by omega)]
theorem jsk {n:Nat}(h:n<34359738368):(varN n).length≤5:=je7 n 4 (by omega)
theorem jdJ {W:List CD}(hW:∀q∈W,CWf q):∀l:List Nat,(jbu W l).length≤5*l.length
 | []=>by simp[jbu]
 | x::l=>by
  have ih:=jdJ hW l
  have h1:(varN (cAt W x).rune.toNat).length≤5:=jsk (by
   rcases qas x W.length with h|h
   ·have:=(hW (cAt W x) (by rw[jcV (List.getElem?_eq_getElem h)];exact qbk h)).rune
    omega
   ·have:cAt W x=default:=by unfold cAt;rw[List.getD_eq_getElem?_getD,List.getElem?_eq_none h];rfl
    rw[this]
    decide)
  simp only[jbu,qbi,qaa,qab]at ih ⊢
  omega
theorem jvK {W:List CD}(hW:∀q∈W,CWf q) (x:Nat):CWf (cAt W x):=by
 rcases qas x W.length with h|h
 ·exact hW (cAt W x) (by rw[jcV (List.getElem?_eq_getElem h)];exact qbk h)
 ·have:cAt W x=default:=by unfold cAt;rw[List.getD_eq_getElem?_getD,List.getElem?_eq_none h];rfl
  rw[this]
  exact⟨by decide,by decide,by decide,by decide,by decide,by decide⟩
theorem jjh {W:List CD}(hW:∀q∈W,CWf q){x bh n:Nat}(h1:x≤100000) (h2:n≤100000):∀y∈[x-bh,n]++penN (cAt W x).pen,y<9223372036854775808:=by
 have hw:=jvK hW x
 have:=hw.fg
 have:=hw.bg
 have:=hw.attrs
 have:=hw.link
 intro y hy
 simp[penN,CD.pen]at hy
 omega
theorem jgt {W:List CD}(hW:∀q∈W,CWf q):∀(f bh:Nat) (l:List Nat),l.length≤100000→(∀x∈l,x≤100000)→(layR W f bh l).1.length≤65*l.length∧(layR W f bh l).2≤l.length
 | _,_,[],_,_=>by simp[jfa]
 | 0,_,x::l,_,_=>by simp[layR]
 | f+1,bh,x::l,hl,hx=>by
  have hh:=(jcl W x l).1
  have ha:=jie W (cAt W x).pen (x::l) x
  have hc:=jcF W (cAt W x).pen (x::l) x
  have ih:=jgt hW f (runP W (cAt W x).pen x (x::l)).2.1 (runP W (cAt W x).pen x (x::l)).2.2 (by omega) (fun y hy=>hx y (by rw[←ha];exact List.mem_append.2 (.inr hy)))
  have h1:=jdJ hW (runP W (cAt W x).pen x (x::l)).1
  have h3:1≤(runP W (cAt W x).pen x (x::l)).1.length:=by rw[hh];simp
  have h2:=jaI ([x-bh,(runP W (cAt W x).pen x (x::l)).1.length]++penN (cAt W x).pen) (jjh hW (hx x (by simp)) (by omega))
  have h4:([x-bh,(runP W (cAt W x).pen x (x::l)).1.length]++penN (cAt W x).pen).length=6:=by simp[penN]
  rw[h4]at h2
  rw[layR]
  simp only[qaa]at h2 ⊢
  omega
def jbd (C W:List CD):List Int :=
 let l:=rem (jav C W) (jaa W) W.length 0
 let q:=layR W l.length 0 l
 if q.2=0 then [] else (8:Int)::(varN q.2++q.1)
theorem jmw {W:List CD}{p:PD}{e:Nat}:∀{l:List Nat},(∀x,l.head?=some x→x=e→(cAt W x).pen≠p)→runP W p e l=([],e,l)
 | [],h=>rfl
 | x::l,h=>by
  rw[runP,if_neg]
  rintro⟨h1,h2⟩
  exact h x rfl h1 h2
theorem jn4 {W:List CD}{p:PD}{e:Nat}{l:List Nat}(h:(cAt W e).pen=p):runP W p e (e::l)=(e::(runP W p (e+jaa W e) l).1,(runP W p (e+jaa W e) l).2):=by
 rw[runP,if_pos ⟨rfl,h⟩]
structure Inn (W:List CD) (p:PD) (oth:Nat→Bool) (i j kk:Nat) (rb:List Int):Prop where
 le:i≤j∧j≤W.length
 bytes:rb++jbu W (runP W p j (rem oth (jaa W) W.length j)).1=jbu W (runP W p i (rem oth (jaa W) W.length i)).1
 num:kk+(runP W p j (rem oth (jaa W) W.length j)).1.length=(runP W p i (rem oth (jaa W) W.length i)).1.length
 rest:(runP W p j (rem oth (jaa W) W.length j)).2=(runP W p i (rem oth (jaa W) W.length i)).2
theorem Inn.start {W:List CD}{p:PD}{oth:Nat→Bool}{i:Nat}(h:i≤W.length):Inn W p oth i i 0 []:=⟨⟨qae _,h⟩,rfl,by simp,rfl⟩
theorem Inn.go {W:List CD}{p:PD}{oth:Nat→Bool}{i j kk:Nat}{rb:List Int}(h:Inn W p oth i j kk rb) (hj:j<W.length) (ho:oth j=true) (hp:(cAt W j).pen=p) (hv:j+jaa W j≤W.length) :
  Inn W p oth i (j+jaa W j) (kk+1) (rb++varN (cAt W j).rune.toNat):=by
 have hr:=jd6 (oth:=oth) (fun i=>(jat W i).1) hj
 rw[if_pos ho]at hr
 have hg:=jn4 (l:=rem oth (jaa W) W.length (j+jaa W j)) hp
 rw[show [j]++rem oth (jaa W) W.length (j+jaa W j)=j::rem oth (jaa W) W.length (j+jaa W j)from rfl]at hr
 refine⟨⟨by have:=h.le;omega,hv⟩,?_,?_,?_⟩
 ·have:=h.bytes
  rw[hr,hg]at this
  rw[←this]
  simp[jbu]
 ·have:=h.num
  rw[hr,hg]at this
  simp only[qab]at this
  omega
 ·have:=h.rest
  rw[hr,hg]at this
  exact this
theorem Inn.done {W:List CD}{p:PD}{oth:Nat→Bool}{i j kk:Nat}{rb:List Int}(h:Inn W p oth i j kk rb) (hs:¬(j<W.length∧oth j=true∧(cAt W j).pen=p)) :
  rb=jbu W (runP W p i (rem oth (jaa W) W.length i)).1∧kk=(runP W p i (rem oth (jaa W) W.length i)).1.length∧(runP W p i (rem oth (jaa W) W.length i)).2=(j,rem oth (jaa W) W.length j):=by
 have hst:runP W p j (rem oth (jaa W) W.length j)=([],j,rem oth (jaa W) W.length j):=jmw (fun x hx he hp=>by
  have hm:=jeI (fun i=>(jat W i).1) (List.mem_of_mem_head? hx)
  subst he
  exact hs ⟨hm.2.1,hm.2.2,hp⟩)
 have h1:=h.bytes
 have h2:=h.num
 have h3:=h.rest
 rw[hst]at h1 h2 h3
 refine⟨by simpa[jbu] using h1,by simpa using h2,h3.symm⟩
theorem jsl (W:List CD) (p:PD):∀(l:List Nat) (e:Nat),e≤(runP W p e l).2.1
 | [],e=>qae _
 | x::l,e=>by
  rw[runP]
  split
  ·have:=jsl W p l (e+jaa W x)
   exact qbn (by omega) this
  ·exact qae _
theorem Inn.far {W:List CD}{oth:Nat→Bool}{i j kk:Nat}{rb:List Int}(h:Inn W (cAt W i).pen oth i j kk rb) (hi:i<W.length) (ho:oth i=true) (hs:¬(j<W.length∧oth j=true∧(cAt W j).pen=(cAt W i).pen)):i<j:=by
 obtain⟨e1,e2,e3⟩:=h.done hs
 have hr:=jd6 (oth:=oth) (fun i=>(jat W i).1) hi
 rw[if_pos ho]at hr
 obtain⟨l,hl⟩:∃l,rem oth (jaa W) W.length i=i::l:=⟨_,hr⟩
 rw[hl,(jcl W i l).2]at e3
 have h1:=jsl W (cAt W i).pen l (i+jaa W i)
 rw[e3]at h1
 have h2:=(jat W i).1
 simp only at h1
 omega
structure Outn (W:List CD) (oth:Nat→Bool) (i bh nn:Nat) (bs:List Int):Prop where
 le:bh≤i∧i≤W.length
 bytes:bs++(layR W W.length bh (rem oth (jaa W) W.length i)).1=(layR W W.length 0 (rem oth (jaa W) W.length 0)).1
 num:nn+(layR W W.length bh (rem oth (jaa W) W.length i)).2=(layR W W.length 0 (rem oth (jaa W) W.length 0)).2
theorem Outn.skip {W:List CD}{oth:Nat→Bool}{i bh nn:Nat}{bs:List Int}(h:Outn W oth i bh nn bs) (hi:i<W.length) (ho:oth i=false) (hv:i+jaa W i≤W.length):Outn W oth (i+jaa W i) bh nn bs:=by
 have hr:=jd6 (oth:=oth) (fun i=>(jat W i).1) hi
 rw[ho]at hr
 simp only[Bool.false_eq_true,if_false,List.nil_append]at hr
 have h1:=h.bytes
 have h2:=h.num
 rw[hr]at h1 h2
 exact⟨⟨by have:=h.le;omega,hv⟩,h1,h2⟩
theorem Outn.go {W:List CD}{oth:Nat→Bool}{i bh nn j kk:Nat}{bs rb:List Int}(h:Outn W oth i bh nn bs) (hi:i<W.length) (ho:oth i=true) (hin:Inn W (cAt W i).pen oth i j kk rb) (hs:¬(j<W.length∧oth j=true∧(cAt W j).pen=(cAt W i).pen)) :
  Outn W oth j j (nn+1) (bs++jaq ([i-bh,kk]++penN (cAt W i).pen)++rb):=by
 obtain⟨e1,e2,e3⟩:=hin.done hs
 have hr:=jd6 (oth:=oth) (fun i=>(jat W i).1) hi
 rw[if_pos ho]at hr
 obtain⟨l,hl⟩:∃l,rem oth (jaa W) W.length i=i::l:=⟨_,hr⟩
 have hc:=jcF W (cAt W i).pen (i::l) i
 have hh:=(jcl W i l).1
 have hlen:(i::l).length≤W.length:=by rw[←hl];exact jbD
 rw[hl]at e1 e2 e3
 have hlay:layR W W.length bh (i::l)=(jaq ([i-bh,kk]++penN (cAt W i).pen)++(rb++(layR W W.length j (rem oth (jaa W) W.length j)).1),(layR W W.length j (rem oth (jaa W) W.length j)).2+1):=by
  obtain⟨f,hf⟩:∃f,W.length=f+1:=⟨W.length-1,by omega⟩
  have e5:layR W W.length j (rem oth (jaa W) W.length j)=layR W f j (rem oth (jaa W) W.length j):=by
   have hrl:(rem oth (jaa W) W.length j).length≤f:=by
    rw[hh,e3]at hc
    simp only[qab]at hc hlen
    omega
   exact jd7 W _ _ _ _ (by omega) hrl
  rw[e5]
  conv=>lhs;rw[hf]
  rw[layR,←e1,←e2,e3]
 have h1:=h.bytes
 have h2:=h.num
 rw[hl,hlay]at h1 h2
 refine⟨⟨qae _,hin.le.2⟩,?_,?_⟩
 ·rw[←h1]
  simp
 ·simp only at h2
  omega
theorem Outn.done {W:List CD}{oth:Nat→Bool}{i bh nn:Nat}{bs:List Int}(h:Outn W oth i bh nn bs) (hi:W.length≤i):bs=(layR W W.length 0 (rem oth (jaa W) W.length 0)).1∧nn=(layR W W.length 0 (rem oth (jaa W) W.length 0)).2:=by
 have h1:=h.bytes
 have h2:=h.num
 rw[jn3 hi,jfa]at h1 h2
 simp at h1 h2
 exact⟨h1,h2⟩
theorem Outn.small {W:List CD}(hW:∀q∈W,CWf q){oth:Nat→Bool}{i bh nn:Nat}{bs:List Int}(h:Outn W oth i bh nn bs) (hl:W.length≤2000):bs.length≤130000∧nn≤2000:=by
 have hr:(rem oth (jaa W) W.length 0).length≤W.length:=jbD
 have h1:=jgt hW W.length 0 (rem oth (jaa W) W.length 0) (by omega) (fun x hx=>by have:=jeI (fun i=>(jat W i).1) hx;omega)
 have h2:=congrArg qbl h.bytes
 have h3:=h.num
 rw[qaa]at h2
 omega
theorem Inn.small {W:List CD}(hW:∀q∈W,CWf q){p:PD}{oth:Nat→Bool}{i j kk:Nat}{rb:List Int}(h:Inn W p oth i j kk rb) (hl:W.length≤2000):rb.length≤10000∧kk≤2000:=by
 have hr:(rem oth (jaa W) W.length i).length≤W.length:=jbD
 have hc:=jcF W p (rem oth (jaa W) W.length i) i
 have h1:=jdJ hW (runP W p i (rem oth (jaa W) W.length i)).1
 have h2:=congrArg qbl h.bytes
 have h3:=h.num
 rw[qaa]at h2
 omega
theorem jn5 (C W:List CD):jbd C W=if (layR W W.length 0 (rem (jav C W) (jaa W) W.length 0)).2=0 then [] else (8:Int)::(varN (layR W W.length 0 (rem (jav C W) (jaa W) W.length 0)).2++(layR W W.length 0 (rem (jav C W) (jaa W) W.length 0)).1):=by
 unfold jbd
 simp only
 rw[jd7 W _ W.length 0 _ (qae _) jbD]
structure Whole (W:List CD):Prop where
 left:∀i,i<W.length→(cAt W i).wide=1→i+1<W.length∧(cAt W (i+1)).wide=2
 right:∀i,i<W.length→(cAt W i).wide=2→0<i∧(cAt W (i-1)).wide=1
theorem Whole.fits {W:List CD}(h:Whole W){i:Nat}(hi:i<W.length):i+jaa W i≤W.length:=by
 unfold jaa
 split
 ·rename_i h1
  have:=(h.left i hi h1).1
  omega
 ·omega
def colP (oth:Nat→Bool) (W:List CD) (i:Nat):Bool:=decide ((cAt W i).wide≠2)&&oth i
def col (oth:Nat→Bool) (W:List CD) (t:Nat):List Nat:=(qaf t).filter (colP oth W)
theorem juI (oth:Nat→Bool) (W:List CD) (t:Nat):col oth W (t+1)=col oth W t++if colP oth W t then [t] else []:=by
 unfold col
 rw[List.range_succ,List.filter_append]
 congr 1
 cases h:colP oth W t<;>simp[h]
theorem jwW (oth:Nat→Bool) (W:List CD) (t:Nat):(col oth W t).length≤t:=by
 unfold col
 have:=List.length_filter_le (colP oth W) (qaf t)
 rwa [qax]at this
theorem jsm {oth:Nat→Bool}{W:List CD}{t x:Nat}(h:x∈col oth W t):x<t:=List.mem_range.1 (List.mem_filter.1 h).1
theorem jwX {oth:Nat→Bool}{W:List CD}(hW:Whole W):∀(d i:Nat),i+d=W.length→(i<W.length→(cAt W i).wide≠2)→rem oth (jaa W) W.length i=(List.range' i d).filter (colP oth W):=by
 intro d
 induction d using Nat.strongRecOn with
 | ind d ih =>
  intro i hi hw
  by_cases h0:i<W.length
  ·rw[jd6 (fun i=>(jat W i).1) h0]
   have hw2:=hw h0
   have hcp:colP oth W i=oth i:=by unfold colP;rw[decide_eq_true hw2];rfl
   by_cases h1:(cAt W i).wide=1
   ·obtain⟨h3,h4⟩:=hW.left i h0 h1
    have hv:jaa W i=2:=by unfold jaa;rw[if_pos h1]
    obtain⟨e,rfl⟩:∃e,d=e+2:=⟨d-2,by omega⟩
    have:=ih e (by omega) (i+2) (by omega) (fun h5 h6=>by
     have:=(hW.right (i+2) h5 h6).2
     rw[show i+2-1=i+1 by omega,h4]at this
     exact absurd this (by decide))
    rw[hv,this,qba,qba,qbb,qbb]
    have hc1:colP oth W (i+1)=false:=by unfold colP;rw[h4];rfl
    rw[hcp,hc1]
    cases oth i<;>simp
   ·have hv:jaa W i=1:=by unfold jaa;rw[if_neg h1]
    obtain⟨e,rfl⟩:∃e,d=e+1:=⟨d-1,by omega⟩
    have:=ih e (by omega) (i+1) (by omega) (fun h5 h6=>by
     have:=(hW.right (i+1) h5 h6).2
     rw[qao]at this
     exact h1 this)
    rw[hv,this,qba,qbb,hcp]
    cases oth i<;>simp
  ·have:d=0:=by omega
   subst this
   rw[jn3 (by omega)]
   rfl
theorem jsn {oth:Nat→Bool}{W:List CD}(hW:Whole W):rem oth (jaa W) W.length 0=col oth W W.length:=by
 rw[jwX hW W.length 0 (by omega) (fun h h2=>absurd (hW.right 0 h h2).1 (by omega))]
 unfold col
 rw[List.range_eq_range']
structure InnR (W:List CD) (p:PD) (l:List Nat) (i x k e:Nat):Prop where
 le:i<k∧k≤l.length
 endd:e=l.getD (k-1) 0+jaa W (l.getD (k-1) 0)
 run:runP W p x (l.drop i)=((l.drop i).take (k-i)++(runP W p e (l.drop k)).1,(runP W p e (l.drop k)).2)
theorem jcd {l:List Nat}{i:Nat}(hi:i<l.length):l.drop i=l.getD i 0::l.drop (i+1):=by
 rw[qac hi,List.getD_eq_getElem?_getD,List.getElem?_eq_getElem hi]
 rfl
theorem InnR.start {W:List CD}{l:List Nat}{i x:Nat}(hi:i<l.length) (hx:x=l.getD i 0):InnR W (cAt W x).pen l i x (i+1) (x+jaa W x):=by
 refine⟨⟨by omega,hi⟩,by rw[qao,←hx],?_⟩
 rw[jcd hi,←hx,jn4 rfl,show i+1-i=1 by omega]
 rfl
theorem InnR.go {W:List CD}{p:PD}{l:List Nat}{i x k e:Nat}(h:InnR W p l i x k e) (hk:k<l.length) (he:l.getD k 0=e) (hp:(cAt W (l.getD k 0)).pen=p):InnR W p l i x (k+1) (e+jaa W e):=by
 refine⟨⟨by have:=h.le;omega,hk⟩,by rw[qao,he],?_⟩
 rw[h.run,jcd hk,he,jn4 (by rw[←he];exact hp)]
 have hle:=h.le
 have:(l.drop i).take (k+1-i)=(l.drop i).take (k-i)++[e]:=by
  rw[show k+1-i=(k-i)+1 by omega]
  refine jar ?_
  rw[List.getElem?_drop,show i+(k-i)=k by omega,List.getElem?_eq_getElem hk,←he,List.getD_eq_getElem?_getD,List.getElem?_eq_getElem hk]
  rfl
 rw[this]
 simp
theorem InnR.done {W:List CD}{p:PD}{l:List Nat}{i x k e:Nat}(h:InnR W p l i x k e) (hs:¬(k<l.length∧l.getD k 0=e∧(cAt W (l.getD k 0)).pen=p)):runP W p x (l.drop i)=((l.drop i).take (k-i),e,l.drop k):=by
 rw[h.run,jmw (fun y hy he hp=>by
  by_cases hk:k<l.length
  ·rw[jcd hk]at hy
   simp only[List.head?_cons,Option.some.injEq]at hy
   exact hs ⟨hk,by rw[hy];exact he,by rw[hy];exact hp⟩
  ·rw[qam (by omega)]at hy
   cases hy)]
 simp
structure OutR (W:List CD) (l:List Nat) (i bh nn:Nat) (bs:List Int):Prop where
 le:i≤l.length
 bytes:bs++(layR W l.length bh (l.drop i)).1=(layR W l.length 0 l).1
 num:nn+(layR W l.length bh (l.drop i)).2=(layR W l.length 0 l).2
theorem OutR.go {W:List CD}{l:List Nat}{i bh nn k e x:Nat}{bs:List Int}(h:OutR W l i bh nn bs) (hi:i<l.length) (hx:x=l.getD i 0) (hin:InnR W (cAt W x).pen l i x k e) (hs:¬(k<l.length∧l.getD k 0=e∧(cAt W (l.getD k 0)).pen=(cAt W x).pen)) :
  OutR W l k e (nn+1) (bs++jaq ([x-bh,k-i]++penN (cAt W x).pen)++jbu W ((l.drop i).take (k-i))):=by
 have hd:=hin.done hs
 have hle:=hin.le
 have hc:l.drop i=x::l.drop (i+1):=by rw[jcd hi,←hx]
 have hlay:layR W l.length bh (l.drop i)=(jaq ([x-bh,k-i]++penN (cAt W x).pen)++(jbu W ((l.drop i).take (k-i))++(layR W l.length e (l.drop k)).1),(layR W l.length e (l.drop k)).2+1):=by
  obtain⟨f,hf⟩:∃f,l.length=f+1:=⟨l.length-1,by omega⟩
  have e5:layR W l.length e (l.drop k)=layR W f e (l.drop k):=jd7 W _ _ _ _ (by simp) (by simp;omega)
  rw[e5]
  conv=>lhs;rw[hf,hc]
  rw[layR,←hc,hd]
  have:((l.drop i).take (k-i)).length=k-i:=by simp;omega
  simp only[this]
 have h1:=h.bytes
 have h2:=h.num
 rw[hlay]at h1 h2
 refine⟨hle.2,?_,?_⟩
 ·rw[←h1]
  simp
 ·simp only at h2
  omega
theorem OutR.small {W:List CD}(hW:∀q∈W,CWf q){l:List Nat}{i bh nn:Nat}{bs:List Int}(h:OutR W l i bh nn bs) (hl:l.length≤2000) (hx:∀x∈l,x≤2000):bs.length≤130000∧nn≤2000:=by
 have h1:=jgt hW l.length 0 l (by omega) (fun x hx'=>by have:=hx x hx';omega)
 have h2:=congrArg qbl h.bytes
 have h3:=h.num
 rw[qaa]at h2
 omega
theorem jgu {k:Nat}{M:List (List CD)}(h:∀l∈M,l.length=k){y x v:Nat}(hy:y<M.length) (hv:x+v≤k):(M.flatten.drop (y*k+x)).take v=((mAt M y).drop x).take v:=by
 refine List.ext_getElem? fun j=>?_
 rw[List.getElem?_take,List.getElem?_take]
 split
 ·rename_i hj
  rw[List.getElem?_drop,List.getElem?_drop,Nat.add_assoc,jd5 M h y (x+j) hy (by omega)]
 ·rfl
def comK:List ByteArray→List ByteArray→Nat
 | x::l,y::m=>if x=y then comK l m+1 else 0
 | _,_=>0
theorem jlA:∀l m:List ByteArray,comK l m≤l.length∧comK l m≤m.length
 | [],m=>by simp[comK]
 | x::l,[]=>by simp[comK]
 | x::l,y::m=>by
  have ih:=jlA l m
  rw[comK]
  split<;>simp<;>omega
theorem jso {l m:List ByteArray}{j:Nat}{s:ByteArray}(h1:l[j]?=some s) (h2:m[j]?=some s):comK (l.drop j) (m.drop j)=1+comK (l.drop (j+1)) (m.drop (j+1)):=by
 obtain⟨h3,h4⟩:=List.getElem?_eq_some_iff.1 h1
 obtain⟨h5,h6⟩:=List.getElem?_eq_some_iff.1 h2
 rw[qac h3,qac h5,h4,h6,comK,if_pos rfl,Nat.add_comm]
theorem jmx {l m:List ByteArray}{j:Nat}(h:∀s t,l[j]?=some s→m[j]?=some t→s≠t):comK (l.drop j) (m.drop j)=0:=by
 rcases qas j l.length with h1|h1
 ·rcases qas j m.length with h2|h2
  ·rw[qac h1,qac h2,comK,if_neg (h _ _ (List.getElem?_eq_getElem h1) (List.getElem?_eq_getElem h2))]
  ·rw[qam h2]
   cases l.drop j<;>rfl
 ·rw[qam h1]
  rfl
def curC (x1 y1:Nat) (hd1:Bool) (x2 y2:Nat) (hd2:Bool):Bool:=((x2:Int) != (x1:Int)) || (((y2:Int) != (y1:Int)) || (hd2 != hd1))
def curB (x1 y1:Nat) (hd1:Bool) (x2 y2:Nat) (hd2:Bool):List Int:=if curC x1 y1 hd1 x2 y2 hd2 then 2::jaq [x2,y2,if hd2 then 1 else 0] else []
def titB (t1 t2:ByteArray):List Int:=if jdp t2 t1 then [] else 3::jeE (jab t2)
def mouB (m1 m2:Nat):List Int:=if m2=m1 then [] else 4::jaq [m2]
def texB (l:List ByteArray):List Int:=l.flatMap fun u=>jeE (jab u)
def linB (l1 l2:List ByteArray):List Int:=if l2=l1 then [] else 5::jaq [comK l2 l1,l2.length-comK l2 l1]++texB (l2.drop (comK l2 l1))
def scrN (n:Int):Nat:=if 0<n then (2*n-1).toNat else (-2*n).toNat
def scrB (n:Int):List Int:=if n=0 then [] else 6::jaq [scrN n]
def undL (L1:List CD) (l1 l2:List ByteArray):List CD:=L1.map (ulf l1 l2)
def upN (k r:Nat) (U L2:List CD):Int:=(jbC (dist k r U L2) (r-1)).1
def movL (k r:Nat) (U:List CD) (n:Int):List CD:=(jaM (jak U k r) n).flatten
def cpyL (k r:Nat) (V L2:List CD):List CD:=((qaf r).map (jaR (jak V k r) (jak L2 k r))).flatten
def celB (k r:Nat) (U L2:List CD):List Int :=
 scrB (upN k r U L2)++jgs (jae (jak (movL k r U (upN k r U L2)) k r) (jak L2 k r) r).1++jbd (cpyL k r (movL k r U (upN k r U L2)) L2) L2
def jqw (x1 y1:Nat) (hd1:Bool) (m1:Nat) (t1:ByteArray) (l1:List ByteArray) (x2 y2:Nat) (hd2:Bool) (m2:Nat) (t2:ByteArray) (l2:List ByteArray):List Int :=
 curB x1 y1 hd1 x2 y2 hd2++titB t1 t2++mouB m1 m2++linB l1 l2
def jfm (k r:Nat) (L1:List CD) (x1 y1:Nat) (hd1:Bool) (m1:Nat) (t1:ByteArray) (l1:List ByteArray) (L2:List CD) (x2 y2:Nat) (hd2:Bool) (m2:Nat) (t2:ByteArray) (l2:List ByteArray):List Int :=
 jqw x1 y1 hd1 m1 t1 l1 x2 y2 hd2 m2 t2 l2++celB k r (undL L1 l1 l2) L2
theorem jlB (d:Int→Nat):∀j:Nat,-(j:Int)≤(jbC d j).1∧(jbC d j).1≤j
 | 0=>by simp[jbC]
 | j+1=>by
  have ih:=jlB d j
  have key:∀(st:Int×Nat) (k:Int),(jbl d st k).1=st.1∨(jbl d st k).1=k:=fun st k=>by
   unfold jbl
   split
   ·exact .inr rfl
   ·exact .inl rfl
  rw[jbC]
  rcases key (jbl d (jbC d j) ((j+1:Nat):Int)) (-((j+1:Nat):Int))with h|h
  ·rw[h]
   rcases key (jbC d j) ((j+1:Nat):Int)with h2|h2<;>rw[h2]<;>omega
  ·rw[h]
   omega
theorem jsp (k r:Nat) (hr:1≤r) (U L2:List CD):-(r:Int)<upN k r U L2∧upN k r U L2<r:=by
 have:=jlB (dist k r U L2) (r-1)
 unfold upN
 omega
theorem juJ (l1 l2:List ByteArray) (c:CD):∃v,ulf l1 l2 c=c.withLink v∨ulf l1 l2 c=c:=by
 unfold ulf
 split
 ·exact⟨_,.inl rfl⟩
 ·exact⟨0,.inr rfl⟩
def Alk (a b:CD):Prop:=a.rune=b.rune∧a.wide=b.wide∧a.fg=b.fg∧a.bg=b.bg∧a.attrs=b.attrs
theorem jsq (l1 l2:List ByteArray) (c:CD):Alk (ulf l1 l2 c) c:=by
 obtain⟨v,h|h⟩:=juJ l1 l2 c<;>rw[h]<;>exact⟨rfl,rfl,rfl,rfl,rfl⟩
theorem juK {a b:CD}(h:Alk a b):mayB a=mayB b:=by
 obtain⟨h1,h2,h3,h4,h5⟩:=h
 unfold mayB penB
 simp only[CD.pen]
 rw[h1,h2,h3,h4]
theorem jn6 (f:CD→CD){l:List CD}{i:Nat}(h:i<l.length):cAt (l.map f) i=f (cAt l i):=by
 have h1:=List.getElem?_eq_getElem h
 rw[jcV h1]
 exact jcV (by rw[List.getElem?_map,h1];rfl)
theorem juL {f:CD→CD}(h:∀c,Alk (f c) c) (h2:∀a b,a.link=b.link→(f a).link=(f b).link){l:List CD}(hr:jb0 l=true):jb0 (l.map f)=true:=by
 unfold jb0 at hr ⊢
 simp only[qad,decide_eq_true_eq,qah,qaj,qau]at hr ⊢
 obtain⟨⟨⟨h3,h4⟩,h5⟩,h6⟩:=hr
 refine⟨⟨⟨h3,h4⟩,fun i hi=>?_⟩,?_⟩
 ·have h7:=(jcg _ _).1 (h5 i hi)
  rw[jcg,jn6 f hi,jn6 f (show i-1<l.length by omega)]
  obtain⟨a1,a2,a3⟩:=h7
  refine⟨by rw[juK (h _)];exact a1,by rw[(h _).2.1,(h _).2.1];exact a2,fun h0 hw=>?_⟩
  rw[(h _).2.1]at hw
  have hp:=a3 h0 hw
  have e1:=h (cAt l (i-1))
  have e2:=h (cAt l i)
  simp only[CD.pen,PD.mk.injEq]at hp ⊢
  exact⟨by rw[e1.2.2.1,e2.2.2.1];exact hp.1,by rw[e1.2.2.2.1,e2.2.2.2.1];exact hp.2.1,by rw[e1.2.2.2.2,e2.2.2.2.2];exact hp.2.2.1,h2 _ _ hp.2.2.2⟩
 ·rw[jn6 f (show l.length-1<l.length by omega),(h _).2.1]
  exact h6
theorem jmy (f:CD→CD) (L:List CD) (k y:Nat):jas (L.map f) k y=(jas L k y).map f:=by
 unfold jas
 rw[List.map_take,List.map_drop]
theorem jsr {f:CD→CD}(h:∀c,Alk (f c) c) (h2:∀a b,a.link=b.link→(f a).link=(f b).link){k r:Int}{L:List CD}(hg:jbo k r L=true):jbo k r (L.map f)=true:=by
 unfold jbo at hg ⊢
 simp only[qad,qah,qaj,qau]at hg ⊢
 refine⟨hg.1,fun y hy=>?_⟩
 rw[jmy]
 exact juL h h2 (hg.2 y hy)
theorem jss {k r:Int}{L:List CD}(l1 l2:List ByteArray) (hg:jbo k r L=true):jbo k r (undL L l1 l2)=true :=
 jsr (jsq l1 l2) (fun a b e=>by
  unfold ulf
  rw[e]
  split
  ·rfl
  ·exact e) hg
theorem jx4 {a b:CD}(h:Alk a b) (hb:CWf b) (hl:0≤a.link∧a.link<65536):CWf a:=by
 obtain⟨h1,h2,h3,h4,h5⟩:=h
 exact⟨by rw[h1];exact hb.rune,by rw[h2];exact hb.wide,by rw[h3];exact hb.fg,by rw[h4];exact hb.bg,by rw[h5];exact hb.attrs,hl⟩
theorem jx5 {L:List CD}{l1 l2:List ByteArray}(hl2:l2.length≤10000) (hw:∀q∈L,CWf q):∀q∈undL L l1 l2,CWf q:=fun q hq=>by
 obtain⟨c,hc,rfl⟩:=List.mem_map.1 hq
 refine jx4 (jsq l1 l2 c) (hw c hc) ?_
 have h1:=(hw c hc).link
 unfold ulf
 split
 ·have:=jbO l2 (sAt l1 (c.link-1).toNat)
  show 0≤jal l2 (sAt l1 (c.link-1).toNat)+1∧jal l2 (sAt l1 (c.link-1).toNat)+1<65536
  omega
 ·exact h1
theorem jst (L:List CD) (l1 l2:List ByteArray):(undL L l1 l2).length=L.length:=by simp[undL]
theorem jmz {k r:Nat}{U:List CD}(h:U.length=k*r):movL k r U 0=U:=by
 unfold movL
 rw[ji7]
 exact jdI h
theorem juM {k r:Nat}{U:List CD}(h:U.length=k*r) (n:Int):(movL k r U n).length=k*r:=by
 unfold movL
 rw[jeG _ (jdk (jaZ h) n).row,(jdk (jaZ h) n).len,qak]
theorem juN {k r:Nat}{V L2:List CD}(hV:V.length=k*r) (h2:L2.length=k*r):(cpyL k r V L2).length=k*r:=by
 unfold cpyL
 rw[jdl (jaZ hV) (jaZ h2) r (qae _),qak]
theorem jcm (bs:List Int) (h:bs.length<9223372036854775808):(jeE bs).length≤bs.length+10:=by
 unfold jeE
 rw[qaa]
 have:=jan bs.length (by omega)
 omega
theorem jlC {l:List ByteArray}(h:∀s∈l,s.size≤64):(texB l).length≤74*l.length:=by
 induction l with
 | nil=>simp[texB]
 | cons s l ih =>
  have h1:=h s (by simp)
  have h2:=ih (fun t ht=>h t (by simp[ht]))
  have h3:=jcm (jab s) (by rw[jaw];omega)
  rw[jaw]at h3
  unfold texB at h2 ⊢
  rw[qbi,qaa,qab]
  omega
theorem jmA {l:List ByteArray}{t:Nat}{s:ByteArray}(h:l[t]?=some s):texB (l.take (t+1))=texB (l.take t)++jeE (jab s):=by
 rw[jar h]
 simp[texB,List.flatMap_append]
theorem jeJ (A B:List (List CD)) (r:Nat) (hr:r≤24) (hA:A.length=r):(jgs (jae A B r).1).length≤500:=by
 have h:=jck A B r
 have h2:=jaI (jae A B r).1 (fun x hx=>by have:=h.2.2 x hx;omega)
 unfold jgs
 split
 ·simp
 ·rw[qab,qaa]
  have:=jan ((jae A B r).1.length / 2) (by omega)
  omega
theorem jgv (x1 y1:Nat) (hd1:Bool) (x2 y2:Nat) (hd2:Bool) (hx:x2<80) (hy:y2<80):(curB x1 y1 hd1 x2 y2 hd2).length≤31:=by
 have h2:=jaI [x2,y2,if hd2 then 1 else 0] (fun x hx=>by
  simp at hx
  rcases hx with rfl|rfl|rfl
  ·omega
  ·omega
  ·split<;>omega)
 unfold curB
 split
 ·simp only[qab,qav]at h2 ⊢
  omega
 ·simp
theorem jgw (t1 t2:ByteArray) (h:t2.size≤64):(titB t1 t2).length≤75:=by
 have h2:=jcm (jab t2) (by rw[jaw];omega)
 rw[jaw]at h2
 unfold titB
 split
 ·simp
 ·rw[qab]
  omega
theorem jgx (m1 m2:Nat) (h:m2<256):(mouB m1 m2).length≤11:=by
 have h2:=jaI [m2] (fun x hx=>by simp at hx;omega)
 unfold mouB
 split
 ·simp
 ·rw[qab]
  simp only[qab,qav]at h2
  omega
theorem jlD (l1 l2:List ByteArray) (h:l2.length≤16) (hs:∀s∈l2,s.size≤64):(linB l1 l2).length≤1300:=by
 have h1:=jlA l2 l1
 have h2:=jaI [comK l2 l1,l2.length-comK l2 l1] (fun x hx=>by simp at hx;omega)
 have h3:=jlC (l:=l2.drop (comK l2 l1)) (fun s h=>hs s (qbg h))
 rw[qaz]at h3
 unfold linB
 split
 ·simp
 ·rw[qaa,qab]
  simp only[qab,qav]at h2
  omega
theorem jif (n:Int) (h:-24≤n∧n≤24):(scrB n).length≤11:=by
 have h2:=jaI [scrN n] (fun x hx=>by simp at hx;subst hx;unfold scrN;split<;>omega)
 unfold scrB
 split
 ·simp
 ·rw[qab]
  simp only[qab,qav]at h2
  omega
theorem jeK (C W:List CD) (hW:∀q∈W,CWf q) (hl:W.length≤2000):(jbd C W).length≤130100:=by
 have h1:(rem (jav C W) (jaa W) W.length 0).length≤W.length:=jbD
 have h2:=jgt hW (rem (jav C W) (jaa W) W.length 0).length 0 (rem (jav C W) (jaa W) W.length 0) (by omega) (fun x hx=>by
  have:=(jeI (fun i=>(jat W i).1) hx).2.1
  omega)
 have h3:=jan (layR W (rem (jav C W) (jaa W) W.length 0).length 0 (rem (jav C W) (jaa W) W.length 0)).2 (by omega)
 rw[jbd]
 split
 ·simp
 ·rw[qab,qaa]
  omega
theorem jd8 {k r i:Nat}(hi:i<k*r):∃y x,i=y*k+x∧y<r∧x<k:=by
 have hk:0<k:=Nat.pos_of_ne_zero fun e=>by rw[e,Nat.zero_mul]at hi;omega
 refine⟨i / k,i % k,?_,Nat.div_lt_of_lt_mul hi,Nat.mod_lt _ hk⟩
 rw[qak]
 exact (Nat.div_add_mod i k).symm
theorem jpf {k r y x:Nat}(hy:y<r) (hx:x<k):y*k+x<k*r:=by
 have h1:(y+1)*k≤k*r:=by rw[qak k r];exact qbe _ (by omega)
 rw[qaq]at h1
 omega
theorem jfO {L:List CD}{k y x:Nat}(hx:x<k):cAt (jas L k y) x=cAt L (y*k+x):=by
 unfold cAt jas
 rw[List.getD_eq_getElem?_getD,List.getD_eq_getElem?_getD,List.getElem?_take_of_lt hx,List.getElem?_drop]
theorem jji {c:CD}(h:mayB c=true):0≤c.rune:=by
 unfold mayB at h
 have key:∀v:Int,v≠0→Utf.width c.rune=v→0≤c.rune:=fun v hv e=>by
  unfold Utf.width at e
  by_cases hn:Utf.noWidth c.rune=true
  ·rw[if_pos hn]at e
   exact absurd e.symm hv
  ·unfold Utf.noWidth at hn
   simp only[qbm,decide_eq_true_eq,not_or]at hn
   omega
 simp only[qad,qbm,beq_iff_eq]at h
 rcases h.2 with (h|h)|h
 ·exact key 1 (by omega) h.2
 ·exact key 2 (by omega) h.2
 ·rw[h.2];exact Int.le_refl _
structure RFact (k r:Nat) (L:List CD) (x y mo:Nat) (ti:ByteArray) (l:List ByteArray):Prop where
 k1:1≤k∧k≤80
 r1:1≤r∧r≤24
 len:L.length=k*r
 grid:jbo k r L=true
 links:jb1 L l=true
 x1:x<k
 y1:y<r
 mo1:mo≤2
 ti1:ti.size≤64
 l1:l.length≤16
 s64:∀s∈l,s.size≤64
 runes:∀q∈L,0≤q.rune
 lk:∀t∈L,t.link≤(l.length:Int)
 row:∀y,y<r→jb0 (jas L k y)=true
theorem jqx {s:ByteArray}(h:jcs s=true):s.size≤64:=by
 unfold jcs at h
 simp only[qad,decide_eq_true_eq]at h
 exact h.1.2
theorem jjj {L:List CD}{l:List ByteArray}(h:jb1 L l=true):∀s∈l,jcs s=true:=fun s hs=>by
 obtain⟨i,hi⟩:=List.getElem?_of_mem hs
 have hl:=(List.getElem?_eq_some_iff.1 hi).1
 unfold jb1 at h
 simp only[qad,qah,qaj]at h
 have:=h.1.2 i hl
 unfold jgk at this
 rw[jkj hi,qad]at this
 exact this.1
theorem jaj {k r:Int}{L:List CD}{x y mo:Int}{ti:ByteArray}{l:List ByteArray}(h:jai k r L x y mo ti l=true) (hm:0≤mo) :
  ∃(K R X Y M:Nat),k=K∧r=R∧x=X∧y=Y∧mo=M∧RFact K R L X Y M ti l:=by
 unfold jai at h
 simp only[qad,decide_eq_true_eq]at h
 obtain⟨⟨⟨⟨⟨⟨⟨⟨h1,h2⟩,h3⟩,h4⟩,h5⟩,h6⟩,h7⟩,h8⟩,h9⟩:=h
 have hg:=h1
 unfold jbo at hg
 simp only[qad,beq_iff_eq,qah,qaj]at hg
 obtain⟨⟨g1,g2⟩,g3⟩:=hg
 have g4:=jbA.1 g1
 obtain⟨K,rfl⟩:∃K:Nat,k=K:=⟨k.toNat,by omega⟩
 obtain⟨R,rfl⟩:∃K:Nat,r=K:=⟨r.toNat,by omega⟩
 obtain⟨X,rfl⟩:∃K:Nat,x=K:=⟨x.toNat,by omega⟩
 obtain⟨Y,rfl⟩:∃K:Nat,y=K:=⟨y.toNat,by omega⟩
 obtain⟨M,rfl⟩:∃K:Nat,mo=K:=⟨mo.toNat,by omega⟩
 have hL:L.length=K*R:=by rw[←Int.natCast_mul]at g2;omega
 have hrow:∀y,y<R→jb0 (jas L K y)=true:=fun y hy=>g3 y (by omega)
 have hlk:=jjj h2
 have h2':=h2
 unfold jb1 at h2'
 simp only[qad,decide_eq_true_eq]at h2'
 refine⟨K,R,X,Y,M,rfl,rfl,rfl,rfl,rfl,⟨by omega,by omega,hL,h1,h2,by omega,by omega,by omega,h8,h2'.1.1,fun s hs=>jqx (hlk s hs),fun q hq=>?_,fun t ht=>jlr h2'.2 t ht,hrow⟩⟩
 obtain⟨i,hi⟩:=List.getElem?_of_mem hq
 obtain⟨y,x,e,hy,hx⟩:=jd8 (k:=K) (r:=R) (i:=i) (by rw[←hL];exact (List.getElem?_eq_some_iff.1 hi).1)
 have hb:=hrow y hy
 unfold jb0 at hb
 simp only[qad,qah,qaj]at hb
 have:=((jcg _ _).1 (hb.1.2 x (by rw[jaQ hL hy];exact hx))).1
 rw[jfO hx,←e,jcV hi]at this
 exact jji this
theorem RFact.fit {k r:Nat}{L:List CD}{x y mo:Nat}{ti:ByteArray}{l:List ByteArray}(h:RFact k r L x y mo ti l):∀y x,y<r→x<k→(cAt L (y*k+x)).wide=1→x+1<k:=fun y x hy hx hw=>by
 have hb:=h.row y hy
 unfold jb0 at hb
 simp only[qad,bne_iff_ne,ne_eq]at hb
 rcases qas (x+1) k with h1|h1
 ·exact h1
 ·exfalso
  refine hb.2 ?_
  rw[jaQ h.len hy,jfO (by omega),show k-1=x by omega]
  exact hw
theorem RFact.at_ {k r:Nat}{L:List CD}{x y mo:Nat}{ti:ByteArray}{l:List ByteArray}(h:RFact k r L x y mo ti l){y x:Nat}(hy:y<r) (hx:x<k) :
  ((0<x∧(cAt L (y*k+(x-1))).wide=1)↔(cAt L (y*k+x)).wide=2):=by
 have hb:=h.row y hy
 unfold jb0 at hb
 simp only[qad,qah,qaj]at hb
 have:=((jcg _ _).1 (hb.1.2 x (by rw[jaQ h.len hy];exact hx))).2.1
 rw[jfO hx,jfO (show x-1<k by omega)]at this
 exact this
theorem RFact.whole {k r:Nat}{L:List CD}{x y mo:Nat}{ti:ByteArray}{l:List ByteArray}(h:RFact k r L x y mo ti l):Whole L:=by
 refine⟨fun i hi hw=>?_,fun i hi hw=>?_⟩
 ·obtain⟨y,x,rfl,hy,hx⟩:=jd8 (k:=k) (r:=r) (by rw[←h.len];exact hi)
  have h1:=h.fit y x hy hx hw
  have h2:=(h.at_ hy h1).1 ⟨by omega,by rw[qao];exact hw⟩
  exact⟨by rw[h.len];exact jpf hy h1,h2⟩
 ·obtain⟨y,x,rfl,hy,hx⟩:=jd8 (k:=k) (r:=r) (by rw[←h.len];exact hi)
  have h2:=(h.at_ hy hx).2 hw
  exact⟨by omega,by rw[Nat.add_sub_assoc h2.1];exact h2.2⟩
theorem RFact.wide {k r:Nat}{L:List CD}{x y mo:Nat}{ti:ByteArray}{l:List ByteArray}(h:RFact k r L x y mo ti l):∀i,i<L.length→i+jaa L i≤L.length:=fun i hi=>h.whole.fits hi
theorem jwY {L:List CD}{l1 l2:List ByteArray}(h:jb1 L l1=true){t:CD}(ht:t∈L) (h0:0≤t.link):ruf l1 l2 t=ulf l1 l2 t:=by
 have hlk:=jjj h
 unfold jb1 at h
 simp only[qad,decide_eq_true_eq]at h
 have hle:=jlr h.2 t ht
 unfold ruf ulf jo6
 by_cases hz:t.link=0
 ·have e:jam l1 t.link=emptyS:=by unfold jam;rw[if_pos (.inl hz)]
  rw[if_neg (show ¬0<t.link by omega),if_neg (fun x=>x.1 e)]
  show { t with link:=0 }=t
  rw[←hz]
 ·obtain⟨k,hk⟩:∃k:Nat,t.link=(k:Int)+1:=⟨(t.link-1).toNat,by omega⟩
  obtain⟨s,hs⟩:∃s,l1[k]?=some s:=⟨_,List.getElem?_eq_getElem (by omega)⟩
  have hb:=hlk s (List.mem_of_getElem? hs)
  have he:jam l1 t.link=s:=by rw[hk];exact jnV hs hb
  have h3:=jbO l2 s
  rw[if_pos (show 0<t.link by omega),he,hk,show ((k:Int)+1-1).toNat=k by omega,jkj hs]
  by_cases hp:0≤jal l2 s
  ·rw[if_pos ⟨jgl hb,hp⟩]
  ·rw[if_neg (fun x=>hp x.2),show jal l2 s+1=0 by omega]
theorem juO {k r:Nat}{L:List CD}{l1 l2:List ByteArray}(h:jb1 L l1=true) (h0:∀t∈L,0≤t.link):((jak L k r).map fun l=>l.map (ruf l1 l2))=jak (undL L l1 l2) k r:=by
 unfold jak undL
 rw[List.map_map]
 refine qal fun y hy=>?_
 show (jas L k y).map (ruf l1 l2)=_
 rw[jmy]
 exact qal fun t ht=>jwY h (jci ht) (h0 t (jci ht))
theorem jx6 {k r:Nat}{L:List CD}(hL:L.length=k*r) (hk:1≤k) (m:Int){i:Nat}(hi:i<k*r):cAt (jaM (jak L k r) m).flatten i=jfl L (i+m*k):=by
 obtain⟨y,x,rfl,hy,hx⟩:=jd8 hi
 have hR:=jaZ (k:=k) (r:=r) hL
 have hS:=jdk hR m
 unfold cAt
 rw[List.getD_eq_getElem?_getD,jd5 _ hS.row y x (by rw[hS.len];exact hy) hx,←List.getD_eq_getElem?_getD]
 have hm:mAt (jaM (jak L k r) m) y=jg5 (jak L k r) m y:=ji5 (by
  unfold jaM
  rw[List.getElem?_map,List.getElem?_range (by rw[jba];exact hy)]
  rfl)
 rw[hm]
 unfold jg5 jfl
 rw[jba,hL]
 have e:((y*k+x:Nat):Int)+m*k=((y:Int)+m)*k+x:=by
  rw[Int.add_mul]
  push_cast
  omega
 rw[e]
 have hkk:(0:Int)<k:=by omega
 by_cases hc:0≤(y:Int)+m∧(y:Int)+m<r
 ·obtain⟨z,hz⟩:∃z:Nat,(y:Int)+m=z:=⟨((y:Int)+m).toNat,by omega⟩
  have hzr:z<r:=by omega
  rw[if_pos hc,hz,Int.toNat_natCast,jcE hzr]
  have h2:=jpf (k:=k) hzr hx
  have e2:((z:Int)*k+x)=((z*k+x:Nat):Int):=by push_cast;omega
  rw[e2,if_pos (by omega),Int.toNat_natCast]
  exact jfO hx
 ·rw[if_neg hc,jcE hy,jaQ hL hy]
  have h3:¬(0≤((y:Int)+m)*k+x∧((y:Int)+m)*k+x<((k*r:Nat):Int)):=by
   rintro⟨a,b⟩
   refine hc ⟨?_,?_⟩
   ·rcases Int.lt_or_le ((y:Int)+m) 0 with hn|hn
    ·have:((y:Int)+m)*k≤(-1)*k:=Int.mul_le_mul_of_nonneg_right (by omega) (by omega)
     omega
    ·exact hn
   ·rcases Int.lt_or_le ((y:Int)+m) r with hn|hn
    ·exact hn
    ·have h4:(r:Int)*k≤((y:Int)+m)*k:=Int.mul_le_mul_of_nonneg_right hn (by omega)
     rw[Int.natCast_mul,Int.mul_comm (k:Int)]at b
     omega
  rw[if_neg h3,List.getD_eq_getElem?_getD,List.getElem?_replicate,if_pos hx]
  rfl
theorem juP {k r:Nat}{L1 L2:List CD}(h1:L1.length=k*r) (h2:L2.length=k*r) (hk:1≤k) (m:Int):jwV (jak L1 k r) (jak L2 k r) k r m=dist k r L1 L2 m:=by
 unfold jwV jbP dist
 rw[qak r k]
 refine jqr fun i hi=>⟨jx6 h1 hk m hi,?_⟩
 rw[jdI h2]
theorem juQ {k r:Nat}{L1 L2:List CD}(h1:L1.length=k*r) (h2:L2.length=k*r) (hk:1≤k):(jbC (jwV (jak L1 k r) (jak L2 k r) k r) (r-1)).1=upN k r L1 L2:=by
 unfold upN
 rw[ji6 (fun m _ _=>juP h1 h2 hk m)]
theorem jwZ (f:Nat→List CD) (B:List (List CD)){y:Nat}(hy:y<B.length) (x:List CD):(((qaf y).map f++B.drop y).set y x)=(qaf y).map f++x::B.drop (y+1):=by
 rw[qar _ _ (by simp),qau,qax,qbj,qac hy]
 rfl
theorem juR (f:Nat→List CD) (T:List (List CD)) (y:Nat) (a x:List CD):(((qaf y).map f++a::T).set y x)=(qaf y).map f++x::T:=by
 rw[qar _ _ (by simp),qau,qax,qbj]
 rfl
theorem jlE (f:Nat→List CD) (T:List (List CD)) (y:Nat):(qaf y).map f++f y::T=(qaf (y+1)).map f++T:=by
 rw[jaD,qap]
 rfl
theorem jlF {M:List (List CD)}{k r:Nat}(h:Rect M k r):jak M.flatten k r=M:=by
 unfold jak
 refine List.ext_getElem (by simp[h.len]) fun i h1 h2=>?_
 rw[List.getElem_map,List.getElem_range]
 have hi:i<r:=by simpa using h1
 have hl:=(h.at_ hi).1
 have hm:mAt M i=M[i]:=ji5 (List.getElem?_eq_getElem h2)
 have hfl:M.flatten.length=k*r:=by rw[jeG M h.row,h.len,qak]
 refine List.ext_getElem? fun x=>?_
 rcases qas x k with hx|hx
 ·unfold jas
  rw[List.getElem?_take_of_lt hx,List.getElem?_drop,jd5 M h.row i x (by rw[h.len];exact hi) hx,hm]
 ·rw[List.getElem?_eq_none (by rw[jaQ hfl hi];exact hx),List.getElem?_eq_none (by rw[←hm,hl];exact hx)]
theorem juS {A B:List (List CD)}{k r:Nat}(hA:Rect A k r) (hB:Rect B k r):Rect ((qaf r).map (jaR A B)) k r :=
 ⟨by simp,fun l hl=>by
  obtain⟨y,hy,rfl⟩:=List.mem_map.1 hl
  exact jkv hA hB (List.mem_range.1 hy)⟩
def jah (k r:Nat):List CD:=qai (k*r) blank0
def juT (k r:Nat) (L:List CD) (x y:Nat) (hd:Bool) (mo:Nat) (ti:ByteArray) (l:List ByteArray):List Int :=
 (1::jaq [k,r])++jfm k r (jah k r) 0 0 false 0 ⟨#[]⟩ [] L x y hd mo ti l
def jcn (k r:Int) (L:List CD) (x y:Int) (hd:Bool) (mo:Int) (ti:ByteArray) (l:List ByteArray):List Int :=
 if jai k r L x y mo ti l then juT k.toNat r.toNat L x.toNat y.toNat hd mo.toNat ti l else []
def errN (b:Bool):Int:=if b then 0 else 1
theorem jgy {k r:Nat}{L1:List CD}{x1 y1:Nat}{hd1:Bool}{m1:Nat}{t1:ByteArray}{l1:List ByteArray}{L2:List CD}{x2 y2:Nat}{hd2:Bool}{m2:Nat}{t2:ByteArray}{l2:List ByteArray}
  (h1:L1.length=k*r) (hk:k≤80) (hr:1≤r∧r≤24) (h2:L2.length=k*r) (hw:∀q∈L2,CWf q) (hx:x2<80) (hy:y2<80) (hm:m2<256) (ht:t2.size≤64) (hl:l2.length≤16) (hs:∀s∈l2,s.size≤64) :
  (jfm k r L1 x1 y1 hd1 m1 t1 l1 L2 x2 y2 hd2 m2 t2 l2).length≤133000:=by
 have hkr:k*r≤80*24:=Nat.mul_le_mul hk hr.2
 have e1:=jgv x1 y1 hd1 x2 y2 hd2 hx hy
 have e2:=jgw t1 t2 ht
 have e3:=jgx m1 m2 hm
 have e4:=jlD l1 l2 hl hs
 have hu:=jsp k r hr.1 (undL L1 l1 l2) L2
 have e5:=jif (upN k r (undL L1 l1 l2) L2) (by omega)
 have e6:=jeJ (jak (movL k r (undL L1 l1 l2) (upN k r (undL L1 l1 l2) L2)) k r) (jak L2 k r) r hr.2 (jba _ _ _)
 have e7:=jeK (cpyL k r (movL k r (undL L1 l1 l2) (upN k r (undL L1 l1 l2) L2)) L2) L2 hw (by omega)
 unfold jfm jqw celB
 simp only[qaa]
 omega
theorem jmB {k r:Nat}(hk:1≤k∧k≤80) (hr:1≤r∧r≤24):jbo k r (jah k r)=true:=by
 have hL:(jah k r).length=k*r:=by simp[jah]
 unfold jbo
 simp only[qad,qah,qaj,beq_iff_eq]
 refine⟨⟨jbA.2 (by omega),by rw[hL];simp⟩,fun y hy=>?_⟩
 have hy':y<r:=by omega
 rw[Int.toNat_natCast]
 have hlen:=jaQ hL hy'
 have hat:∀i,i<k→cAt (jas (jah k r) k y) i=blank0:=fun i hi=>by
  obtain⟨q,hq⟩:∃q,(jas (jah k r) k y)[i]?=some q:=⟨_,List.getElem?_eq_getElem (by omega)⟩
  rw[jcV hq]
  exact List.eq_of_mem_replicate (jci (List.mem_of_getElem? hq))
 have hm:mayB blank0=true:=by decide +kernel
 unfold jb0
 simp only[qad,decide_eq_true_eq,qah,qaj,bne_iff_ne,ne_eq]
 rw[hlen]
 refine⟨⟨⟨hk.1,hk.2⟩,fun i hi=>?_⟩,?_⟩
 ·rw[jcg,hat i hi,hat (i-1) (by omega)]
  exact⟨hm,by simp,fun _ _=>rfl⟩
 ·rw[hat (k-1) (by omega)]
  decide
def encI (k1 r1:Int) (L1:List CD) (x1 y1:Int) (hd1:Bool) (mo1:Int) (ti1:ByteArray) (l1:List ByteArray) (k2 r2:Int) (L2:List CD) (x2 y2:Int) (hd2:Bool) (mo2:Int) (ti2:ByteArray) (l2:List ByteArray):List Int :=
 if (jai k1 r1 L1 x1 y1 mo1 ti1 l1)&&(jai k2 r2 L2 x2 y2 mo2 ti2 l2) then (if k1=k2∧r1=r2 then jfm k1.toNat r1.toNat L1 x1.toNat y1.toNat hd1 mo1.toNat ti1 l1 L2 x2.toNat y2.toNat hd2 mo2.toNat ti2 l2 else jcn k2 r2 L2 x2 y2 hd2 mo2 ti2 l2) else []
theorem jn7 (l:List ByteArray) (n:Nat):jac l (qai n blank0)=[]:=by
 induction n with
 | zero=>rfl
 | succ n ih =>
  rw[qbf,jaK,ih]
  unfold jbf
  rw[if_neg (fun e=>(jgm e.1).1 rfl)]
theorem jjk (l m:List ByteArray) (n:Nat):(qai n blank0).map (jaF l m)=qai n blank0:=by
 have h:jaF l m blank0=blank0:=by
  unfold jaF jb2
  rw[if_pos (by unfold jam;rw[if_pos (.inl rfl)])]
  rfl
 rw[List.map_replicate,h]
theorem jsu:CWf blank0:=⟨by decide,by decide,by decide,by decide,by decide,by decide⟩
end
end Go.Proofs.YtienkkicehmchaaGreatDoor
