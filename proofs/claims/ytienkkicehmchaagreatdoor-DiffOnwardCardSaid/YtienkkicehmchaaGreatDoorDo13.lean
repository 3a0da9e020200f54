/- Texts of this claim, merged by a program of this claim: DiffM2. -/
import Derived.Test.YtienkkicehmchaaGreatDoorDo11
namespace Go.Proofs.YtienkkicehmchaaGreatDoor
open List renaming length_append→qaa,length_cons→qab,drop_eq_getElem_cons→qad,flatten_append→qaf,all_eq_true→qag,replicate→qah,mem_range→qai,range→qaj,flatten_cons→qak,drop_of_length_le→qam,append_nil→qao,map_congr_left→qap,length_nil→qaq,drop_drop→qas,append_assoc→qat,flatten_nil→qau,length_drop→qav,range'_succ→qaw,filter_cons→qax,take_of_length_le→qay,take_append_drop→qaz,replicate_succ'→qbb,mem_of_mem_drop→qbc,drop_left→qbd,flatMap_cons→qbf,getElem_mem→qbg,length_map→qbh,length→qbk
open Bool renaming and_eq_true→qac,or_eq_true→qbi
open Nat renaming le_refl→qae,mul_comm→qal,succ_mul→qan,lt_or_ge→qar,mul_le_mul_right→qba,add_sub_cancel→qbe,le_trans→qbj
set_option linter.unusedVariables false
set_option linter.unusedSimpArgs false
section
open Go.RowKit
set_option maxRecDepth 100000
set_option maxHeartbeats 4000000
theorem jcz {L:List CD}{k r y:Nat}(hy:y<r):mAt (jat L k r) y=jax L k y:=jln (by simp[jat,hy])
theorem ja1 {L:List CD}{k r:Nat}(hL:L.length=k*r):Rect (jat L k r) k r:=by
 refine⟨jbR L k r,fun l hl=>?_⟩
 obtain⟨y,hy,rfl⟩:=List.mem_map.1 hl
 exact jbd hL (List.mem_range.1 hy)
theorem jj1 (L:List CD) (k:Nat):∀y,((qaj y).map (jax L k)).flatten=L.take (y*k)
 | 0=>by simp
 | y+1=>by
  rw[jbc,qaf,jj1 L k y,qan,List.take_add]
  simp[jax]
theorem jem {L:List CD}{k r:Nat}(hL:L.length=k*r):(jat L k r).flatten=L:=by
 unfold jat
 rw[jj1,qay (by rw[hL,qal];exact qae _)]
section
def scrG (M:List (List CD)) (top bot:Nat) (m:Int) (p:PD) (y:Nat):List CD :=
 if top≤y∧y≤bot then (if (top:Int)≤(y:Int)+m∧(y:Int)+m≤bot then mAt M ((y:Int)+m).toNat else qah (mAt M y).length (jdL p)) else mAt M y
def jcs (M:List (List CD)) (top bot:Nat) (m:Int) (p:PD):List (List CD):=(qaj M.length).map (scrG M top bot m p)
theorem jqp {M:List (List CD)}{k r:Nat}(h:Rect M k r){top bot:Nat}{m:Int}{p:PD}(hb:bot<r){y:Nat}(hy:y<r):(scrG M top bot m p y).length=k:=by
 unfold scrG
 have h0:=(h.at_ hy).1
 by_cases h1:top≤y∧y≤bot
 ·rw[if_pos h1]
  by_cases h2:(top:Int)≤(y:Int)+m∧(y:Int)+m≤bot
  ·rw[if_pos h2]
   exact (h.at_ (show ((y:Int)+m).toNat<r by omega)).1
  ·rw[if_neg h2,List.length_replicate,h0]
 ·rw[if_neg h1,h0]
def jdx (L:List CD) (k r top bot:Nat) (m:Int) (p:PD) (y:Nat):List CD:=((qaj y).map (scrG (jat L k r) top bot m p)).flatten++L.drop (y*k)
variable {L:List CD}{k r top bot:Nat}{m:Int}{p:PD}
theorem jd0 (hL:L.length=k*r) (hb:bot<r):∀{y:Nat},y≤r→((qaj y).map (scrG (jat L k r) top bot m p)).flatten.length=y*k
 | 0,_=>by simp
 | y+1,h=>by
  rw[jbc,qaf,qaa,jd0 hL hb (by omega)]
  simp only[qak,qau,qao]
  rw[jqp (ja1 hL) hb (by omega),qan]
theorem jnI (hL:L.length=k*r) (hb:bot<r){y:Nat}(hy:y≤r):(jdx L k r top bot m p y).length=L.length:=by
 unfold jdx
 rw[qaa,jd0 hL hb hy,qav,hL,qal k r]
 have:=qba k hy
 omega
theorem jo9 (ht:top≤r):jdx L k r top bot m p top=L:=by
 unfold jdx
 have e:(qaj top).map (scrG (jat L k r) top bot m p)=(qaj top).map (jax L k):=by
  refine qap fun y hy=>?_
  have hy:=List.mem_range.1 hy
  unfold scrG
  rw[if_neg (by omega),jcz (by omega)]
 rw[e,jj1,qaz]
theorem jrV {y:Nat}(hy:y<r) (h:¬(top≤y∧y≤bot)) (hL:L.length=k*r):jdx L k r top bot m p (y+1)=jdx L k r top bot m p y:=by
 unfold jdx
 rw[jbc,qaf,qat]
 congr 1
 unfold scrG
 rw[if_neg h,jcz hy]
 simp only[qak,qau,qao]
 unfold jax
 rw[qan,←qas,qaz]
theorem jnJ (hL:L.length=k*r) (hb:bot<r) (ht:top≤bot):jdx L k r top bot m p (bot+1)=(jcs (jat L k r) top bot m p).flatten:=by
 have key:∀d,bot+1+d≤r→jdx L k r top bot m p (bot+1+d)=jdx L k r top bot m p (bot+1):=fun d=>by
  induction d with
  | zero=>exact fun _=>rfl
  | succ d ih =>
   intro h
   rw[show bot+1+(d+1)=(bot+1+d)+1 by omega,jrV (by omega) (by omega) hL,ih (by omega)]
 rw[←key (r-(bot+1)) (by omega),show bot+1+(r-(bot+1))=r by omega]
 unfold jdx jcs
 rw[qam (by rw[hL,qal];exact qae _),qao,jbR]
theorem jlq (hL:L.length=k*r) (hb:bot<r){y:Nat}(hy:y<r) (ys:List CD) (h:ys=scrG (jat L k r) top bot m p y) :
  (jdx L k r top bot m p y).take (y*k)++ys++(jdx L k r top bot m p y).drop (y*k+ys.length)=jdx L k r top bot m p (y+1):=by
 have hl:=jd0 (top:=top) (m:=m) (p:=p) hL hb (Nat.le_of_lt hy)
 have hys:ys.length=k:=by rw[h];exact jqp (ja1 hL) hb hy
 unfold jdx
 rw[←hl,List.take_left,jbc,qaf,←h,hl,hys]
 simp only[qak,qau,qao]
 congr 1
 rw[←hl,←qas,qbd,qas,hl,qan]
theorem jpa {L:List CD}{k r:Nat}(hr:1≤r) (m:Int):jcs (jat L k r) 0 (r-1) m pen0=jbi (jat L k r) m:=by
 unfold jcs jbi
 refine qap fun y hy=>?_
 have hy:=List.mem_range.1 hy
 rw[jbR]at hy
 unfold scrG jrU
 rw[if_pos (by omega),jbR]
 by_cases h:0≤(y:Int)+m∧(y:Int)+m<r
 ·rw[if_pos (by omega),if_pos h]
 ·rw[if_neg (by omega),if_neg h]
  rfl
theorem jrW {M:List (List CD)}{top bot:Nat}{m c:Int}{p:PD}{y:Nat}(ht:top≤bot) (hc:c=max (-((bot:Int)-top+1)) (min m ((bot:Int)-top+1))):scrG M top bot c p y=scrG M top bot m p y:=by
 unfold scrG
 by_cases h:top≤y∧y≤bot
 ·rw[if_pos h,if_pos h]
  by_cases h2:(top:Int)≤(y:Int)+m∧(y:Int)+m≤bot
  ·rw[if_pos (by omega),if_pos h2,show c=m by omega]
  ·rw[if_neg (by omega),if_neg h2]
 ·rw[if_neg h,if_neg h]
theorem jmz {M:List (List CD)}{top bot:Nat}{m c:Int}{p:PD}(ht:top≤bot) (hc:c=max (-((bot:Int)-top+1)) (min m ((bot:Int)-top+1))):jcs M top bot c p=jcs M top bot m p:=by
 unfold jcs
 exact qap fun y _=>jrW ht hc
def jmA (S:List CD) (y k:Nat) (b:CD) (x:Nat):List CD:=S.take (y*k)++qah x b++S.drop (y*k+x)
theorem jrX (S:List CD) (y k:Nat) (b:CD):jmA S y k b 0=S:=by simp[jmA]
theorem jtW {S:List CD}{y k x:Nat}{b:CD}(h:y*k+x≤S.length):(jmA S y k b x).length=S.length:=by
 simp[jmA]
 omega
theorem jtX {S:List CD}{y k x:Nat}{b:CD}(h:y*k+x<S.length):(jmA S y k b x).set (y*k+x) b=jmA S y k b (x+1):=by
 have hl:(S.take (y*k)++qah x b).length=y*k+x:=by simp;omega
 unfold jmA
 rw[List.set_append_right _ _ (by rw[hl];exact qae _),hl,Nat.sub_self,qbb,←qat,qat (S.take (y*k)++qah x b)]
 congr 1
 rw[qad h]
 rfl
end
def jf9 (A B:List (List CD)) (y:Nat):Nat→Option Nat
 | 0=>none
 | z+1=>(jf9 A B y z).or (if mAt A z=mAt B y then some z else none)
def jcc (A B:List (List CD)) (y:Nat):List CD:=if (jf9 A B y A.length).isSome then mAt B y else mAt A y
def jak (A B:List (List CD)):Nat→List Nat×Nat
 | 0=>([],0)
 | y+1=>if mAt A y=mAt B y then jak A B y else match jf9 A B y A.length with
  | none=>jak A B y
  | some z=>((jak A B y).1++[y-(jak A B y).2,z],y+1)
theorem jen {A B:List (List CD)}{y:Nat}:∀{n:Nat},(∀z,z<n→mAt A z≠mAt B y)→jf9 A B y n=none
 | 0,h=>rfl
 | n+1,h=>by
  rw[jf9,jen (fun z hz=>h z (by omega)),if_neg (h n (by omega))]
  rfl
theorem jia {A B:List (List CD)}{y z:Nat}(h0:∀x,x<z→mAt A x≠mAt B y) (h1:mAt A z=mAt B y):∀{n:Nat},z<n→jf9 A B y n=some z
 | 0,h=>by omega
 | n+1,h=>by
  rw[jf9]
  rcases (show z<n∨z=n by omega)with h2|rfl
  ·rw[jia h0 h1 h2]
   rfl
  ·rw[jen h0,if_pos h1]
   rfl
theorem jcG (A B:List (List CD)):∀y,(jak A B y).2≤y∧(jak A B y).1.length≤2*y∧∀x∈(jak A B y).1,x≤y+A.length
 | 0=>⟨qae _,qae _,fun x h=>by cases h⟩
 | y+1=>by
  have ih:=jcG A B y
  have hz:∀n z,jf9 A B y n=some z→z<n:=by
   intro n
   induction n with
   | zero=>intro z h;cases h
   | succ n ih =>
    intro z h
    rw[jf9]at h
    cases hf:jf9 A B y n with
    | none =>
     rw[hf]at h
     simp only[Option.none_or]at h
     split at h
     ·injection h with h;omega
     ·cases h
    | some q =>
     rw[hf]at h
     simp only[Option.some_or]at h
     injection h with h
     have:=ih q hf
     omega
  rw[jak]
  split
  ·exact⟨by omega,by omega,fun x hx=>by have:=ih.2.2 x hx;omega⟩
  ·split
   ·exact⟨by omega,by omega,fun x hx=>by have:=ih.2.2 x hx;omega⟩
   ·rename_i z hzz
    have hzl:=hz _ _ hzz
    refine⟨qae _,by simp;omega,fun x hx=>?_⟩
    simp only[List.mem_append,List.mem_cons,List.not_mem_nil,or_false]at hx
    rcases hx with hx|hx|hx
    ·have:=ih.2.2 x hx;omega
    ·omega
    ·omega
theorem jeQ (A B:List (List CD)):∀y,(jak A B y).1.length % 2=0
 | 0=>rfl
 | y+1=>by
  have ih:=jeQ A B y
  rw[jak]
  split
  ·exact ih
  ·split
   ·exact ih
   ·simp;omega
def jbB (A B:List (List CD)) (y:Nat):List CD:=((qaj y).map (jcc A B)).flatten++(A.drop y).flatten
def jj2 (l:List Nat):List Int:=if l=[] then [] else (7:Int)::(varN (l.length / 2)++jar l)
theorem jct {A B:List (List CD)}{y:Nat}(hy:y<A.length) (h:jcc A B y=mAt A y):jbB A B (y+1)=jbB A B y:=by
 unfold jbB
 rw[jbc,qaf,h]
 have hd:A.drop y=mAt A y::A.drop (y+1):=by rw[qad hy,jln (List.getElem?_eq_getElem hy)]
 rw[hd,qak]
 simp
theorem jrY {A B:List (List CD)}{k r y:Nat}(hA:Rect A k r) (hB:Rect B k r) (hy:y<r):(jcc A B y).length=k:=by
 unfold jcc
 split
 ·exact (hB.at_ hy).1
 ·exact (hA.at_ hy).1
theorem jdO {A B:List (List CD)}{k r:Nat}(hA:Rect A k r) (hB:Rect B k r):∀y,y≤r→(((qaj y).map (jcc A B)).flatten).length=y*k
 | 0,h=>by simp
 | y+1,h=>by
  rw[jbc,qaf,qaa,jdO hA hB y (by omega),qan]
  simp[jrY hA hB (show y<r by omega)]
theorem jrZ {A B:List (List CD)}{k r y:Nat}(hA:Rect A k r) (hB:Rect B k r) (hy:y≤r):(jbB A B y).length=r*k:=by
 unfold jbB
 rw[qaa,jdO hA hB y hy,jj0 (A.drop y) (fun l hl=>hA.row l (qbc hl)),qav,hA.len,←Nat.add_mul]
 congr 1
 omega
theorem jj3 {A B:List (List CD)}{k r y:Nat}(hA:Rect A k r) (hB:Rect B k r) (hy:y<r) (h:jcc A B y=mAt B y) :
  (jbB A B y).take (y*k)++mAt B y++(jbB A B y).drop (y*k+(mAt B y).length)=jbB A B (y+1):=by
 have h1:=jdO hA hB y (by omega)
 have hd:A.drop y=mAt A y::A.drop (y+1):=by rw[qad (by rw[hA.len];exact hy),jln (List.getElem?_eq_getElem (by rw[hA.len];exact hy))]
 have hl:=(hA.at_ hy).1
 have hb:=(hB.at_ hy).1
 unfold jbB
 rw[List.take_append_of_le_length (by rw[h1];exact qae _),qay (by rw[h1];exact qae _),jbc,qaf,h,hd,qak,hb,←h1,←qas,qbd,←hl,qbd]
 simp
theorem jgF {A B:List (List CD)}{y:Nat}(hy:y<A.length) (h:mAt A y=mAt B y):jcc A B y=mAt A y:=by
 unfold jcc
 split
 ·exact h.symm
 ·rfl
theorem jpb {A B:List (List CD)}{y:Nat}(h:∀z,z<A.length→mAt A z≠mAt B y):jcc A B y=mAt A y:=by
 unfold jcc
 rw[jen h]
 rfl
theorem jpc {A B:List (List CD)}{y z:Nat}(h0:∀x,x<z→mAt A x≠mAt B y) (h1:mAt A z=mAt B y) (hz:z<A.length):jcc A B y=mAt B y:=by
 unfold jcc
 rw[jia h0 h1 hz]
 rfl
def jaa (W:List CD) (i:Nat):Nat:=if (cAt W i).wide=1 then 2 else 1
theorem jao (W:List CD) (i:Nat):1≤jaa W i∧jaa W i≤2:=by unfold jaa;split<;>omega
def jaj (C W:List CD) (i:Nat):Bool:=!decide ((C.drop i).take (jaa W i)=(W.drop i).take (jaa W i))
def remF (oth:Nat→Bool) (wd:Nat→Nat) (N:Nat):Nat→Nat→List Nat
 | 0,_=>[]
 | f+1,i=>if i<N then (if oth i then [i] else [])++remF oth wd N f (i+wd i) else []
def rem (oth:Nat→Bool) (wd:Nat→Nat) (N i:Nat):List Nat:=remF oth wd N (N-i) i
theorem jj4 {oth:Nat→Bool}{wd:Nat→Nat}{N:Nat}(hw:∀i,1≤wd i):∀(f g i:Nat),N-i≤f→N-i≤g→remF oth wd N f i=remF oth wd N g i
 | 0,0,i,_,_=>rfl
 | 0,g+1,i,h,_=>by rw[remF,remF,if_neg (by omega)]
 | f+1,0,i,_,h=>by rw[remF,remF,if_neg (by omega)]
 | f+1,g+1,i,h1,h2=>by
  rw[remF,remF]
  split
  ·have:=hw i
   rw[jj4 hw f g (i+wd i) (by omega) (by omega)]
  ·rfl
theorem jcA {oth:Nat→Bool}{wd:Nat→Nat}{N i:Nat}(hw:∀i,1≤wd i) (hi:i<N):rem oth wd N i=(if oth i then [i] else [])++rem oth wd N (i+wd i):=by
 obtain⟨f,hf⟩:∃f,N-i=f+1:=⟨N-i-1,by omega⟩
 have:=hw i
 unfold rem
 rw[hf,remF,if_pos hi,jj4 hw f (N-(i+wd i)) (i+wd i) (by omega) (qae _)]
theorem jgG {oth:Nat→Bool}{wd:Nat→Nat}{N i:Nat}(hi:N≤i):rem oth wd N i=[]:=by
 unfold rem
 rw[show N-i=0 by omega]
 rfl
theorem jqq {oth:Nat→Bool}{wd:Nat→Nat}{N:Nat}(hw:∀i,1≤wd i):∀(f i:Nat),∀x∈remF oth wd N f i,i≤x∧x<N∧oth x=true
 | 0,i,x,h=>by cases h
 | f+1,i,x,h=>by
  rw[remF]at h
  split at h
  ·rename_i hi
   rcases List.mem_append.1 h with h|h
   ·split at h
    ·rw[List.mem_singleton]at h
     subst h
     rename_i ho
     exact⟨qae _,hi,ho⟩
    ·cases h
   ·have h1:=jqq hw f _ x h
    have h2:=hw i
    exact⟨by omega,h1.2.1,h1.2.2⟩
  ·cases h
theorem jeR {oth:Nat→Bool}{wd:Nat→Nat}{N i x:Nat}(hw:∀i,1≤wd i) (h:x∈rem oth wd N i):i≤x∧x<N∧oth x=true:=jqq hw _ _ x h
theorem ji7 {oth:Nat→Bool}{wd:Nat→Nat}{N:Nat}:∀(f i:Nat),(remF oth wd N f i).length≤f
 | 0,i=>qae _
 | f+1,i=>by
  rw[remF]
  split
  ·rw[qaa]
   have:=ji7 (oth:=oth) (wd:=wd) (N:=N) f (i+wd i)
   split<;>simp<;>omega
  ·simp
theorem jbC {oth:Nat→Bool}{wd:Nat→Nat}{N i:Nat}:(rem oth wd N i).length≤N:=qbj (ji7 _ _) (by omega)
def runP (W:List CD) (p:PD):Nat→List Nat→List Nat×Nat×List Nat
 | e,[]=>([],e,[])
 | e,x::l=>if x=e∧(cAt W x).pen=p then ((x::(runP W p (e+jaa W x) l).1),(runP W p (e+jaa W x) l).2) else ([],e,x::l)
theorem jbT (W:List CD) (p:PD):∀(l:List Nat) (e:Nat),(runP W p e l).1.length+(runP W p e l).2.2.length=l.length
 | [],e=>rfl
 | x::l,e=>by
  rw[runP]
  split
  ·have:=jbT W p l (e+jaa W x)
   simp only[qab]
   omega
  ·simp
theorem ji8 (W:List CD) (p:PD):∀(l:List Nat) (e:Nat),(runP W p e l).1++(runP W p e l).2.2=l
 | [],e=>rfl
 | x::l,e=>by
  rw[runP]
  split
  ·have:=ji8 W p l (e+jaa W x)
   simp only[List.cons_append,this]
  ·simp
theorem jbD (W:List CD) (x:Nat) (l:List Nat):(runP W (cAt W x).pen x (x::l)).1=x::(runP W (cAt W x).pen (x+jaa W x) l).1∧(runP W (cAt W x).pen x (x::l)).2=(runP W (cAt W x).pen (x+jaa W x) l).2:=by
 rw[runP,if_pos ⟨rfl,rfl⟩]
 exact⟨rfl,rfl⟩
def jbE (W:List CD) (l:List Nat):List Int:=l.flatMap fun x=>varN (cAt W x).rune.toNat
def penN (p:PD):List Nat:=[p.fg.toNat,p.bg.toNat,p.attrs.toNat,p.link.toNat]
def layR (W:List CD):Nat→Nat→List Nat→List Int×Nat
 | 0,_,_=>([],0)
 | f+1,bh,[]=>([],0)
 | f+1,bh,x::l=>(jar ([x-bh,(runP W (cAt W x).pen x (x::l)).1.length]++penN (cAt W x).pen)++(jbE W (runP W (cAt W x).pen x (x::l)).1++(layR W f (runP W (cAt W x).pen x (x::l)).2.1 (runP W (cAt W x).pen x (x::l)).2.2).1),(layR W f (runP W (cAt W x).pen x (x::l)).2.1 (runP W (cAt W x).pen x (x::l)).2.2).2+1)
theorem jfW (W:List CD) (f bh:Nat):layR W f bh []=([],0):=by cases f<;>rfl
theorem jgH (W:List CD):∀(f g bh:Nat) (l:List Nat),l.length≤f→l.length≤g→layR W f bh l=layR W g bh l
 | _,_,bh,[],_,_=>by rw[jfW,jfW]
 | 0,_,bh,x::l,h,_=>by simp at h
 | f+1,0,bh,x::l,_,h=>by simp at h
 | f+1,g+1,bh,x::l,h1,h2=>by
  have hh:=(jbD W x l).1
  have hl:=jbT W (cAt W x).pen (x::l) x
  rw[hh]at hl
  simp only[qab]at hl h1 h2
  rw[layR,layR,jgH W f g _ (runP W (cAt W x).pen x (x::l)).2.2 (by omega) (by omega)]
theorem jtY {n:Nat}(h:n<34359738368):(varN n).length≤5:=jfV n 4 (by omega)
theorem jhp {W:List CD}(hW:∀q∈W,CWf q):∀l:List Nat,(jbE W l).length≤5*l.length
 | []=>by simp[jbE]
 | x::l=>by
  have ih:=jhp hW l
  have h1:(varN (cAt W x).rune.toNat).length≤5:=jtY (by
   rcases qar x W.length with h|h
   ·have:=(hW (cAt W x) (by rw[je7 (List.getElem?_eq_getElem h)];exact qbg h)).rune
    omega
   ·have:cAt W x=default:=by unfold cAt;rw[List.getD_eq_getElem?_getD,List.getElem?_eq_none h];rfl
    rw[this]
    decide)
  simp only[jbE,qbf,qaa,qab]at ih ⊢
  omega
theorem jAQ {W:List CD}(hW:∀q∈W,CWf q) (x:Nat):CWf (cAt W x):=by
 rcases qar x W.length with h|h
 ·exact hW (cAt W x) (by rw[je7 (List.getElem?_eq_getElem h)];exact qbg h)
 ·have:cAt W x=default:=by unfold cAt;rw[List.getD_eq_getElem?_getD,List.getElem?_eq_none h];rfl
  rw[this]
  exact⟨by decide,by decide,by decide,by decide,by decide,by decide⟩
theorem jpd {W:List CD}(hW:∀q∈W,CWf q){x bh n:Nat}(h1:x≤100000) (h2:n≤100000):∀y∈[x-bh,n]++penN (cAt W x).pen,y<9223372036854775808:=by
 have hw:=jAQ hW x
 have:=hw.fg
 have:=hw.bg
 have:=hw.attrs
 have:=hw.link
 intro y hy
 simp[penN,CD.pen]at hy
 omega
theorem jhq {W:List CD}(hW:∀q∈W,CWf q):∀(f bh:Nat) (l:List Nat),l.length≤100000→(∀x∈l,x≤100000)→(layR W f bh l).1.length≤65*l.length∧(layR W f bh l).2≤l.length
 | _,_,[],_,_=>by simp[jfW]
 | 0,_,x::l,_,_=>by simp[layR]
 | f+1,bh,x::l,hl,hx=>by
  have hh:=(jbD W x l).1
  have ha:=ji8 W (cAt W x).pen (x::l) x
  have hc:=jbT W (cAt W x).pen (x::l) x
  have ih:=jhq hW f (runP W (cAt W x).pen x (x::l)).2.1 (runP W (cAt W x).pen x (x::l)).2.2 (by omega) (fun y hy=>hx y (by rw[←ha];exact List.mem_append.2 (.inr hy)))
  have h1:=jhp hW (runP W (cAt W x).pen x (x::l)).1
  have h3:1≤(runP W (cAt W x).pen x (x::l)).1.length:=by rw[hh];simp
  have h2:=jbe ([x-bh,(runP W (cAt W x).pen x (x::l)).1.length]++penN (cAt W x).pen) (jpd hW (hx x (by simp)) (by omega))
  have h4:([x-bh,(runP W (cAt W x).pen x (x::l)).1.length]++penN (cAt W x).pen).length=6:=by simp[penN]
  rw[h4]at h2
  rw[layR]
  simp only[qaa]at h2 ⊢
  omega
def jbU (C W:List CD):List Int :=
 let l:=rem (jaj C W) (jaa W) W.length 0
 let q:=layR W l.length 0 l
 if q.2=0 then [] else (8:Int)::(varN q.2++q.1)
theorem jtZ {W:List CD}{p:PD}{e:Nat}:∀{l:List Nat},(∀x,l.head?=some x→x=e→(cAt W x).pen≠p)→runP W p e l=([],e,l)
 | [],h=>rfl
 | x::l,h=>by
  rw[runP,if_neg]
  rintro⟨h1,h2⟩
  exact h x rfl h1 h2
theorem jzk {W:List CD}{p:PD}{e:Nat}{l:List Nat}(h:(cAt W e).pen=p):runP W p e (e::l)=(e::(runP W p (e+jaa W e) l).1,(runP W p (e+jaa W e) l).2):=by
 rw[runP,if_pos ⟨rfl,h⟩]
structure Inn (W:List CD) (p:PD) (oth:Nat→Bool) (i j kk:Nat) (rb:List Int):Prop where
 le:i≤j∧j≤W.length
 bytes:rb++jbE W (runP W p j (rem oth (jaa W) W.length j)).1=jbE W (runP W p i (rem oth (jaa W) W.length i)).1
 num:kk+(runP W p j (rem oth (jaa W) W.length j)).1.length=(runP W p i (rem oth (jaa W) W.length i)).1.length
 rest:(runP W p j (rem oth (jaa W) W.length j)).2=(runP W p i (rem oth (jaa W) W.length i)).2
theorem Inn.start {W:List CD}{p:PD}{oth:Nat→Bool}{i:Nat}(h:i≤W.length):Inn W p oth i i 0 []:=⟨⟨qae _,h⟩,rfl,by simp,rfl⟩
theorem Inn.go {W:List CD}{p:PD}{oth:Nat→Bool}{i j kk:Nat}{rb:List Int}(h:Inn W p oth i j kk rb) (hj:j<W.length) (ho:oth j=true) (hp:(cAt W j).pen=p) (hv:j+jaa W j≤W.length) :
  Inn W p oth i (j+jaa W j) (kk+1) (rb++varN (cAt W j).rune.toNat):=by
 have hr:=jcA (oth:=oth) (fun i=>(jao W i).1) hj
 rw[if_pos ho]at hr
 have hg:=jzk (l:=rem oth (jaa W) W.length (j+jaa W j)) hp
 rw[show [j]++rem oth (jaa W) W.length (j+jaa W j)=j::rem oth (jaa W) W.length (j+jaa W j)from rfl]at hr
 refine⟨⟨by have:=h.le;omega,hv⟩,?_,?_,?_⟩
 ·have:=h.bytes
  rw[hr,hg]at this
  rw[←this]
  simp[jbE]
 ·have:=h.num
  rw[hr,hg]at this
  simp only[qab]at this
  omega
 ·have:=h.rest
  rw[hr,hg]at this
  exact this
theorem Inn.done {W:List CD}{p:PD}{oth:Nat→Bool}{i j kk:Nat}{rb:List Int}(h:Inn W p oth i j kk rb) (hs:¬(j<W.length∧oth j=true∧(cAt W j).pen=p)) :
  rb=jbE W (runP W p i (rem oth (jaa W) W.length i)).1∧kk=(runP W p i (rem oth (jaa W) W.length i)).1.length∧(runP W p i (rem oth (jaa W) W.length i)).2=(j,rem oth (jaa W) W.length j):=by
 have hst:runP W p j (rem oth (jaa W) W.length j)=([],j,rem oth (jaa W) W.length j):=jtZ (fun x hx he hp=>by
  have hm:=jeR (fun i=>(jao W i).1) (List.mem_of_mem_head? hx)
  subst he
  exact hs ⟨hm.2.1,hm.2.2,hp⟩)
 have h1:=h.bytes
 have h2:=h.num
 have h3:=h.rest
 rw[hst]at h1 h2 h3
 refine⟨by simpa[jbE] using h1,by simpa using h2,h3.symm⟩
theorem jt0 (W:List CD) (p:PD):∀(l:List Nat) (e:Nat),e≤(runP W p e l).2.1
 | [],e=>qae _
 | x::l,e=>by
  rw[runP]
  split
  ·have:=jt0 W p l (e+jaa W x)
   exact qbj (by omega) this
  ·exact qae _
theorem Inn.far {W:List CD}{oth:Nat→Bool}{i j kk:Nat}{rb:List Int}(h:Inn W (cAt W i).pen oth i j kk rb) (hi:i<W.length) (ho:oth i=true) (hs:¬(j<W.length∧oth j=true∧(cAt W j).pen=(cAt W i).pen)):i<j:=by
 obtain⟨e1,e2,e3⟩:=h.done hs
 have hr:=jcA (oth:=oth) (fun i=>(jao W i).1) hi
 rw[if_pos ho]at hr
 obtain⟨l,hl⟩:∃l,rem oth (jaa W) W.length i=i::l:=⟨_,hr⟩
 rw[hl,(jbD W i l).2]at e3
 have h1:=jt0 W (cAt W i).pen l (i+jaa W i)
 rw[e3]at h1
 have h2:=(jao W i).1
 simp only at h1
 omega
structure Outn (W:List CD) (oth:Nat→Bool) (i bh nn:Nat) (bs:List Int):Prop where
 le:bh≤i∧i≤W.length
 bytes:bs++(layR W W.length bh (rem oth (jaa W) W.length i)).1=(layR W W.length 0 (rem oth (jaa W) W.length 0)).1
 num:nn+(layR W W.length bh (rem oth (jaa W) W.length i)).2=(layR W W.length 0 (rem oth (jaa W) W.length 0)).2
theorem Outn.skip {W:List CD}{oth:Nat→Bool}{i bh nn:Nat}{bs:List Int}(h:Outn W oth i bh nn bs) (hi:i<W.length) (ho:oth i=false) (hv:i+jaa W i≤W.length):Outn W oth (i+jaa W i) bh nn bs:=by
 have hr:=jcA (oth:=oth) (fun i=>(jao W i).1) hi
 rw[ho]at hr
 simp only[Bool.false_eq_true,if_false,List.nil_append]at hr
 have h1:=h.bytes
 have h2:=h.num
 rw[hr]at h1 h2
 exact⟨⟨by have:=h.le;omega,hv⟩,h1,h2⟩
theorem Outn.go {W:List CD}{oth:Nat→Bool}{i bh nn j kk:Nat}{bs rb:List Int}(h:Outn W oth i bh nn bs) (hi:i<W.length) (ho:oth i=true) (hin:Inn W (cAt W i).pen oth i j kk rb) (hs:¬(j<W.length∧oth j=true∧(cAt W j).pen=(cAt W i).pen)) :
  Outn W oth j j (nn+1) (bs++jar ([i-bh,kk]++penN (cAt W i).pen)++rb):=by
 obtain⟨e1,e2,e3⟩:=hin.done hs
 have hr:=jcA (oth:=oth) (fun i=>(jao W i).1) hi
 rw[if_pos ho]at hr
 obtain⟨l,hl⟩:∃l,rem oth (jaa W) W.length i=i::l:=⟨_,hr⟩
 have hc:=jbT W (cAt W i).pen (i::l) i
 have hh:=(jbD W i l).1
 have hlen:(i::l).length≤W.length:=by rw[←hl];exact jbC
 rw[hl]at e1 e2 e3
 have hlay:layR W W.length bh (i::l)=(jar ([i-bh,kk]++penN (cAt W i).pen)++(rb++(layR W W.length j (rem oth (jaa W) W.length j)).1),(layR W W.length j (rem oth (jaa W) W.length j)).2+1):=by
  obtain⟨f,hf⟩:∃f,W.length=f+1:=⟨W.length-1,by omega⟩
  have e5:layR W W.length j (rem oth (jaa W) W.length j)=layR W f j (rem oth (jaa W) W.length j):=by
   have hrl:(rem oth (jaa W) W.length j).length≤f:=by
    rw[hh,e3]at hc
    simp only[qab]at hc hlen
    omega
   exact jgH W _ _ _ _ (by omega) hrl
  rw[e5]
  conv=>lhs;rw[hf]
  rw[layR,←e1,←e2,e3]
 have h1:=h.bytes
 have h2:=h.num
 rw[hl,hlay]at h1 h2
 refine⟨⟨qae _,hin.le.2⟩,?_,?_⟩
 ·rw[←h1]
  simp
 ·simp only at h2
  omega
theorem Outn.done {W:List CD}{oth:Nat→Bool}{i bh nn:Nat}{bs:List Int}(h:Outn W oth i bh nn bs) (hi:W.length≤i):bs=(layR W W.length 0 (rem oth (jaa W) W.length 0)).1∧nn=(layR W W.length 0 (rem oth (jaa W) W.length 0)).2:=by
 have h1:=h.bytes
 have h2:=h.num
 rw[jgG hi,jfW]at h1 h2
 simp at h1 h2
 exact⟨h1,h2⟩
theorem Outn.small {W:List CD}(hW:∀q∈W,CWf q){oth:Nat→Bool}{i bh nn:Nat}{bs:List Int}(h:Outn W oth i bh nn bs) (hl:W.length≤2000):bs.length≤130000∧nn≤2000:=by
 have hr:(rem oth (jaa W) W.length 0).length≤W.length:=jbC
 have h1:=jhq hW W.length 0 (rem oth (jaa W) W.length 0) (by omega) (fun x hx=>by have:=jeR (fun i=>(jao W i).1) hx;omega)
 have h2:=congrArg qbk h.bytes
 have h3:=h.num
 rw[qaa]at h2
 omega
theorem Inn.small {W:List CD}(hW:∀q∈W,CWf q){p:PD}{oth:Nat→Bool}{i j kk:Nat}{rb:List Int}(h:Inn W p oth i j kk rb) (hl:W.length≤2000):rb.length≤10000∧kk≤2000:=by
 have hr:(rem oth (jaa W) W.length i).length≤W.length:=jbC
 have hc:=jbT W p (rem oth (jaa W) W.length i) i
 have h1:=jhp hW (runP W p i (rem oth (jaa W) W.length i)).1
 have h2:=congrArg qbk h.bytes
 have h3:=h.num
 rw[qaa]at h2
 omega
theorem jpe (C W:List CD):jbU C W=if (layR W W.length 0 (rem (jaj C W) (jaa W) W.length 0)).2=0 then [] else (8:Int)::(varN (layR W W.length 0 (rem (jaj C W) (jaa W) W.length 0)).2++(layR W W.length 0 (rem (jaj C W) (jaa W) W.length 0)).1):=by
 unfold jbU
 simp only
 rw[jgH W _ W.length 0 _ (qae _) jbC]
structure Whole (W:List CD):Prop where
 left:∀i,i<W.length→(cAt W i).wide=1→i+1<W.length∧(cAt W (i+1)).wide=2
 right:∀i,i<W.length→(cAt W i).wide=2→0<i∧(cAt W (i-1)).wide=1
theorem Whole.fits {W:List CD}(h:Whole W){i:Nat}(hi:i<W.length):i+jaa W i≤W.length:=by
 unfold jaa
 split
 ·rename_i h1
  have:=(h.left i hi h1).1
  omega
 ·omega
def colP (oth:Nat→Bool) (W:List CD) (i:Nat):Bool:=decide ((cAt W i).wide≠2)&&oth i
def col (oth:Nat→Bool) (W:List CD) (t:Nat):List Nat:=(qaj t).filter (colP oth W)
theorem jzl {oth:Nat→Bool}{W:List CD}{t x:Nat}(h:x∈col oth W t):x<t:=List.mem_range.1 (List.mem_filter.1 h).1
theorem jzm {oth:Nat→Bool}{W:List CD}(hW:Whole W):∀(d i:Nat),i+d=W.length→(i<W.length→(cAt W i).wide≠2)→rem oth (jaa W) W.length i=(List.range' i d).filter (colP oth W):=by
 intro d
 induction d using Nat.strongRecOn with
 | ind d ih =>
  intro i hi hw
  by_cases h0:i<W.length
  ·rw[jcA (fun i=>(jao W i).1) h0]
   have hw2:=hw h0
   have hcp:colP oth W i=oth i:=by unfold colP;rw[decide_eq_true hw2];rfl
   by_cases h1:(cAt W i).wide=1
   ·obtain⟨h3,h4⟩:=hW.left i h0 h1
    have hv:jaa W i=2:=by unfold jaa;rw[if_pos h1]
    obtain⟨e,rfl⟩:∃e,d=e+2:=⟨d-2,by omega⟩
    have:=ih e (by omega) (i+2) (by omega) (fun h5 h6=>by
     have:=(hW.right (i+2) h5 h6).2
     rw[show i+2-1=i+1 by omega,h4]at this
     exact absurd this (by decide))
    rw[hv,this,qaw,qaw,qax,qax]
    have hc1:colP oth W (i+1)=false:=by unfold colP;rw[h4];rfl
    rw[hcp,hc1]
    cases oth i<;>simp
   ·have hv:jaa W i=1:=by unfold jaa;rw[if_neg h1]
    obtain⟨e,rfl⟩:∃e,d=e+1:=⟨d-1,by omega⟩
    have:=ih e (by omega) (i+1) (by omega) (fun h5 h6=>by
     have:=(hW.right (i+1) h5 h6).2
     rw[qbe]at this
     exact h1 this)
    rw[hv,this,qaw,qax,hcp]
    cases oth i<;>simp
  ·have:d=0:=by omega
   subst this
   rw[jgG (by omega)]
   rfl
theorem jzn {oth:Nat→Bool}{W:List CD}(hW:Whole W):rem oth (jaa W) W.length 0=col oth W W.length:=by
 rw[jzm hW W.length 0 (by omega) (fun h h2=>absurd (hW.right 0 h h2).1 (by omega))]
 unfold col
 rw[List.range_eq_range']
def comK:List ByteArray→List ByteArray→Nat
 | x::l,y::m=>if x=y then comK l m+1 else 0
 | _,_=>0
theorem jmB:∀l m:List ByteArray,comK l m≤l.length∧comK l m≤m.length
 | [],m=>by simp[comK]
 | x::l,[]=>by simp[comK]
 | x::l,y::m=>by
  have ih:=jmB l m
  rw[comK]
  split<;>simp<;>omega
theorem jzo {l m:List ByteArray}{j:Nat}{s:ByteArray}(h1:l[j]?=some s) (h2:m[j]?=some s):comK (l.drop j) (m.drop j)=1+comK (l.drop (j+1)) (m.drop (j+1)):=by
 obtain⟨h3,h4⟩:=List.getElem?_eq_some_iff.1 h1
 obtain⟨h5,h6⟩:=List.getElem?_eq_some_iff.1 h2
 rw[qad h3,qad h5,h4,h6,comK,if_pos rfl,Nat.add_comm]
theorem jt1 {l m:List ByteArray}{j:Nat}(h:∀s t,l[j]?=some s→m[j]?=some t→s≠t):comK (l.drop j) (m.drop j)=0:=by
 rcases qar j l.length with h1|h1
 ·rcases qar j m.length with h2|h2
  ·rw[qad h1,qad h2,comK,if_neg (h _ _ (List.getElem?_eq_getElem h1) (List.getElem?_eq_getElem h2))]
  ·rw[qam h2]
   cases l.drop j<;>rfl
 ·rw[qam h1]
  rfl
def curC (x1 y1:Nat) (hd1:Bool) (x2 y2:Nat) (hd2:Bool):Bool:=((x2:Int) != (x1:Int)) || (((y2:Int) != (y1:Int)) || (hd2 != hd1))
def curB (x1 y1:Nat) (hd1:Bool) (x2 y2:Nat) (hd2:Bool):List Int:=if curC x1 y1 hd1 x2 y2 hd2 then 2::jar [x2,y2,if hd2 then 1 else 0] else []
def titB (t1 t2:ByteArray):List Int:=if jdw t2 t1 then [] else 3::jf8 (jac t2)
def mouB (m1 m2:Nat):List Int:=if m2=m1 then [] else 4::jar [m2]
def texB (l:List ByteArray):List Int:=l.flatMap fun u=>jf8 (jac u)
def linB (l1 l2:List ByteArray):List Int:=if l2=l1 then [] else 5::jar [comK l2 l1,l2.length-comK l2 l1]++texB (l2.drop (comK l2 l1))
def scrN (n:Int):Nat:=if 0<n then (2*n-1).toNat else (-2*n).toNat
def scrB (n:Int):List Int:=if n=0 then [] else 6::jar [scrN n]
def undL (L1:List CD) (l1 l2:List ByteArray):List CD:=L1.map (ulf l1 l2)
def upN (k r:Nat) (U L2:List CD):Int:=(jdZ (dist k r U L2) (r-1)).1
def movL (k r:Nat) (U:List CD) (n:Int):List CD:=(jbi (jat U k r) n).flatten
def cpyL (k r:Nat) (V L2:List CD):List CD:=((qaj r).map (jcc (jat V k r) (jat L2 k r))).flatten
def celB (k r:Nat) (U L2:List CD):List Int :=
 scrB (upN k r U L2)++jj2 (jak (jat (movL k r U (upN k r U L2)) k r) (jat L2 k r) r).1++jbU (cpyL k r (movL k r U (upN k r U L2)) L2) L2
def jr0 (x1 y1:Nat) (hd1:Bool) (m1:Nat) (t1:ByteArray) (l1:List ByteArray) (x2 y2:Nat) (hd2:Bool) (m2:Nat) (t2:ByteArray) (l2:List ByteArray):List Int :=
 curB x1 y1 hd1 x2 y2 hd2++titB t1 t2++mouB m1 m2++linB l1 l2
def jga (k r:Nat) (L1:List CD) (x1 y1:Nat) (hd1:Bool) (m1:Nat) (t1:ByteArray) (l1:List ByteArray) (L2:List CD) (x2 y2:Nat) (hd2:Bool) (m2:Nat) (t2:ByteArray) (l2:List ByteArray):List Int :=
 jr0 x1 y1 hd1 m1 t1 l1 x2 y2 hd2 m2 t2 l2++celB k r (undL L1 l1 l2) L2
theorem jmC (d:Int→Nat):∀j:Nat,-(j:Int)≤(jdZ d j).1∧(jdZ d j).1≤j
 | 0=>by simp[jdZ]
 | j+1=>by
  have ih:=jmC d j
  have key:∀(st:Int×Nat) (k:Int),(jek d st k).1=st.1∨(jek d st k).1=k:=fun st k=>by
   unfold jek
   split
   ·exact .inr rfl
   ·exact .inl rfl
  rw[jdZ]
  rcases key (jek d (jdZ d j) ((j+1:Nat):Int)) (-((j+1:Nat):Int))with h|h
  ·rw[h]
   rcases key (jdZ d j) ((j+1:Nat):Int)with h2|h2<;>rw[h2]<;>omega
  ·rw[h]
   omega
theorem jt2 (k r:Nat) (hr:1≤r) (U L2:List CD):-(r:Int)<upN k r U L2∧upN k r U L2<r:=by
 have:=jmC (dist k r U L2) (r-1)
 unfold upN
 omega
theorem jwV (l1 l2:List ByteArray) (c:CD):∃v,ulf l1 l2 c=c.withLink v∨ulf l1 l2 c=c:=by
 unfold ulf
 split
 ·exact⟨_,.inl rfl⟩
 ·exact⟨0,.inr rfl⟩
def Alk (a b:CD):Prop:=a.rune=b.rune∧a.wide=b.wide∧a.fg=b.fg∧a.bg=b.bg∧a.attrs=b.attrs
theorem jt3 (l1 l2:List ByteArray) (c:CD):Alk (ulf l1 l2 c) c:=by
 obtain⟨v,h|h⟩:=jwV l1 l2 c<;>rw[h]<;>exact⟨rfl,rfl,rfl,rfl,rfl⟩
theorem jwW {a b:CD}(h:Alk a b):mayB a=mayB b:=by
 obtain⟨h1,h2,h3,h4,h5⟩:=h
 unfold mayB penB
 simp only[CD.pen]
 rw[h1,h2,h3,h4]
theorem jpf (f:CD→CD){l:List CD}{i:Nat}(h:i<l.length):cAt (l.map f) i=f (cAt l i):=by
 have h1:=List.getElem?_eq_getElem h
 rw[je7 h1]
 exact je7 (by rw[List.getElem?_map,h1];rfl)
theorem jwX {f:CD→CD}(h:∀c,Alk (f c) c) (h2:∀a b,a.link=b.link→(f a).link=(f b).link){l:List CD}(hr:jcl l=true):jcl (l.map f)=true:=by
 unfold jcl at hr ⊢
 simp only[qac,decide_eq_true_eq,qag,qai,qbh]at hr ⊢
 obtain⟨⟨⟨h3,h4⟩,h5⟩,h6⟩:=hr
 refine⟨⟨⟨h3,h4⟩,fun i hi=>?_⟩,?_⟩
 ·have h7:=(jcE _ _).1 (h5 i hi)
  rw[jcE,jpf f hi,jpf f (show i-1<l.length by omega)]
  obtain⟨a1,a2,a3⟩:=h7
  refine⟨by rw[jwW (h _)];exact a1,by rw[(h _).2.1,(h _).2.1];exact a2,fun h0 hw=>?_⟩
  rw[(h _).2.1]at hw
  have hp:=a3 h0 hw
  have e1:=h (cAt l (i-1))
  have e2:=h (cAt l i)
  simp only[CD.pen,PD.mk.injEq]at hp ⊢
  exact⟨by rw[e1.2.2.1,e2.2.2.1];exact hp.1,by rw[e1.2.2.2.1,e2.2.2.2.1];exact hp.2.1,by rw[e1.2.2.2.2,e2.2.2.2.2];exact hp.2.2.1,h2 _ _ hp.2.2.2⟩
 ·rw[jpf f (show l.length-1<l.length by omega),(h _).2.1]
  exact h6
theorem jt4 (f:CD→CD) (L:List CD) (k y:Nat):jax (L.map f) k y=(jax L k y).map f:=by
 unfold jax
 rw[List.map_take,List.map_drop]
theorem jt5 {f:CD→CD}(h:∀c,Alk (f c) c) (h2:∀a b,a.link=b.link→(f a).link=(f b).link){k r:Int}{L:List CD}(hg:jbo k r L=true):jbo k r (L.map f)=true:=by
 unfold jbo at hg ⊢
 simp only[qac,qag,qai,qbh]at hg ⊢
 refine⟨hg.1,fun y hy=>?_⟩
 rw[jt4]
 exact jwX h h2 (hg.2 y hy)
theorem jnK {k r:Int}{L:List CD}(l1 l2:List ByteArray) (hg:jbo k r L=true):jbo k r (undL L l1 l2)=true :=
 jt5 (jt3 l1 l2) (fun a b e=>by
  unfold ulf
  rw[e]
  split
  ·rfl
  ·exact e) hg
theorem jAR {a b:CD}(h:Alk a b) (hb:CWf b) (hl:0≤a.link∧a.link<65536):CWf a:=by
 obtain⟨h1,h2,h3,h4,h5⟩:=h
 exact⟨by rw[h1];exact hb.rune,by rw[h2];exact hb.wide,by rw[h3];exact hb.fg,by rw[h4];exact hb.bg,by rw[h5];exact hb.attrs,hl⟩
theorem jAS {L:List CD}{l1 l2:List ByteArray}(hl2:l2.length≤10000) (hw:∀q∈L,CWf q):∀q∈undL L l1 l2,CWf q:=fun q hq=>by
 obtain⟨c,hc,rfl⟩:=List.mem_map.1 hq
 refine jAR (jt3 l1 l2 c) (hw c hc) ?_
 have h1:=(hw c hc).link
 unfold ulf
 split
 ·have:=jcF l2 (sAt l1 (c.link-1).toNat)
  show 0≤jaq l2 (sAt l1 (c.link-1).toNat)+1∧jaq l2 (sAt l1 (c.link-1).toNat)+1<65536
  omega
 ·exact h1
theorem jt6 (L:List CD) (l1 l2:List ByteArray):(undL L l1 l2).length=L.length:=by simp[undL]
theorem jj5 {k r:Nat}{U:List CD}(h:U.length=k*r):movL k r U 0=U:=by
 unfold movL
 rw[jo6]
 exact jem h
theorem jqr {k r:Nat}{U:List CD}(h:U.length=k*r) (n:Int):(movL k r U n).length=k*r:=by
 unfold movL
 rw[jj0 _ (ji6 (ja1 h) n).row,(ji6 (ja1 h) n).len,qal]
theorem jqs {k r:Nat}{V L2:List CD}(hV:V.length=k*r) (h2:L2.length=k*r):(cpyL k r V L2).length=k*r:=by
 unfold cpyL
 rw[jdO (ja1 hV) (ja1 h2) r (qae _),qal]
theorem jfu (bs:List Int) (h:bs.length<9223372036854775808):(jf8 bs).length≤bs.length+10:=by
 unfold jf8
 rw[qaa]
 have:=jaO bs.length (by omega)
 omega
theorem jqt {l:List ByteArray}(h:∀s∈l,s.size≤64):(texB l).length≤74*l.length:=by
 induction l with
 | nil=>simp[texB]
 | cons s l ih =>
  have h1:=h s (by simp)
  have h2:=ih (fun t ht=>h t (by simp[ht]))
  have h3:=jfu (jac s) (by rw[jay];omega)
  rw[jay]at h3
  unfold texB at h2 ⊢
  rw[qbf,qaa,qab]
  omega
theorem jt7 {l:List ByteArray}{t:Nat}{s:ByteArray}(h:l[t]?=some s):texB (l.take (t+1))=texB (l.take t)++jf8 (jac s):=by
 rw[jav h]
 simp[texB,List.flatMap_append]
theorem jiy (A B:List (List CD)) (r:Nat) (hr:r≤24) (hA:A.length=r):(jj2 (jak A B r).1).length≤500:=by
 have h:=jcG A B r
 have h2:=jbe (jak A B r).1 (fun x hx=>by have:=h.2.2 x hx;omega)
 unfold jj2
 split
 ·simp
 ·rw[qab,qaa]
  have:=jaO ((jak A B r).1.length / 2) (by omega)
  omega
theorem jmD (x1 y1:Nat) (hd1:Bool) (x2 y2:Nat) (hd2:Bool) (hx:x2<80) (hy:y2<80):(curB x1 y1 hd1 x2 y2 hd2).length≤31:=by
 have h2:=jbe [x2,y2,if hd2 then 1 else 0] (fun x hx=>by
  simp at hx
  rcases hx with rfl|rfl|rfl
  ·omega
  ·omega
  ·split<;>omega)
 unfold curB
 split
 ·simp only[qab,qaq]at h2 ⊢
  omega
 ·simp
theorem jmE (t1 t2:ByteArray) (h:t2.size≤64):(titB t1 t2).length≤75:=by
 have h2:=jfu (jac t2) (by rw[jay];omega)
 rw[jay]at h2
 unfold titB
 split
 ·simp
 ·rw[qab]
  omega
theorem jmF (m1 m2:Nat) (h:m2<256):(mouB m1 m2).length≤11:=by
 have h2:=jbe [m2] (fun x hx=>by simp at hx;omega)
 unfold mouB
 split
 ·simp
 ·rw[qab]
  simp only[qab,qaq]at h2
  omega
theorem jqu (l1 l2:List ByteArray) (h:l2.length≤16) (hs:∀s∈l2,s.size≤64):(linB l1 l2).length≤1300:=by
 have h1:=jmB l2 l1
 have h2:=jbe [comK l2 l1,l2.length-comK l2 l1] (fun x hx=>by simp at hx;omega)
 have h3:=jqt (l:=l2.drop (comK l2 l1)) (fun s h=>hs s (qbc h))
 rw[qav]at h3
 unfold linB
 split
 ·simp
 ·rw[qaa,qab]
  simp only[qab,qaq]at h2
  omega
theorem jmG (n:Int) (h:-24≤n∧n≤24):(scrB n).length≤11:=by
 have h2:=jbe [scrN n] (fun x hx=>by simp at hx;subst hx;unfold scrN;split<;>omega)
 unfold scrB
 split
 ·simp
 ·rw[qab]
  simp only[qab,qaq]at h2
  omega
theorem jiz (C W:List CD) (hW:∀q∈W,CWf q) (hl:W.length≤2000):(jbU C W).length≤130100:=by
 have h1:(rem (jaj C W) (jaa W) W.length 0).length≤W.length:=jbC
 have h2:=jhq hW (rem (jaj C W) (jaa W) W.length 0).length 0 (rem (jaj C W) (jaa W) W.length 0) (by omega) (fun x hx=>by
  have:=(jeR (fun i=>(jao W i).1) hx).2.1
  omega)
 have h3:=jaO (layR W (rem (jaj C W) (jaa W) W.length 0).length 0 (rem (jaj C W) (jaa W) W.length 0)).2 (by omega)
 rw[jbU]
 split
 ·simp
 ·rw[qab,qaa]
  omega
theorem jeS {k r i:Nat}(hi:i<k*r):∃y x,i=y*k+x∧y<r∧x<k:=by
 have hk:0<k:=Nat.pos_of_ne_zero fun e=>by rw[e,Nat.zero_mul]at hi;omega
 refine⟨i / k,i % k,?_,Nat.div_lt_of_lt_mul hi,Nat.mod_lt _ hk⟩
 rw[qal]
 exact (Nat.div_add_mod i k).symm
theorem jqv {k r y x:Nat}(hy:y<r) (hx:x<k):y*k+x<k*r:=by
 have h1:(y+1)*k≤k*r:=by rw[qal k r];exact qba _ (by omega)
 rw[qan]at h1
 omega
theorem jgI {L:List CD}{k y x:Nat}(hx:x<k):cAt (jax L k y) x=cAt L (y*k+x):=by
 unfold cAt jax
 rw[List.getD_eq_getElem?_getD,List.getD_eq_getElem?_getD,List.getElem?_take_of_lt hx,List.getElem?_drop]
theorem jnL {c:CD}(h:mayB c=true):0≤c.rune:=by
 unfold mayB at h
 have key:∀v:Int,v≠0→Utf.width c.rune=v→0≤c.rune:=fun v hv e=>by
  unfold Utf.width at e
  by_cases hn:Utf.noWidth c.rune=true
  ·rw[if_pos hn]at e
   exact absurd e.symm hv
  ·unfold Utf.noWidth at hn
   simp only[qbi,decide_eq_true_eq,not_or]at hn
   omega
 simp only[qac,qbi,beq_iff_eq]at h
 rcases h.2 with (h|h)|h
 ·exact key 1 (by omega) h.2
 ·exact key 2 (by omega) h.2
 ·rw[h.2];exact Int.le_refl _
structure RFact (k r:Nat) (L:List CD) (x y mo:Nat) (ti:ByteArray) (l:List ByteArray):Prop where
 k1:1≤k∧k≤80
 r1:1≤r∧r≤24
 len:L.length=k*r
 grid:jbo k r L=true
 links:jbu L l=true
 x1:x<k
 y1:y<r
 mo1:mo≤2
 ti1:ti.size≤64
 l1:l.length≤16
 s64:∀s∈l,s.size≤64
 runes:∀q∈L,0≤q.rune
 lk:∀t∈L,t.link≤(l.length:Int)
 row:∀y,y<r→jcl (jax L k y)=true
theorem jlr {s:ByteArray}(h:jca s=true):s.size≤64:=by
 unfold jca at h
 simp only[qac,decide_eq_true_eq]at h
 exact h.1.2
theorem jj6 {L:List CD}{l:List ByteArray}(h:jbu L l=true):∀s∈l,jca s=true:=fun s hs=>by
 obtain⟨i,hi⟩:=List.getElem?_of_mem hs
 have hl:=(List.getElem?_eq_some_iff.1 hi).1
 unfold jbu at h
 simp only[qac,qag,qai]at h
 have:=h.1.2 i hl
 unfold jgh at this
 rw[jjX hi,qac]at this
 exact this.1
theorem jan {k r:Int}{L:List CD}{x y mo:Int}{ti:ByteArray}{l:List ByteArray}(h:jal k r L x y mo ti l=true) (hm:0≤mo) :
  ∃(K R X Y M:Nat),k=K∧r=R∧x=X∧y=Y∧mo=M∧RFact K R L X Y M ti l:=by
 unfold jal at h
 simp only[qac,decide_eq_true_eq]at h
 obtain⟨⟨⟨⟨⟨⟨⟨⟨h1,h2⟩,h3⟩,h4⟩,h5⟩,h6⟩,h7⟩,h8⟩,h9⟩:=h
 have hg:=h1
 unfold jbo at hg
 simp only[qac,beq_iff_eq,qag,qai]at hg
 obtain⟨⟨g1,g2⟩,g3⟩:=hg
 have g4:=jcb.1 g1
 obtain⟨K,rfl⟩:∃K:Nat,k=K:=⟨k.toNat,by omega⟩
 obtain⟨R,rfl⟩:∃K:Nat,r=K:=⟨r.toNat,by omega⟩
 obtain⟨X,rfl⟩:∃K:Nat,x=K:=⟨x.toNat,by omega⟩
 obtain⟨Y,rfl⟩:∃K:Nat,y=K:=⟨y.toNat,by omega⟩
 obtain⟨M,rfl⟩:∃K:Nat,mo=K:=⟨mo.toNat,by omega⟩
 have hL:L.length=K*R:=by rw[←Int.natCast_mul]at g2;omega
 have hrow:∀y,y<R→jcl (jax L K y)=true:=fun y hy=>g3 y (by omega)
 have hlk:=jj6 h2
 have h2':=h2
 unfold jbu at h2'
 simp only[qac,decide_eq_true_eq]at h2'
 refine⟨K,R,X,Y,M,rfl,rfl,rfl,rfl,rfl,⟨by omega,by omega,hL,h1,h2,by omega,by omega,by omega,h8,h2'.1.1,fun s hs=>jlr (hlk s hs),fun q hq=>?_,fun t ht=>ji4 h2'.2 t ht,hrow⟩⟩
 obtain⟨i,hi⟩:=List.getElem?_of_mem hq
 obtain⟨y,x,e,hy,hx⟩:=jeS (k:=K) (r:=R) (i:=i) (by rw[←hL];exact (List.getElem?_eq_some_iff.1 hi).1)
 have hb:=hrow y hy
 unfold jcl at hb
 simp only[qac,qag,qai]at hb
 have:=((jcE _ _).1 (hb.1.2 x (by rw[jbd hL hy];exact hx))).1
 rw[jgI hx,←e,je7 hi]at this
 exact jnL this
theorem RFact.fit {k r:Nat}{L:List CD}{x y mo:Nat}{ti:ByteArray}{l:List ByteArray}(h:RFact k r L x y mo ti l):∀y x,y<r→x<k→(cAt L (y*k+x)).wide=1→x+1<k:=fun y x hy hx hw=>by
 have hb:=h.row y hy
 unfold jcl at hb
 simp only[qac,bne_iff_ne,ne_eq]at hb
 rcases qar (x+1) k with h1|h1
 ·exact h1
 ·exfalso
  refine hb.2 ?_
  rw[jbd h.len hy,jgI (by omega),show k-1=x by omega]
  exact hw
theorem RFact.at_ {k r:Nat}{L:List CD}{x y mo:Nat}{ti:ByteArray}{l:List ByteArray}(h:RFact k r L x y mo ti l){y x:Nat}(hy:y<r) (hx:x<k) :
  ((0<x∧(cAt L (y*k+(x-1))).wide=1)↔(cAt L (y*k+x)).wide=2):=by
 have hb:=h.row y hy
 unfold jcl at hb
 simp only[qac,qag,qai]at hb
 have:=((jcE _ _).1 (hb.1.2 x (by rw[jbd h.len hy];exact hx))).2.1
 rw[jgI hx,jgI (show x-1<k by omega)]at this
 exact this
theorem RFact.whole {k r:Nat}{L:List CD}{x y mo:Nat}{ti:ByteArray}{l:List ByteArray}(h:RFact k r L x y mo ti l):Whole L:=by
 refine⟨fun i hi hw=>?_,fun i hi hw=>?_⟩
 ·obtain⟨y,x,rfl,hy,hx⟩:=jeS (k:=k) (r:=r) (by rw[←h.len];exact hi)
  have h1:=h.fit y x hy hx hw
  have h2:=(h.at_ hy h1).1 ⟨by omega,by rw[qbe];exact hw⟩
  exact⟨by rw[h.len];exact jqv hy h1,h2⟩
 ·obtain⟨y,x,rfl,hy,hx⟩:=jeS (k:=k) (r:=r) (by rw[←h.len];exact hi)
  have h2:=(h.at_ hy hx).2 hw
  exact⟨by omega,by rw[Nat.add_sub_assoc h2.1];exact h2.2⟩
theorem RFact.wide {k r:Nat}{L:List CD}{x y mo:Nat}{ti:ByteArray}{l:List ByteArray}(h:RFact k r L x y mo ti l):∀i,i<L.length→i+jaa L i≤L.length:=fun i hi=>h.whole.fits hi
theorem jAT {k r:Nat}{L:List CD}(hL:L.length=k*r) (hk:1≤k) (m:Int){i:Nat}(hi:i<k*r):cAt (jbi (jat L k r) m).flatten i=jfd L (i+m*k):=by
 obtain⟨y,x,rfl,hy,hx⟩:=jeS hi
 have hR:=ja1 (k:=k) (r:=r) hL
 have hS:=ji6 hR m
 unfold cAt
 rw[List.getD_eq_getElem?_getD,jqm _ hS.row y x (by rw[hS.len];exact hy) hx,←List.getD_eq_getElem?_getD]
 have hm:mAt (jbi (jat L k r) m) y=jrU (jat L k r) m y:=jln (by
  unfold jbi
  rw[List.getElem?_map,List.getElem?_range (by rw[jbR];exact hy)]
  rfl)
 rw[hm]
 unfold jrU jfd
 rw[jbR,hL]
 have e:((y*k+x:Nat):Int)+m*k=((y:Int)+m)*k+x:=by
  rw[Int.add_mul]
  push_cast
  omega
 rw[e]
 have hkk:(0:Int)<k:=by omega
 by_cases hc:0≤(y:Int)+m∧(y:Int)+m<r
 ·obtain⟨z,hz⟩:∃z:Nat,(y:Int)+m=z:=⟨((y:Int)+m).toNat,by omega⟩
  have hzr:z<r:=by omega
  rw[if_pos hc,hz,Int.toNat_natCast,jcz hzr]
  have h2:=jqv (k:=k) hzr hx
  have e2:((z:Int)*k+x)=((z*k+x:Nat):Int):=by push_cast;omega
  rw[e2,if_pos (by omega),Int.toNat_natCast]
  exact jgI hx
 ·rw[if_neg hc,jcz hy,jbd hL hy]
  have h3:¬(0≤((y:Int)+m)*k+x∧((y:Int)+m)*k+x<((k*r:Nat):Int)):=by
   rintro⟨a,b⟩
   refine hc ⟨?_,?_⟩
   ·rcases Int.lt_or_le ((y:Int)+m) 0 with hn|hn
    ·have:((y:Int)+m)*k≤(-1)*k:=Int.mul_le_mul_of_nonneg_right (by omega) (by omega)
     omega
    ·exact hn
   ·rcases Int.lt_or_le ((y:Int)+m) r with hn|hn
    ·exact hn
    ·have h4:(r:Int)*k≤((y:Int)+m)*k:=Int.mul_le_mul_of_nonneg_right hn (by omega)
     rw[Int.natCast_mul,Int.mul_comm (k:Int)]at b
     omega
  rw[if_neg h3,List.getD_eq_getElem?_getD,List.getElem?_replicate,if_pos hx]
  rfl
def jah (k r:Nat):List CD:=qah (k*r) blank0
def jt8 (k r:Nat) (L:List CD) (x y:Nat) (hd:Bool) (mo:Nat) (ti:ByteArray) (l:List ByteArray):List Int :=
 (1::jar [k,r])++jga k r (jah k r) 0 0 false 0 ⟨#[]⟩ [] L x y hd mo ti l
def jdy (k r:Int) (L:List CD) (x y:Int) (hd:Bool) (mo:Int) (ti:ByteArray) (l:List ByteArray):List Int :=
 if jal k r L x y mo ti l then jt8 k.toNat r.toNat L x.toNat y.toNat hd mo.toNat ti l else []
def errN (b:Bool):Int:=if b then 0 else 1
theorem jj7 {k r:Nat}{L1:List CD}{x1 y1:Nat}{hd1:Bool}{m1:Nat}{t1:ByteArray}{l1:List ByteArray}{L2:List CD}{x2 y2:Nat}{hd2:Bool}{m2:Nat}{t2:ByteArray}{l2:List ByteArray}
  (h1:L1.length=k*r) (hk:k≤80) (hr:1≤r∧r≤24) (h2:L2.length=k*r) (hw:∀q∈L2,CWf q) (hx:x2<80) (hy:y2<80) (hm:m2<256) (ht:t2.size≤64) (hl:l2.length≤16) (hs:∀s∈l2,s.size≤64) :
  (jga k r L1 x1 y1 hd1 m1 t1 l1 L2 x2 y2 hd2 m2 t2 l2).length≤133000:=by
 have hkr:k*r≤80*24:=Nat.mul_le_mul hk hr.2
 have e1:=jmD x1 y1 hd1 x2 y2 hd2 hx hy
 have e2:=jmE t1 t2 ht
 have e3:=jmF m1 m2 hm
 have e4:=jqu l1 l2 hl hs
 have hu:=jt2 k r hr.1 (undL L1 l1 l2) L2
 have e5:=jmG (upN k r (undL L1 l1 l2) L2) (by omega)
 have e6:=jiy (jat (movL k r (undL L1 l1 l2) (upN k r (undL L1 l1 l2) L2)) k r) (jat L2 k r) r hr.2 (jbR _ _ _)
 have e7:=jiz (cpyL k r (movL k r (undL L1 l1 l2) (upN k r (undL L1 l1 l2) L2)) L2) L2 hw (by omega)
 unfold jga jr0 celB
 simp only[qaa]
 omega
theorem jiA {k r:Nat}(hk:1≤k∧k≤80) (hr:1≤r∧r≤24):jbo k r (jah k r)=true:=by
 have hL:(jah k r).length=k*r:=by simp[jah]
 unfold jbo
 simp only[qac,qag,qai,beq_iff_eq]
 refine⟨⟨jcb.2 (by omega),by rw[hL];simp⟩,fun y hy=>?_⟩
 have hy':y<r:=by omega
 rw[Int.toNat_natCast]
 have hlen:=jbd hL hy'
 have hat:∀i,i<k→cAt (jax (jah k r) k y) i=blank0:=fun i hi=>by
  obtain⟨q,hq⟩:∃q,(jax (jah k r) k y)[i]?=some q:=⟨_,List.getElem?_eq_getElem (by omega)⟩
  rw[je7 hq]
  exact List.eq_of_mem_replicate (jej (List.mem_of_getElem? hq))
 have hm:mayB blank0=true:=by decide +kernel
 unfold jcl
 simp only[qac,decide_eq_true_eq,qag,qai,bne_iff_ne,ne_eq]
 rw[hlen]
 refine⟨⟨⟨hk.1,hk.2⟩,fun i hi=>?_⟩,?_⟩
 ·rw[jcE,hat i hi,hat (i-1) (by omega)]
  exact⟨hm,by simp,fun _ _=>rfl⟩
 ·rw[hat (k-1) (by omega)]
  decide
def encI (k1 r1:Int) (L1:List CD) (x1 y1:Int) (hd1:Bool) (mo1:Int) (ti1:ByteArray) (l1:List ByteArray) (k2 r2:Int) (L2:List CD) (x2 y2:Int) (hd2:Bool) (mo2:Int) (ti2:ByteArray) (l2:List ByteArray):List Int :=
 if (jal k1 r1 L1 x1 y1 mo1 ti1 l1)&&(jal k2 r2 L2 x2 y2 mo2 ti2 l2) then (if k1=k2∧r1=r2 then jga k1.toNat r1.toNat L1 x1.toNat y1.toNat hd1 mo1.toNat ti1 l1 L2 x2.toNat y2.toNat hd2 mo2.toNat ti2 l2 else jdy k2 r2 L2 x2 y2 hd2 mo2 ti2 l2) else []
theorem jpg (l:List ByteArray) (n:Nat):jab l (qah n blank0)=[]:=by
 induction n with
 | zero=>rfl
 | succ n ih =>
  rw[qbb,jaN,ih]
  unfold jbA
  rw[if_neg (fun e=>(jhl e.1).1 rfl)]
theorem jj8 (l m:List ByteArray) (n:Nat):(qah n blank0).map (jaH l m)=qah n blank0:=by
 have h:jaH l m blank0=blank0:=by
  unfold jaH jcm
  rw[if_pos (by unfold jaw;rw[if_pos (.inl rfl)])]
  rfl
 rw[List.map_replicate,h]
theorem jnM:CWf blank0:=⟨by decide,by decide,by decide,by decide,by decide,by decide⟩
end
end Go.Proofs.YtienkkicehmchaaGreatDoor
