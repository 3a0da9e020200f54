/- Texts of this claim, merged by a program of this claim: DiffM2. -/
import Derived.Test.YtcfkfgkndncanaaGreatDoorMs20
namespace Go.Proofs.YtcfkfgkndncanaaGreatDoor
set_option linter.unusedVariables false
set_option linter.unusedSimpArgs false
section
open Go.RowKit
set_option maxRecDepth 100000
set_option maxHeartbeats 4000000
theorem jdD {L:List CD}{k r y:Nat}(hy:y<r):mAt (jam L k r) y=jaY L k y:=jkH (by simp[jam,hy])
theorem jbk {L:List CD}{k r:Nat}(hL:L.length=k*r):Rect (jam L k r) k r:=by
 refine⟨jbD L k r,fun l hl=>?_⟩
 obtain⟨y,hy,rfl⟩:=List.mem_map.1 hl
 exact jcl hL (List.mem_range.1 hy)
theorem jkL (L:List CD) (k:Nat):∀y,((List.range y).map (jaY L k)).flatten=L.take (y*k)
 | 0=>by simp
 | y+1=>by
  rw[jbZ,List.flatten_append,jkL L k y,Nat.succ_mul,List.take_add]
  simp[jaY]
theorem jds {L:List CD}{k r:Nat}(hL:L.length=k*r):(jam L k r).flatten=L:=by
 unfold jam
 rw[jkL,List.take_of_length_le (by rw[hL,Nat.mul_comm];exact Nat.le_refl _)]
section
def scrG (M:List (List CD)) (top bot:Nat) (m:Int) (p:PD) (y:Nat):List CD :=
 if top≤y∧y≤bot then (if (top:Int)≤(y:Int)+m∧(y:Int)+m≤bot then mAt M ((y:Int)+m).toNat else List.replicate (mAt M y).length (jeU p)) else mAt M y
def jdt (M:List (List CD)) (top bot:Nat) (m:Int) (p:PD):List (List CD):=(List.range M.length).map (scrG M top bot m p)
theorem jsh {M:List (List CD)}{k r:Nat}(h:Rect M k r){top bot:Nat}{m:Int}{p:PD}(hb:bot<r){y:Nat}(hy:y<r):(scrG M top bot m p y).length=k:=by
 unfold scrG
 have h0:=(h.at_ hy).1
 by_cases h1:top≤y∧y≤bot
 ·rw[if_pos h1]
  by_cases h2:(top:Int)≤(y:Int)+m∧(y:Int)+m≤bot
  ·rw[if_pos h2]
   exact (h.at_ (show ((y:Int)+m).toNat<r by omega)).1
  ·rw[if_neg h2,List.length_replicate,h0]
 ·rw[if_neg h1,h0]
def jeH (L:List CD) (k r top bot:Nat) (m:Int) (p:PD) (y:Nat):List CD:=((List.range y).map (scrG (jam L k r) top bot m p)).flatten++L.drop (y*k)
variable {L:List CD}{k r top bot:Nat}{m:Int}{p:PD}
theorem je6 (hL:L.length=k*r) (hb:bot<r):∀{y:Nat},y≤r→((List.range y).map (scrG (jam L k r) top bot m p)).flatten.length=y*k
 | 0,_=>by simp
 | y+1,h=>by
  rw[jbZ,List.flatten_append,List.length_append,je6 hL hb (by omega)]
  simp only[List.flatten_cons,List.flatten_nil,List.append_nil]
  rw[jsh (jbk hL) hb (by omega),Nat.succ_mul]
theorem joS (hL:L.length=k*r) (hb:bot<r){y:Nat}(hy:y≤r):(jeH L k r top bot m p y).length=L.length:=by
 unfold jeH
 rw[List.length_append,je6 hL hb hy,List.length_drop,hL,Nat.mul_comm k r]
 have:=Nat.mul_le_mul_right k hy
 omega
theorem jqx (ht:top≤r):jeH L k r top bot m p top=L:=by
 unfold jeH
 have e:(List.range top).map (scrG (jam L k r) top bot m p)=(List.range top).map (jaY L k):=by
  refine List.map_congr_left fun y hy=>?_
  have hy:=List.mem_range.1 hy
  unfold scrG
  rw[if_neg (by omega),jdD (by omega)]
 rw[e,jkL,List.take_append_drop]
theorem jtp {y:Nat}(hy:y<r) (h:¬(top≤y∧y≤bot)) (hL:L.length=k*r):jeH L k r top bot m p (y+1)=jeH L k r top bot m p y:=by
 unfold jeH
 rw[jbZ,List.flatten_append,List.append_assoc]
 congr 1
 unfold scrG
 rw[if_neg h,jdD hy]
 simp only[List.flatten_cons,List.flatten_nil,List.append_nil]
 unfold jaY
 rw[Nat.succ_mul,←List.drop_drop,List.take_append_drop]
theorem joT (hL:L.length=k*r) (hb:bot<r) (ht:top≤bot):jeH L k r top bot m p (bot+1)=(jdt (jam L k r) top bot m p).flatten:=by
 have key:∀d,bot+1+d≤r→jeH L k r top bot m p (bot+1+d)=jeH L k r top bot m p (bot+1):=fun d=>by
  induction d with
  | zero=>exact fun _=>rfl
  | succ d ih =>
   intro h
   rw[show bot+1+(d+1)=(bot+1+d)+1 by omega,jtp (by omega) (by omega) hL,ih (by omega)]
 rw[←key (r-(bot+1)) (by omega),show bot+1+(r-(bot+1))=r by omega]
 unfold jeH jdt
 rw[List.drop_of_length_le (by rw[hL,Nat.mul_comm];exact Nat.le_refl _),List.append_nil,jbD]
theorem jmg (hL:L.length=k*r) (hb:bot<r){y:Nat}(hy:y<r) (ys:List CD) (h:ys=scrG (jam L k r) top bot m p y) :
  (jeH L k r top bot m p y).take (y*k)++ys++(jeH L k r top bot m p y).drop (y*k+ys.length)=jeH L k r top bot m p (y+1):=by
 have hl:=je6 (top:=top) (m:=m) (p:=p) hL hb (Nat.le_of_lt hy)
 have hys:ys.length=k:=by rw[h];exact jsh (jbk hL) hb hy
 unfold jeH
 rw[←hl,List.take_left,jbZ,List.flatten_append,←h,hl,hys]
 simp only[List.flatten_cons,List.flatten_nil,List.append_nil]
 congr 1
 rw[←hl,←List.drop_drop,List.drop_left,List.drop_drop,hl,Nat.succ_mul]
theorem jqy {L:List CD}{k r:Nat}(hr:1≤r) (m:Int):jdt (jam L k r) 0 (r-1) m pen0=jcf (jam L k r) m:=by
 unfold jdt jcf
 refine List.map_congr_left fun y hy=>?_
 have hy:=List.mem_range.1 hy
 rw[jbD]at hy
 unfold scrG jto
 rw[if_pos (by omega),jbD]
 by_cases h:0≤(y:Int)+m∧(y:Int)+m<r
 ·rw[if_pos (by omega),if_pos h]
 ·rw[if_neg (by omega),if_neg h]
  rfl
theorem jtq {M:List (List CD)}{top bot:Nat}{m c:Int}{p:PD}{y:Nat}(ht:top≤bot) (hc:c=max (-((bot:Int)-top+1)) (min m ((bot:Int)-top+1))):scrG M top bot c p y=scrG M top bot m p y:=by
 unfold scrG
 by_cases h:top≤y∧y≤bot
 ·rw[if_pos h,if_pos h]
  by_cases h2:(top:Int)≤(y:Int)+m∧(y:Int)+m≤bot
  ·rw[if_pos (by omega),if_pos h2,show c=m by omega]
  ·rw[if_neg (by omega),if_neg h2]
 ·rw[if_neg h,if_neg h]
theorem jnx {M:List (List CD)}{top bot:Nat}{m c:Int}{p:PD}(ht:top≤bot) (hc:c=max (-((bot:Int)-top+1)) (min m ((bot:Int)-top+1))):jdt M top bot c p=jdt M top bot m p:=by
 unfold jdt
 exact List.map_congr_left fun y _=>jtq ht hc
def jny (S:List CD) (y k:Nat) (b:CD) (x:Nat):List CD:=S.take (y*k)++List.replicate x b++S.drop (y*k+x)
theorem jtr (S:List CD) (y k:Nat) (b:CD):jny S y k b 0=S:=by simp[jny]
theorem jv7 {S:List CD}{y k x:Nat}{b:CD}(h:y*k+x≤S.length):(jny S y k b x).length=S.length:=by
 simp[jny]
 omega
theorem jv8 {S:List CD}{y k x:Nat}{b:CD}(h:y*k+x<S.length):(jny S y k b x).set (y*k+x) b=jny S y k b (x+1):=by
 have hl:(S.take (y*k)++List.replicate x b).length=y*k+x:=by simp;omega
 unfold jny
 rw[List.set_append_right _ _ (by rw[hl];exact Nat.le_refl _),hl,Nat.sub_self,List.replicate_succ',←List.append_assoc,List.append_assoc (S.take (y*k)++List.replicate x b)]
 congr 1
 rw[List.drop_eq_getElem_cons h]
 rfl
end
def jgM (A B:List (List CD)) (y:Nat):Nat→Option Nat
 | 0=>none
 | z+1=>(jgM A B y z).or (if mAt A z=mAt B y then some z else none)
def jb3 (A B:List (List CD)) (y:Nat):List CD:=if (jgM A B y A.length).isSome then mAt B y else mAt A y
def jau (A B:List (List CD)):Nat→List Nat×Nat
 | 0=>([],0)
 | y+1=>if mAt A y=mAt B y then jau A B y else match jgM A B y A.length with
  | none=>jau A B y
  | some z=>((jau A B y).1++[y-(jau A B y).2,z],y+1)
theorem jgG {A B:List (List CD)}{y:Nat}:∀{n:Nat},(∀z,z<n→mAt A z≠mAt B y)→jgM A B y n=none
 | 0,h=>rfl
 | n+1,h=>by
  rw[jgM,jgG (fun z hz=>h z (by omega)),if_neg (h n (by omega))]
  rfl
theorem jiD {A B:List (List CD)}{y z:Nat}(h0:∀x,x<z→mAt A x≠mAt B y) (h1:mAt A z=mAt B y):∀{n:Nat},z<n→jgM A B y n=some z
 | 0,h=>by omega
 | n+1,h=>by
  rw[jgM]
  rcases (show z<n∨z=n by omega)with h2|rfl
  ·rw[jiD h0 h1 h2]
   rfl
  ·rw[jgG h0,if_pos h1]
   rfl
theorem jc2 (A B:List (List CD)):∀y,(jau A B y).2≤y∧(jau A B y).1.length≤2*y∧∀x∈(jau A B y).1,x≤y+A.length
 | 0=>⟨Nat.le_refl _,Nat.le_refl _,fun x h=>by cases h⟩
 | y+1=>by
  have ih:=jc2 A B y
  have hz:∀n z,jgM A B y n=some z→z<n:=by
   intro n
   induction n with
   | zero=>intro z h;cases h
   | succ n ih =>
    intro z h
    rw[jgM]at h
    cases hf:jgM A B y n with
    | none =>
     rw[hf]at h
     simp only[Option.none_or]at h
     split at h
     ·injection h with h;omega
     ·cases h
    | some q =>
     rw[hf]at h
     simp only[Option.some_or]at h
     injection h with h
     have:=ih q hf
     omega
  rw[jau]
  split
  ·exact⟨by omega,by omega,fun x hx=>by have:=ih.2.2 x hx;omega⟩
  ·split
   ·exact⟨by omega,by omega,fun x hx=>by have:=ih.2.2 x hx;omega⟩
   ·rename_i z hzz
    have hzl:=hz _ _ hzz
    refine⟨Nat.le_refl _,by simp;omega,fun x hx=>?_⟩
    simp only[List.mem_append,List.mem_cons,List.not_mem_nil,or_false]at hx
    rcases hx with hx|hx|hx
    ·have:=ih.2.2 x hx;omega
    ·omega
    ·omega
theorem jdu (A B:List (List CD)):∀y,(jau A B y).1.length % 2=0
 | 0=>rfl
 | y+1=>by
  have ih:=jdu A B y
  rw[jau]
  split
  ·exact ih
  ·split
   ·exact ih
   ·simp;omega
def jcA (A B:List (List CD)) (y:Nat):List CD:=((List.range y).map (jb3 A B)).flatten++(A.drop y).flatten
def jjq (l:List Nat):List Int:=if l=[] then [] else (7:Int)::(varN (l.length / 2)++jbc l)
theorem jdv {A B:List (List CD)}{y:Nat}(hy:y<A.length) (h:jb3 A B y=mAt A y):jcA A B (y+1)=jcA A B y:=by
 unfold jcA
 rw[jbZ,List.flatten_append,h]
 have hd:A.drop y=mAt A y::A.drop (y+1):=by rw[List.drop_eq_getElem_cons hy,jkH (List.getElem?_eq_getElem hy)]
 rw[hd,List.flatten_cons]
 simp
theorem jmh {A B:List (List CD)}{k r y:Nat}(hA:Rect A k r) (hB:Rect B k r) (hy:y<r):(jb3 A B y).length=k:=by
 unfold jb3
 split
 ·exact (hB.at_ hy).1
 ·exact (hA.at_ hy).1
theorem jeX {A B:List (List CD)}{k r:Nat}(hA:Rect A k r) (hB:Rect B k r):∀y,y≤r→(((List.range y).map (jb3 A B)).flatten).length=y*k
 | 0,h=>by simp
 | y+1,h=>by
  rw[jbZ,List.flatten_append,List.length_append,jeX hA hB y (by omega),Nat.succ_mul]
  simp[jmh hA hB (show y<r by omega)]
theorem jts {A B:List (List CD)}{k r y:Nat}(hA:Rect A k r) (hB:Rect B k r) (hy:y≤r):(jcA A B y).length=r*k:=by
 unfold jcA
 rw[List.length_append,jeX hA hB y hy,jgm (A.drop y) (fun l hl=>hA.row l (List.mem_of_mem_drop hl)),List.length_drop,hA.len,←Nat.add_mul]
 congr 1
 omega
theorem jkM {A B:List (List CD)}{k r y:Nat}(hA:Rect A k r) (hB:Rect B k r) (hy:y<r) (h:jb3 A B y=mAt B y) :
  (jcA A B y).take (y*k)++mAt B y++(jcA A B y).drop (y*k+(mAt B y).length)=jcA A B (y+1):=by
 have h1:=jeX hA hB y (by omega)
 have hd:A.drop y=mAt A y::A.drop (y+1):=by rw[List.drop_eq_getElem_cons (by rw[hA.len];exact hy),jkH (List.getElem?_eq_getElem (by rw[hA.len];exact hy))]
 have hl:=(hA.at_ hy).1
 have hb:=(hB.at_ hy).1
 unfold jcA
 rw[List.take_append_of_le_length (by rw[h1];exact Nat.le_refl _),List.take_of_length_le (by rw[h1];exact Nat.le_refl _),jbZ,List.flatten_append,h,hd,List.flatten_cons,hb,←h1,←List.drop_drop,List.drop_left,←hl,List.drop_left]
 simp
theorem jfS {A B:List (List CD)}{y:Nat}(hy:y<A.length) (h:mAt A y=mAt B y):jb3 A B y=mAt A y:=by
 unfold jb3
 split
 ·exact h.symm
 ·rfl
theorem jqz {A B:List (List CD)}{y:Nat}(h:∀z,z<A.length→mAt A z≠mAt B y):jb3 A B y=mAt A y:=by
 unfold jb3
 rw[jgG h]
 rfl
theorem jqA {A B:List (List CD)}{y z:Nat}(h0:∀x,x<z→mAt A x≠mAt B y) (h1:mAt A z=mAt B y) (hz:z<A.length):jb3 A B y=mAt B y:=by
 unfold jb3
 rw[jiD h0 h1 hz]
 rfl
def jag (W:List CD) (i:Nat):Nat:=if (cAt W i).wide=1 then 2 else 1
theorem ja3 (W:List CD) (i:Nat):1≤jag W i∧jag W i≤2:=by unfold jag;split<;>omega
def jbe (C W:List CD) (i:Nat):Bool:=!decide ((C.drop i).take (jag W i)=(W.drop i).take (jag W i))
def remF (oth:Nat→Bool) (wd:Nat→Nat) (N:Nat):Nat→Nat→List Nat
 | 0,_=>[]
 | f+1,i=>if i<N then (if oth i then [i] else [])++remF oth wd N f (i+wd i) else []
def rem (oth:Nat→Bool) (wd:Nat→Nat) (N i:Nat):List Nat:=remF oth wd N (N-i) i
theorem jkN {oth:Nat→Bool}{wd:Nat→Nat}{N:Nat}(hw:∀i,1≤wd i):∀(f g i:Nat),N-i≤f→N-i≤g→remF oth wd N f i=remF oth wd N g i
 | 0,0,i,_,_=>rfl
 | 0,g+1,i,h,_=>by rw[remF,remF,if_neg (by omega)]
 | f+1,0,i,_,h=>by rw[remF,remF,if_neg (by omega)]
 | f+1,g+1,i,h1,h2=>by
  rw[remF,remF]
  split
  ·have:=hw i
   rw[jkN hw f g (i+wd i) (by omega) (by omega)]
  ·rfl
theorem jeY {oth:Nat→Bool}{wd:Nat→Nat}{N i:Nat}(hw:∀i,1≤wd i) (hi:i<N):rem oth wd N i=(if oth i then [i] else [])++rem oth wd N (i+wd i):=by
 obtain⟨f,hf⟩:∃f,N-i=f+1:=⟨N-i-1,by omega⟩
 have:=hw i
 unfold rem
 rw[hf,remF,if_pos hi,jkN hw f (N-(i+wd i)) (i+wd i) (by omega) (Nat.le_refl _)]
theorem jiE {oth:Nat→Bool}{wd:Nat→Nat}{N i:Nat}(hi:N≤i):rem oth wd N i=[]:=by
 unfold rem
 rw[show N-i=0 by omega]
 rfl
theorem jsi {oth:Nat→Bool}{wd:Nat→Nat}{N:Nat}(hw:∀i,1≤wd i):∀(f i:Nat),∀x∈remF oth wd N f i,i≤x∧x<N∧oth x=true
 | 0,i,x,h=>by cases h
 | f+1,i,x,h=>by
  rw[remF]at h
  split at h
  ·rename_i hi
   rcases List.mem_append.1 h with h|h
   ·split at h
    ·rw[List.mem_singleton]at h
     subst h
     rename_i ho
     exact⟨Nat.le_refl _,hi,ho⟩
    ·cases h
   ·have h1:=jsi hw f _ x h
    have h2:=hw i
    exact⟨by omega,h1.2.1,h1.2.2⟩
  ·cases h
theorem jkO {oth:Nat→Bool}{wd:Nat→Nat}{N i x:Nat}(hw:∀i,1≤wd i) (h:x∈rem oth wd N i):i≤x∧x<N∧oth x=true:=jsi hw _ _ x h
theorem jnz {oth:Nat→Bool}{wd:Nat→Nat}{N:Nat}:∀(f i:Nat),(remF oth wd N f i).length≤f
 | 0,i=>Nat.le_refl _
 | f+1,i=>by
  rw[remF]
  split
  ·rw[List.length_append]
   have:=jnz (oth:=oth) (wd:=wd) (N:=N) f (i+wd i)
   split<;>simp<;>omega
  ·simp
theorem jhi {oth:Nat→Bool}{wd:Nat→Nat}{N i:Nat}:(rem oth wd N i).length≤N:=Nat.le_trans (jnz _ _) (by omega)
def runP (W:List CD) (p:PD):Nat→List Nat→List Nat×Nat×List Nat
 | e,[]=>([],e,[])
 | e,x::l=>if x=e∧(cAt W x).pen=p then ((x::(runP W p (e+jag W x) l).1),(runP W p (e+jag W x) l).2) else ([],e,x::l)
theorem jfT (W:List CD) (p:PD):∀(l:List Nat) (e:Nat),(runP W p e l).1.length+(runP W p e l).2.2.length=l.length
 | [],e=>rfl
 | x::l,e=>by
  rw[runP]
  split
  ·have:=jfT W p l (e+jag W x)
   simp only[List.length_cons]
   omega
  ·simp
theorem jnA (W:List CD) (p:PD):∀(l:List Nat) (e:Nat),(runP W p e l).1++(runP W p e l).2.2=l
 | [],e=>rfl
 | x::l,e=>by
  rw[runP]
  split
  ·have:=jnA W p l (e+jag W x)
   simp only[List.cons_append,this]
  ·simp
theorem jft (W:List CD) (x:Nat) (l:List Nat):(runP W (cAt W x).pen x (x::l)).1=x::(runP W (cAt W x).pen (x+jag W x) l).1∧(runP W (cAt W x).pen x (x::l)).2=(runP W (cAt W x).pen (x+jag W x) l).2:=by
 rw[runP,if_pos ⟨rfl,rfl⟩]
 exact⟨rfl,rfl⟩
def jeI (W:List CD) (l:List Nat):List Int:=l.flatMap fun x=>varN (cAt W x).rune.toNat
def penN (p:PD):List Nat:=[p.fg.toNat,p.bg.toNat,p.attrs.toNat,p.link.toNat]
def layR (W:List CD):Nat→Nat→List Nat→List Int×Nat
 | 0,_,_=>([],0)
 | f+1,bh,[]=>([],0)
 | f+1,bh,x::l=>(jbc ([x-bh,(runP W (cAt W x).pen x (x::l)).1.length]++penN (cAt W x).pen)++(jeI W (runP W (cAt W x).pen x (x::l)).1++(layR W f (runP W (cAt W x).pen x (x::l)).2.1 (runP W (cAt W x).pen x (x::l)).2.2).1),(layR W f (runP W (cAt W x).pen x (x::l)).2.1 (runP W (cAt W x).pen x (x::l)).2.2).2+1)
theorem jgH (W:List CD) (f bh:Nat):layR W f bh []=([],0):=by cases f<;>rfl
theorem jfU (W:List CD):∀(f g bh:Nat) (l:List Nat),l.length≤f→l.length≤g→layR W f bh l=layR W g bh l
 | _,_,bh,[],_,_=>by rw[jgH,jgH]
 | 0,_,bh,x::l,h,_=>by simp at h
 | f+1,0,bh,x::l,_,h=>by simp at h
 | f+1,g+1,bh,x::l,h1,h2=>by
  have hh:=(jft W x l).1
  have hl:=jfT W (cAt W x).pen (x::l) x
  rw[hh]at hl
  simp only[List.length_cons]at hl h1 h2
  rw[layR,layR,jfU W f g _ (runP W (cAt W x).pen x (x::l)).2.2 (by omega) (by omega)]
theorem jv9 {n:Nat}(h:n<34359738368):(varN n).length≤5:=jgF n 4 (by omega)
theorem jkP {W:List CD}(hW:∀q∈W,CWf q):∀l:List Nat,(jeI W l).length≤5*l.length
 | []=>by simp[jeI]
 | x::l=>by
  have ih:=jkP hW l
  have h1:(varN (cAt W x).rune.toNat).length≤5:=jv9 (by
   rcases Nat.lt_or_ge x W.length with h|h
   ·have:=(hW (cAt W x) (by rw[jgV (List.getElem?_eq_getElem h)];exact List.getElem_mem h)).rune
    omega
   ·have:cAt W x=default:=by unfold cAt;rw[List.getD_eq_getElem?_getD,List.getElem?_eq_none h];rfl
    rw[this]
    decide)
  simp only[jeI,List.flatMap_cons,List.length_append,List.length_cons]at ih ⊢
  omega
theorem jCc {W:List CD}(hW:∀q∈W,CWf q) (x:Nat):CWf (cAt W x):=by
 rcases Nat.lt_or_ge x W.length with h|h
 ·exact hW (cAt W x) (by rw[jgV (List.getElem?_eq_getElem h)];exact List.getElem_mem h)
 ·have:cAt W x=default:=by unfold cAt;rw[List.getD_eq_getElem?_getD,List.getElem?_eq_none h];rfl
  rw[this]
  exact⟨by decide,by decide,by decide,by decide,by decide,by decide⟩
theorem jqB {W:List CD}(hW:∀q∈W,CWf q){x bh n:Nat}(h1:x≤100000) (h2:n≤100000):∀y∈[x-bh,n]++penN (cAt W x).pen,y<9223372036854775808:=by
 have hw:=jCc hW x
 have:=hw.fg
 have:=hw.bg
 have:=hw.attrs
 have:=hw.link
 intro y hy
 simp[penN,CD.pen]at hy
 omega
theorem jgI {W:List CD}(hW:∀q∈W,CWf q):∀(f bh:Nat) (l:List Nat),l.length≤100000→(∀x∈l,x≤100000)→(layR W f bh l).1.length≤65*l.length∧(layR W f bh l).2≤l.length
 | _,_,[],_,_=>by simp[jgH]
 | 0,_,x::l,_,_=>by simp[layR]
 | f+1,bh,x::l,hl,hx=>by
  have hh:=(jft W x l).1
  have ha:=jnA W (cAt W x).pen (x::l) x
  have hc:=jfT W (cAt W x).pen (x::l) x
  have ih:=jgI hW f (runP W (cAt W x).pen x (x::l)).2.1 (runP W (cAt W x).pen x (x::l)).2.2 (by omega) (fun y hy=>hx y (by rw[←ha];exact List.mem_append.2 (.inr hy)))
  have h1:=jkP hW (runP W (cAt W x).pen x (x::l)).1
  have h3:1≤(runP W (cAt W x).pen x (x::l)).1.length:=by rw[hh];simp
  have h2:=jcm ([x-bh,(runP W (cAt W x).pen x (x::l)).1.length]++penN (cAt W x).pen) (jqB hW (hx x (by simp)) (by omega))
  have h4:([x-bh,(runP W (cAt W x).pen x (x::l)).1.length]++penN (cAt W x).pen).length=6:=by simp[penN]
  rw[h4]at h2
  rw[layR]
  simp only[List.length_append]at h2 ⊢
  omega
def jcX (C W:List CD):List Int :=
 let l:=rem (jbe C W) (jag W) W.length 0
 let q:=layR W l.length 0 l
 if q.2=0 then [] else (8:Int)::(varN q.2++q.1)
theorem joU {W:List CD}{p:PD}{e:Nat}:∀{l:List Nat},(∀x,l.head?=some x→x=e→(cAt W x).pen≠p)→runP W p e l=([],e,l)
 | [],h=>rfl
 | x::l,h=>by
  rw[runP,if_neg]
  rintro⟨h1,h2⟩
  exact h x rfl h1 h2
theorem jqC {W:List CD}{p:PD}{e:Nat}{l:List Nat}(h:(cAt W e).pen=p):runP W p e (e::l)=(e::(runP W p (e+jag W e) l).1,(runP W p (e+jag W e) l).2):=by
 rw[runP,if_pos ⟨rfl,h⟩]
structure Inn (W:List CD) (p:PD) (oth:Nat→Bool) (i j kk:Nat) (rb:List Int):Prop where
 le:i≤j∧j≤W.length
 bytes:rb++jeI W (runP W p j (rem oth (jag W) W.length j)).1=jeI W (runP W p i (rem oth (jag W) W.length i)).1
 num:kk+(runP W p j (rem oth (jag W) W.length j)).1.length=(runP W p i (rem oth (jag W) W.length i)).1.length
 rest:(runP W p j (rem oth (jag W) W.length j)).2=(runP W p i (rem oth (jag W) W.length i)).2
theorem Inn.start {W:List CD}{p:PD}{oth:Nat→Bool}{i:Nat}(h:i≤W.length):Inn W p oth i i 0 []:=⟨⟨Nat.le_refl _,h⟩,rfl,by simp,rfl⟩
theorem Inn.go {W:List CD}{p:PD}{oth:Nat→Bool}{i j kk:Nat}{rb:List Int}(h:Inn W p oth i j kk rb) (hj:j<W.length) (ho:oth j=true) (hp:(cAt W j).pen=p) (hv:j+jag W j≤W.length) :
  Inn W p oth i (j+jag W j) (kk+1) (rb++varN (cAt W j).rune.toNat):=by
 have hr:=jeY (oth:=oth) (fun i=>(ja3 W i).1) hj
 rw[if_pos ho]at hr
 have hg:=jqC (l:=rem oth (jag W) W.length (j+jag W j)) hp
 rw[show [j]++rem oth (jag W) W.length (j+jag W j)=j::rem oth (jag W) W.length (j+jag W j)from rfl]at hr
 refine⟨⟨by have:=h.le;omega,hv⟩,?_,?_,?_⟩
 ·have:=h.bytes
  rw[hr,hg]at this
  rw[←this]
  simp[jeI]
 ·have:=h.num
  rw[hr,hg]at this
  simp only[List.length_cons]at this
  omega
 ·have:=h.rest
  rw[hr,hg]at this
  exact this
theorem Inn.done {W:List CD}{p:PD}{oth:Nat→Bool}{i j kk:Nat}{rb:List Int}(h:Inn W p oth i j kk rb) (hs:¬(j<W.length∧oth j=true∧(cAt W j).pen=p)) :
  rb=jeI W (runP W p i (rem oth (jag W) W.length i)).1∧kk=(runP W p i (rem oth (jag W) W.length i)).1.length∧(runP W p i (rem oth (jag W) W.length i)).2=(j,rem oth (jag W) W.length j):=by
 have hst:runP W p j (rem oth (jag W) W.length j)=([],j,rem oth (jag W) W.length j):=joU (fun x hx he hp=>by
  have hm:=jkO (fun i=>(ja3 W i).1) (List.mem_of_mem_head? hx)
  subst he
  exact hs ⟨hm.2.1,hm.2.2,hp⟩)
 have h1:=h.bytes
 have h2:=h.num
 have h3:=h.rest
 rw[hst]at h1 h2 h3
 refine⟨by simpa[jeI] using h1,by simpa using h2,h3.symm⟩
theorem jwa (W:List CD) (p:PD):∀(l:List Nat) (e:Nat),e≤(runP W p e l).2.1
 | [],e=>Nat.le_refl _
 | x::l,e=>by
  rw[runP]
  split
  ·have:=jwa W p l (e+jag W x)
   exact Nat.le_trans (by omega) this
  ·exact Nat.le_refl _
theorem Inn.far {W:List CD}{oth:Nat→Bool}{i j kk:Nat}{rb:List Int}(h:Inn W (cAt W i).pen oth i j kk rb) (hi:i<W.length) (ho:oth i=true) (hs:¬(j<W.length∧oth j=true∧(cAt W j).pen=(cAt W i).pen)):i<j:=by
 obtain⟨e1,e2,e3⟩:=h.done hs
 have hr:=jeY (oth:=oth) (fun i=>(ja3 W i).1) hi
 rw[if_pos ho]at hr
 obtain⟨l,hl⟩:∃l,rem oth (jag W) W.length i=i::l:=⟨_,hr⟩
 rw[hl,(jft W i l).2]at e3
 have h1:=jwa W (cAt W i).pen l (i+jag W i)
 rw[e3]at h1
 have h2:=(ja3 W i).1
 simp only at h1
 omega
structure Outn (W:List CD) (oth:Nat→Bool) (i bh nn:Nat) (bs:List Int):Prop where
 le:bh≤i∧i≤W.length
 bytes:bs++(layR W W.length bh (rem oth (jag W) W.length i)).1=(layR W W.length 0 (rem oth (jag W) W.length 0)).1
 num:nn+(layR W W.length bh (rem oth (jag W) W.length i)).2=(layR W W.length 0 (rem oth (jag W) W.length 0)).2
theorem Outn.skip {W:List CD}{oth:Nat→Bool}{i bh nn:Nat}{bs:List Int}(h:Outn W oth i bh nn bs) (hi:i<W.length) (ho:oth i=false) (hv:i+jag W i≤W.length):Outn W oth (i+jag W i) bh nn bs:=by
 have hr:=jeY (oth:=oth) (fun i=>(ja3 W i).1) hi
 rw[ho]at hr
 simp only[Bool.false_eq_true,if_false,List.nil_append]at hr
 have h1:=h.bytes
 have h2:=h.num
 rw[hr]at h1 h2
 exact⟨⟨by have:=h.le;omega,hv⟩,h1,h2⟩
theorem Outn.go {W:List CD}{oth:Nat→Bool}{i bh nn j kk:Nat}{bs rb:List Int}(h:Outn W oth i bh nn bs) (hi:i<W.length) (ho:oth i=true) (hin:Inn W (cAt W i).pen oth i j kk rb) (hs:¬(j<W.length∧oth j=true∧(cAt W j).pen=(cAt W i).pen)) :
  Outn W oth j j (nn+1) (bs++jbc ([i-bh,kk]++penN (cAt W i).pen)++rb):=by
 obtain⟨e1,e2,e3⟩:=hin.done hs
 have hr:=jeY (oth:=oth) (fun i=>(ja3 W i).1) hi
 rw[if_pos ho]at hr
 obtain⟨l,hl⟩:∃l,rem oth (jag W) W.length i=i::l:=⟨_,hr⟩
 have hc:=jfT W (cAt W i).pen (i::l) i
 have hh:=(jft W i l).1
 have hlen:(i::l).length≤W.length:=by rw[←hl];exact jhi
 rw[hl]at e1 e2 e3
 have hlay:layR W W.length bh (i::l)=(jbc ([i-bh,kk]++penN (cAt W i).pen)++(rb++(layR W W.length j (rem oth (jag W) W.length j)).1),(layR W W.length j (rem oth (jag W) W.length j)).2+1):=by
  obtain⟨f,hf⟩:∃f,W.length=f+1:=⟨W.length-1,by omega⟩
  have e5:layR W W.length j (rem oth (jag W) W.length j)=layR W f j (rem oth (jag W) W.length j):=by
   have hrl:(rem oth (jag W) W.length j).length≤f:=by
    rw[hh,e3]at hc
    simp only[List.length_cons]at hc hlen
    omega
   exact jfU W _ _ _ _ (by omega) hrl
  rw[e5]
  conv=>lhs;rw[hf]
  rw[layR,←e1,←e2,e3]
 have h1:=h.bytes
 have h2:=h.num
 rw[hl,hlay]at h1 h2
 refine⟨⟨Nat.le_refl _,hin.le.2⟩,?_,?_⟩
 ·rw[←h1]
  simp
 ·simp only at h2
  omega
theorem Outn.done {W:List CD}{oth:Nat→Bool}{i bh nn:Nat}{bs:List Int}(h:Outn W oth i bh nn bs) (hi:W.length≤i):bs=(layR W W.length 0 (rem oth (jag W) W.length 0)).1∧nn=(layR W W.length 0 (rem oth (jag W) W.length 0)).2:=by
 have h1:=h.bytes
 have h2:=h.num
 rw[jiE hi,jgH]at h1 h2
 simp at h1 h2
 exact⟨h1,h2⟩
theorem Outn.small {W:List CD}(hW:∀q∈W,CWf q){oth:Nat→Bool}{i bh nn:Nat}{bs:List Int}(h:Outn W oth i bh nn bs) (hl:W.length≤2000):bs.length≤130000∧nn≤2000:=by
 have hr:(rem oth (jag W) W.length 0).length≤W.length:=jhi
 have h1:=jgI hW W.length 0 (rem oth (jag W) W.length 0) (by omega) (fun x hx=>by have:=jkO (fun i=>(ja3 W i).1) hx;omega)
 have h2:=congrArg List.length h.bytes
 have h3:=h.num
 rw[List.length_append]at h2
 omega
theorem Inn.small {W:List CD}(hW:∀q∈W,CWf q){p:PD}{oth:Nat→Bool}{i j kk:Nat}{rb:List Int}(h:Inn W p oth i j kk rb) (hl:W.length≤2000):rb.length≤10000∧kk≤2000:=by
 have hr:(rem oth (jag W) W.length i).length≤W.length:=jhi
 have hc:=jfT W p (rem oth (jag W) W.length i) i
 have h1:=jkP hW (runP W p i (rem oth (jag W) W.length i)).1
 have h2:=congrArg List.length h.bytes
 have h3:=h.num
 rw[List.length_append]at h2
 omega
theorem jqD (C W:List CD):jcX C W=if (layR W W.length 0 (rem (jbe C W) (jag W) W.length 0)).2=0 then [] else (8:Int)::(varN (layR W W.length 0 (rem (jbe C W) (jag W) W.length 0)).2++(layR W W.length 0 (rem (jbe C W) (jag W) W.length 0)).1):=by
 unfold jcX
 simp only
 rw[jfU W _ W.length 0 _ (Nat.le_refl _) jhi]
structure Whole (W:List CD):Prop where
 left:∀i,i<W.length→(cAt W i).wide=1→i+1<W.length∧(cAt W (i+1)).wide=2
 right:∀i,i<W.length→(cAt W i).wide=2→0<i∧(cAt W (i-1)).wide=1
theorem Whole.fits {W:List CD}(h:Whole W){i:Nat}(hi:i<W.length):i+jag W i≤W.length:=by
 unfold jag
 split
 ·rename_i h1
  have:=(h.left i hi h1).1
  omega
 ·omega
def colP (oth:Nat→Bool) (W:List CD) (i:Nat):Bool:=decide ((cAt W i).wide≠2)&&oth i
def col (oth:Nat→Bool) (W:List CD) (t:Nat):List Nat:=(List.range t).filter (colP oth W)
theorem jAZ {oth:Nat→Bool}{W:List CD}{t x:Nat}(h:x∈col oth W t):x<t:=List.mem_range.1 (List.mem_filter.1 h).1
theorem jA0 {oth:Nat→Bool}{W:List CD}(hW:Whole W):∀(d i:Nat),i+d=W.length→(i<W.length→(cAt W i).wide≠2)→rem oth (jag W) W.length i=(List.range' i d).filter (colP oth W):=by
 intro d
 induction d using Nat.strongRecOn with
 | ind d ih =>
  intro i hi hw
  by_cases h0:i<W.length
  ·rw[jeY (fun i=>(ja3 W i).1) h0]
   have hw2:=hw h0
   have hcp:colP oth W i=oth i:=by unfold colP;rw[decide_eq_true hw2];rfl
   by_cases h1:(cAt W i).wide=1
   ·obtain⟨h3,h4⟩:=hW.left i h0 h1
    have hv:jag W i=2:=by unfold jag;rw[if_pos h1]
    obtain⟨e,rfl⟩:∃e,d=e+2:=⟨d-2,by omega⟩
    have:=ih e (by omega) (i+2) (by omega) (fun h5 h6=>by
     have:=(hW.right (i+2) h5 h6).2
     rw[show i+2-1=i+1 by omega,h4]at this
     exact absurd this (by decide))
    rw[hv,this,List.range'_succ,List.range'_succ,List.filter_cons,List.filter_cons]
    have hc1:colP oth W (i+1)=false:=by unfold colP;rw[h4];rfl
    rw[hcp,hc1]
    cases oth i<;>simp
   ·have hv:jag W i=1:=by unfold jag;rw[if_neg h1]
    obtain⟨e,rfl⟩:∃e,d=e+1:=⟨d-1,by omega⟩
    have:=ih e (by omega) (i+1) (by omega) (fun h5 h6=>by
     have:=(hW.right (i+1) h5 h6).2
     rw[Nat.add_sub_cancel]at this
     exact h1 this)
    rw[hv,this,List.range'_succ,List.filter_cons,hcp]
    cases oth i<;>simp
  ·have:d=0:=by omega
   subst this
   rw[jiE (by omega)]
   rfl
theorem jA1 {oth:Nat→Bool}{W:List CD}(hW:Whole W):rem oth (jag W) W.length 0=col oth W W.length:=by
 rw[jA0 hW W.length 0 (by omega) (fun h h2=>absurd (hW.right 0 h h2).1 (by omega))]
 unfold col
 rw[List.range_eq_range']
structure InnR (W:List CD) (p:PD) (l:List Nat) (i x k e:Nat):Prop where
 le:i<k∧k≤l.length
 endd:e=l.getD (k-1) 0+jag W (l.getD (k-1) 0)
 run:runP W p x (l.drop i)=((l.drop i).take (k-i)++(runP W p e (l.drop k)).1,(runP W p e (l.drop k)).2)
theorem jdE {l:List Nat}{i:Nat}(hi:i<l.length):l.drop i=l.getD i 0::l.drop (i+1):=by
 rw[List.drop_eq_getElem_cons hi,List.getD_eq_getElem?_getD,List.getElem?_eq_getElem hi]
 rfl
theorem InnR.start {W:List CD}{l:List Nat}{i x:Nat}(hi:i<l.length) (hx:x=l.getD i 0):InnR W (cAt W x).pen l i x (i+1) (x+jag W x):=by
 refine⟨⟨by omega,hi⟩,by rw[Nat.add_sub_cancel,←hx],?_⟩
 rw[jdE hi,←hx,jqC rfl,show i+1-i=1 by omega]
 rfl
theorem InnR.go {W:List CD}{p:PD}{l:List Nat}{i x k e:Nat}(h:InnR W p l i x k e) (hk:k<l.length) (he:l.getD k 0=e) (hp:(cAt W (l.getD k 0)).pen=p):InnR W p l i x (k+1) (e+jag W e):=by
 refine⟨⟨by have:=h.le;omega,hk⟩,by rw[Nat.add_sub_cancel,he],?_⟩
 rw[h.run,jdE hk,he,jqC (by rw[←he];exact hp)]
 have hle:=h.le
 have:(l.drop i).take (k+1-i)=(l.drop i).take (k-i)++[e]:=by
  rw[show k+1-i=(k-i)+1 by omega]
  refine jaW ?_
  rw[List.getElem?_drop,show i+(k-i)=k by omega,List.getElem?_eq_getElem hk,←he,List.getD_eq_getElem?_getD,List.getElem?_eq_getElem hk]
  rfl
 rw[this]
 simp
theorem InnR.done {W:List CD}{p:PD}{l:List Nat}{i x k e:Nat}(h:InnR W p l i x k e) (hs:¬(k<l.length∧l.getD k 0=e∧(cAt W (l.getD k 0)).pen=p)):runP W p x (l.drop i)=((l.drop i).take (k-i),e,l.drop k):=by
 rw[h.run,joU (fun y hy he hp=>by
  by_cases hk:k<l.length
  ·rw[jdE hk]at hy
   simp only[List.head?_cons,Option.some.injEq]at hy
   exact hs ⟨hk,by rw[hy];exact he,by rw[hy];exact hp⟩
  ·rw[List.drop_of_length_le (by omega)]at hy
   cases hy)]
 simp
structure OutR (W:List CD) (l:List Nat) (i bh nn:Nat) (bs:List Int):Prop where
 le:i≤l.length
 bytes:bs++(layR W l.length bh (l.drop i)).1=(layR W l.length 0 l).1
 num:nn+(layR W l.length bh (l.drop i)).2=(layR W l.length 0 l).2
theorem OutR.go {W:List CD}{l:List Nat}{i bh nn k e x:Nat}{bs:List Int}(h:OutR W l i bh nn bs) (hi:i<l.length) (hx:x=l.getD i 0) (hin:InnR W (cAt W x).pen l i x k e) (hs:¬(k<l.length∧l.getD k 0=e∧(cAt W (l.getD k 0)).pen=(cAt W x).pen)) :
  OutR W l k e (nn+1) (bs++jbc ([x-bh,k-i]++penN (cAt W x).pen)++jeI W ((l.drop i).take (k-i))):=by
 have hd:=hin.done hs
 have hle:=hin.le
 have hc:l.drop i=x::l.drop (i+1):=by rw[jdE hi,←hx]
 have hlay:layR W l.length bh (l.drop i)=(jbc ([x-bh,k-i]++penN (cAt W x).pen)++(jeI W ((l.drop i).take (k-i))++(layR W l.length e (l.drop k)).1),(layR W l.length e (l.drop k)).2+1):=by
  obtain⟨f,hf⟩:∃f,l.length=f+1:=⟨l.length-1,by omega⟩
  have e5:layR W l.length e (l.drop k)=layR W f e (l.drop k):=jfU W _ _ _ _ (by simp) (by simp;omega)
  rw[e5]
  conv=>lhs;rw[hf,hc]
  rw[layR,←hc,hd]
  have:((l.drop i).take (k-i)).length=k-i:=by simp;omega
  simp only[this]
 have h1:=h.bytes
 have h2:=h.num
 rw[hlay]at h1 h2
 refine⟨hle.2,?_,?_⟩
 ·rw[←h1]
  simp
 ·simp only at h2
  omega
theorem OutR.small {W:List CD}(hW:∀q∈W,CWf q){l:List Nat}{i bh nn:Nat}{bs:List Int}(h:OutR W l i bh nn bs) (hl:l.length≤2000) (hx:∀x∈l,x≤2000):bs.length≤130000∧nn≤2000:=by
 have h1:=jgI hW l.length 0 l (by omega) (fun x hx'=>by have:=hx x hx';omega)
 have h2:=congrArg List.length h.bytes
 have h3:=h.num
 rw[List.length_append]at h2
 omega
def comK:List ByteArray→List ByteArray→Nat
 | x::l,y::m=>if x=y then comK l m+1 else 0
 | _,_=>0
theorem jnB:∀l m:List ByteArray,comK l m≤l.length∧comK l m≤m.length
 | [],m=>by simp[comK]
 | x::l,[]=>by simp[comK]
 | x::l,y::m=>by
  have ih:=jnB l m
  rw[comK]
  split<;>simp<;>omega
theorem jA2 {l m:List ByteArray}{j:Nat}{s:ByteArray}(h1:l[j]?=some s) (h2:m[j]?=some s):comK (l.drop j) (m.drop j)=1+comK (l.drop (j+1)) (m.drop (j+1)):=by
 obtain⟨h3,h4⟩:=List.getElem?_eq_some_iff.1 h1
 obtain⟨h5,h6⟩:=List.getElem?_eq_some_iff.1 h2
 rw[List.drop_eq_getElem_cons h3,List.drop_eq_getElem_cons h5,h4,h6,comK,if_pos rfl,Nat.add_comm]
theorem jwb {l m:List ByteArray}{j:Nat}(h:∀s t,l[j]?=some s→m[j]?=some t→s≠t):comK (l.drop j) (m.drop j)=0:=by
 rcases Nat.lt_or_ge j l.length with h1|h1
 ·rcases Nat.lt_or_ge j m.length with h2|h2
  ·rw[List.drop_eq_getElem_cons h1,List.drop_eq_getElem_cons h2,comK,if_neg (h _ _ (List.getElem?_eq_getElem h1) (List.getElem?_eq_getElem h2))]
  ·rw[List.drop_of_length_le h2]
   cases l.drop j<;>rfl
 ·rw[List.drop_of_length_le h1]
  rfl
def curC (x1 y1:Nat) (hd1:Bool) (x2 y2:Nat) (hd2:Bool):Bool:=((x2:Int) != (x1:Int)) || (((y2:Int) != (y1:Int)) || (hd2 != hd1))
def curB (x1 y1:Nat) (hd1:Bool) (x2 y2:Nat) (hd2:Bool):List Int:=if curC x1 y1 hd1 x2 y2 hd2 then 2::jbc [x2,y2,if hd2 then 1 else 0] else []
def titB (t1 t2:ByteArray):List Int:=if jhg t2 t1 then [] else 3::jjp (jan t2)
def mouB (m1 m2:Nat):List Int:=if m2=m1 then [] else 4::jbc [m2]
def texB (l:List ByteArray):List Int:=l.flatMap fun u=>jjp (jan u)
def linB (l1 l2:List ByteArray):List Int:=if l2=l1 then [] else 5::jbc [comK l2 l1,l2.length-comK l2 l1]++texB (l2.drop (comK l2 l1))
def scrN (n:Int):Nat:=if 0<n then (2*n-1).toNat else (-2*n).toNat
def scrB (n:Int):List Int:=if n=0 then [] else 6::jbc [scrN n]
def undL (L1:List CD) (l1 l2:List ByteArray):List CD:=L1.map (ulf l1 l2)
def upN (k r:Nat) (U L2:List CD):Int:=(jd1 (dist k r U L2) (r-1)).1
def movL (k r:Nat) (U:List CD) (n:Int):List CD:=(jcf (jam U k r) n).flatten
def cpyL (k r:Nat) (V L2:List CD):List CD:=((List.range r).map (jb3 (jam V k r) (jam L2 k r))).flatten
def celB (k r:Nat) (U L2:List CD):List Int :=
 scrB (upN k r U L2)++jjq (jau (jam (movL k r U (upN k r U L2)) k r) (jam L2 k r) r).1++jcX (cpyL k r (movL k r U (upN k r U L2)) L2) L2
def jtt (x1 y1:Nat) (hd1:Bool) (m1:Nat) (t1:ByteArray) (l1:List ByteArray) (x2 y2:Nat) (hd2:Bool) (m2:Nat) (t2:ByteArray) (l2:List ByteArray):List Int :=
 curB x1 y1 hd1 x2 y2 hd2++titB t1 t2++mouB m1 m2++linB l1 l2
def jf7 (k r:Nat) (L1:List CD) (x1 y1:Nat) (hd1:Bool) (m1:Nat) (t1:ByteArray) (l1:List ByteArray) (L2:List CD) (x2 y2:Nat) (hd2:Bool) (m2:Nat) (t2:ByteArray) (l2:List ByteArray):List Int :=
 jtt x1 y1 hd1 m1 t1 l1 x2 y2 hd2 m2 t2 l2++celB k r (undL L1 l1 l2) L2
theorem jnC (d:Int→Nat):∀j:Nat,-(j:Int)≤(jd1 d j).1∧(jd1 d j).1≤j
 | 0=>by simp[jd1]
 | j+1=>by
  have ih:=jnC d j
  have key:∀(st:Int×Nat) (k:Int),(jdr d st k).1=st.1∨(jdr d st k).1=k:=fun st k=>by
   unfold jdr
   split
   ·exact .inr rfl
   ·exact .inl rfl
  rw[jd1]
  rcases key (jdr d (jd1 d j) ((j+1:Nat):Int)) (-((j+1:Nat):Int))with h|h
  ·rw[h]
   rcases key (jd1 d j) ((j+1:Nat):Int)with h2|h2<;>rw[h2]<;>omega
  ·rw[h]
   omega
theorem jsj (k r:Nat) (hr:1≤r) (U L2:List CD):-(r:Int)<upN k r U L2∧upN k r U L2<r:=by
 have:=jnC (dist k r U L2) (r-1)
 unfold upN
 omega
theorem jyH (l1 l2:List ByteArray) (c:CD):∃v,ulf l1 l2 c=c.withLink v∨ulf l1 l2 c=c:=by
 unfold ulf
 split
 ·exact⟨_,.inl rfl⟩
 ·exact⟨0,.inr rfl⟩
def Alk (a b:CD):Prop:=a.rune=b.rune∧a.wide=b.wide∧a.fg=b.fg∧a.bg=b.bg∧a.attrs=b.attrs
theorem jwc (l1 l2:List ByteArray) (c:CD):Alk (ulf l1 l2 c) c:=by
 obtain⟨v,h|h⟩:=jyH l1 l2 c<;>rw[h]<;>exact⟨rfl,rfl,rfl,rfl,rfl⟩
theorem jyI {a b:CD}(h:Alk a b):mayB a=mayB b:=by
 obtain⟨h1,h2,h3,h4,h5⟩:=h
 unfold mayB penB
 simp only[CD.pen]
 rw[h1,h2,h3,h4]
theorem jqE (f:CD→CD){l:List CD}{i:Nat}(h:i<l.length):cAt (l.map f) i=f (cAt l i):=by
 have h1:=List.getElem?_eq_getElem h
 rw[jgV h1]
 exact jgV (by rw[List.getElem?_map,h1];rfl)
theorem jyJ {f:CD→CD}(h:∀c,Alk (f c) c) (h2:∀a b,a.link=b.link→(f a).link=(f b).link){l:List CD}(hr:jcN l=true):jcN (l.map f)=true:=by
 unfold jcN at hr ⊢
 simp only[Bool.and_eq_true,decide_eq_true_eq,List.all_eq_true,List.mem_range,List.length_map]at hr ⊢
 obtain⟨⟨⟨h3,h4⟩,h5⟩,h6⟩:=hr
 refine⟨⟨⟨h3,h4⟩,fun i hi=>?_⟩,?_⟩
 ·have h7:=(jde _ _).1 (h5 i hi)
  rw[jde,jqE f hi,jqE f (show i-1<l.length by omega)]
  obtain⟨a1,a2,a3⟩:=h7
  refine⟨by rw[jyI (h _)];exact a1,by rw[(h _).2.1,(h _).2.1];exact a2,fun h0 hw=>?_⟩
  rw[(h _).2.1]at hw
  have hp:=a3 h0 hw
  have e1:=h (cAt l (i-1))
  have e2:=h (cAt l i)
  simp only[CD.pen,PD.mk.injEq]at hp ⊢
  exact⟨by rw[e1.2.2.1,e2.2.2.1];exact hp.1,by rw[e1.2.2.2.1,e2.2.2.2.1];exact hp.2.1,by rw[e1.2.2.2.2,e2.2.2.2.2];exact hp.2.2.1,h2 _ _ hp.2.2.2⟩
 ·rw[jqE f (show l.length-1<l.length by omega),(h _).2.1]
  exact h6
theorem jwd (f:CD→CD) (L:List CD) (k y:Nat):jaY (L.map f) k y=(jaY L k y).map f:=by
 unfold jaY
 rw[List.map_take,List.map_drop]
theorem jwe {f:CD→CD}(h:∀c,Alk (f c) c) (h2:∀a b,a.link=b.link→(f a).link=(f b).link){k r:Int}{L:List CD}(hg:jbM k r L=true):jbM k r (L.map f)=true:=by
 unfold jbM at hg ⊢
 simp only[Bool.and_eq_true,List.all_eq_true,List.mem_range,List.length_map]at hg ⊢
 refine⟨hg.1,fun y hy=>?_⟩
 rw[jwd]
 exact jyJ h h2 (hg.2 y hy)
theorem joV {k r:Int}{L:List CD}(l1 l2:List ByteArray) (hg:jbM k r L=true):jbM k r (undL L l1 l2)=true :=
 jwe (jwc l1 l2) (fun a b e=>by
  unfold ulf
  rw[e]
  split
  ·rfl
  ·exact e) hg
theorem jCd {a b:CD}(h:Alk a b) (hb:CWf b) (hl:0≤a.link∧a.link<65536):CWf a:=by
 obtain⟨h1,h2,h3,h4,h5⟩:=h
 exact⟨by rw[h1];exact hb.rune,by rw[h2];exact hb.wide,by rw[h3];exact hb.fg,by rw[h4];exact hb.bg,by rw[h5];exact hb.attrs,hl⟩
theorem jCe {L:List CD}{l1 l2:List ByteArray}(hl2:l2.length≤10000) (hw:∀q∈L,CWf q):∀q∈undL L l1 l2,CWf q:=fun q hq=>by
 obtain⟨c,hc,rfl⟩:=List.mem_map.1 hq
 refine jCd (jwc l1 l2 c) (hw c hc) ?_
 have h1:=(hw c hc).link
 unfold ulf
 split
 ·have:=jdS l2 (sAt l1 (c.link-1).toNat)
  show 0≤jaS l2 (sAt l1 (c.link-1).toNat)+1∧jaS l2 (sAt l1 (c.link-1).toNat)+1<65536
  omega
 ·exact h1
theorem jwf (L:List CD) (l1 l2:List ByteArray):(undL L l1 l2).length=L.length:=by simp[undL]
theorem joW {k r:Nat}{U:List CD}(h:U.length=k*r):movL k r U 0=U:=by
 unfold movL
 rw[jqt]
 exact jds h
theorem jnD {k r:Nat}{U:List CD}(h:U.length=k*r) (n:Int):(movL k r U n).length=k*r:=by
 unfold movL
 rw[jgm _ (jjE (jbk h) n).row,(jjE (jbk h) n).len,Nat.mul_comm]
theorem jnE {k r:Nat}{V L2:List CD}(hV:V.length=k*r) (h2:L2.length=k*r):(cpyL k r V L2).length=k*r:=by
 unfold cpyL
 rw[jeX (jbk hV) (jbk h2) r (Nat.le_refl _),Nat.mul_comm]
theorem jhV (bs:List Int) (h:bs.length<9223372036854775808):(jjp bs).length≤bs.length+10:=by
 unfold jjp
 rw[List.length_append]
 have:=jb2 bs.length (by omega)
 omega
theorem jsk {l:List ByteArray}(h:∀s∈l,s.size≤64):(texB l).length≤74*l.length:=by
 induction l with
 | nil=>simp[texB]
 | cons s l ih =>
  have h1:=h s (by simp)
  have h2:=ih (fun t ht=>h t (by simp[ht]))
  have h3:=jhV (jan s) (by rw[jcd];omega)
  rw[jcd]at h3
  unfold texB at h2 ⊢
  rw[List.flatMap_cons,List.length_append,List.length_cons]
  omega
theorem jwg {l:List ByteArray}{t:Nat}{s:ByteArray}(h:l[t]?=some s):texB (l.take (t+1))=texB (l.take t)++jjp (jan s):=by
 rw[jaW h]
 simp[texB,List.flatMap_append]
theorem ji9 (A B:List (List CD)) (r:Nat) (hr:r≤24) (hA:A.length=r):(jjq (jau A B r).1).length≤500:=by
 have h:=jc2 A B r
 have h2:=jcm (jau A B r).1 (fun x hx=>by have:=h.2.2 x hx;omega)
 unfold jjq
 split
 ·simp
 ·rw[List.length_cons,List.length_append]
  have:=jb2 ((jau A B r).1.length / 2) (by omega)
  omega
theorem jsl (x1 y1:Nat) (hd1:Bool) (x2 y2:Nat) (hd2:Bool) (hx:x2<80) (hy:y2<80):(curB x1 y1 hd1 x2 y2 hd2).length≤31:=by
 have h2:=jcm [x2,y2,if hd2 then 1 else 0] (fun x hx=>by
  simp at hx
  rcases hx with rfl|rfl|rfl
  ·omega
  ·omega
  ·split<;>omega)
 unfold curB
 split
 ·simp only[List.length_cons,List.length_nil]at h2 ⊢
  omega
 ·simp
theorem jsm (t1 t2:ByteArray) (h:t2.size≤64):(titB t1 t2).length≤75:=by
 have h2:=jhV (jan t2) (by rw[jcd];omega)
 rw[jcd]at h2
 unfold titB
 split
 ·simp
 ·rw[List.length_cons]
  omega
theorem jsn (m1 m2:Nat) (h:m2<256):(mouB m1 m2).length≤11:=by
 have h2:=jcm [m2] (fun x hx=>by simp at hx;omega)
 unfold mouB
 split
 ·simp
 ·rw[List.length_cons]
  simp only[List.length_cons,List.length_nil]at h2
  omega
theorem jso (l1 l2:List ByteArray) (h:l2.length≤16) (hs:∀s∈l2,s.size≤64):(linB l1 l2).length≤1300:=by
 have h1:=jnB l2 l1
 have h2:=jcm [comK l2 l1,l2.length-comK l2 l1] (fun x hx=>by simp at hx;omega)
 have h3:=jsk (l:=l2.drop (comK l2 l1)) (fun s h=>hs s (List.mem_of_mem_drop h))
 rw[List.length_drop]at h3
 unfold linB
 split
 ·simp
 ·rw[List.length_append,List.length_cons]
  simp only[List.length_cons,List.length_nil]at h2
  omega
theorem jnF (n:Int) (h:-24≤n∧n≤24):(scrB n).length≤11:=by
 have h2:=jcm [scrN n] (fun x hx=>by simp at hx;subst hx;unfold scrN;split<;>omega)
 unfold scrB
 split
 ·simp
 ·rw[List.length_cons]
  simp only[List.length_cons,List.length_nil]at h2
  omega
theorem jja (C W:List CD) (hW:∀q∈W,CWf q) (hl:W.length≤2000):(jcX C W).length≤130100:=by
 have h1:(rem (jbe C W) (jag W) W.length 0).length≤W.length:=jhi
 have h2:=jgI hW (rem (jbe C W) (jag W) W.length 0).length 0 (rem (jbe C W) (jag W) W.length 0) (by omega) (fun x hx=>by
  have:=(jkO (fun i=>(ja3 W i).1) hx).2.1
  omega)
 have h3:=jb2 (layR W (rem (jbe C W) (jag W) W.length 0).length 0 (rem (jbe C W) (jag W) W.length 0)).2 (by omega)
 rw[jcX]
 split
 ·simp
 ·rw[List.length_cons,List.length_append]
  omega
theorem jfV {k r i:Nat}(hi:i<k*r):∃y x,i=y*k+x∧y<r∧x<k:=by
 have hk:0<k:=Nat.pos_of_ne_zero fun e=>by rw[e,Nat.zero_mul]at hi;omega
 refine⟨i / k,i % k,?_,Nat.div_lt_of_lt_mul hi,Nat.mod_lt _ hk⟩
 rw[Nat.mul_comm]
 exact (Nat.div_add_mod i k).symm
theorem jsp {k r y x:Nat}(hy:y<r) (hx:x<k):y*k+x<k*r:=by
 have h1:(y+1)*k≤k*r:=by rw[Nat.mul_comm k r];exact Nat.mul_le_mul_right _ (by omega)
 rw[Nat.succ_mul]at h1
 omega
theorem je7 {L:List CD}{k y x:Nat}(hx:x<k):cAt (jaY L k y) x=cAt L (y*k+x):=by
 unfold cAt jaY
 rw[List.getD_eq_getElem?_getD,List.getD_eq_getElem?_getD,List.getElem?_take_of_lt hx,List.getElem?_drop]
theorem jwh {c:CD}(h:mayB c=true):0≤c.rune:=by
 unfold mayB at h
 have key:∀v:Int,v≠0→Utf.width c.rune=v→0≤c.rune:=fun v hv e=>by
  unfold Utf.width at e
  by_cases hn:Utf.noWidth c.rune=true
  ·rw[if_pos hn]at e
   exact absurd e.symm hv
  ·unfold Utf.noWidth at hn
   simp only[Bool.or_eq_true,decide_eq_true_eq,not_or]at hn
   omega
 simp only[Bool.and_eq_true,Bool.or_eq_true,beq_iff_eq]at h
 rcases h.2 with (h|h)|h
 ·exact key 1 (by omega) h.2
 ·exact key 2 (by omega) h.2
 ·rw[h.2];exact Int.le_refl _
structure RFact (k r:Nat) (L:List CD) (x y mo:Nat) (ti:ByteArray) (l:List ByteArray):Prop where
 k1:1≤k∧k≤80
 r1:1≤r∧r≤24
 len:L.length=k*r
 grid:jbM k r L=true
 links:jb8 L l=true
 x1:x<k
 y1:y<r
 mo1:mo≤2
 ti1:ti.size≤64
 l1:l.length≤16
 s64:∀s∈l,s.size≤64
 runes:∀q∈L,0≤q.rune
 lk:∀t∈L,t.link≤(l.length:Int)
 row:∀y,y<r→jcN (jaY L k y)=true
theorem jmi {s:ByteArray}(h:jdg s=true):s.size≤64:=by
 unfold jdg at h
 simp only[Bool.and_eq_true,decide_eq_true_eq]at h
 exact h.1.2
theorem jkQ {L:List CD}{l:List ByteArray}(h:jb8 L l=true):∀s∈l,jdg s=true:=fun s hs=>by
 obtain⟨i,hi⟩:=List.getElem?_of_mem hs
 have hl:=(List.getElem?_eq_some_iff.1 hi).1
 unfold jb8 at h
 simp only[Bool.and_eq_true,List.all_eq_true,List.mem_range]at h
 have:=h.1.2 i hl
 unfold jgW at this
 rw[jkC hi,Bool.and_eq_true]at this
 exact this.1
theorem jb4 {k r:Int}{L:List CD}{x y mo:Int}{ti:ByteArray}{l:List ByteArray}(h:ja6 k r L x y mo ti l=true) (hm:0≤mo) :
  ∃(K R X Y M:Nat),k=K∧r=R∧x=X∧y=Y∧mo=M∧RFact K R L X Y M ti l:=by
 unfold ja6 at h
 simp only[Bool.and_eq_true,decide_eq_true_eq]at h
 obtain⟨⟨⟨⟨⟨⟨⟨⟨h1,h2⟩,h3⟩,h4⟩,h5⟩,h6⟩,h7⟩,h8⟩,h9⟩:=h
 have hg:=h1
 unfold jbM at hg
 simp only[Bool.and_eq_true,beq_iff_eq,List.all_eq_true,List.mem_range]at hg
 obtain⟨⟨g1,g2⟩,g3⟩:=hg
 have g4:=jdh.1 g1
 obtain⟨K,rfl⟩:∃K:Nat,k=K:=⟨k.toNat,by omega⟩
 obtain⟨R,rfl⟩:∃K:Nat,r=K:=⟨r.toNat,by omega⟩
 obtain⟨X,rfl⟩:∃K:Nat,x=K:=⟨x.toNat,by omega⟩
 obtain⟨Y,rfl⟩:∃K:Nat,y=K:=⟨y.toNat,by omega⟩
 obtain⟨M,rfl⟩:∃K:Nat,mo=K:=⟨mo.toNat,by omega⟩
 have hL:L.length=K*R:=by rw[←Int.natCast_mul]at g2;omega
 have hrow:∀y,y<R→jcN (jaY L K y)=true:=fun y hy=>g3 y (by omega)
 have hlk:=jkQ h2
 have h2':=h2
 unfold jb8 at h2'
 simp only[Bool.and_eq_true,decide_eq_true_eq]at h2'
 refine⟨K,R,X,Y,M,rfl,rfl,rfl,rfl,rfl,⟨by omega,by omega,hL,h1,h2,by omega,by omega,by omega,h8,h2'.1.1,fun s hs=>jmi (hlk s hs),fun q hq=>?_,fun t ht=>jjC h2'.2 t ht,hrow⟩⟩
 obtain⟨i,hi⟩:=List.getElem?_of_mem hq
 obtain⟨y,x,e,hy,hx⟩:=jfV (k:=K) (r:=R) (i:=i) (by rw[←hL];exact (List.getElem?_eq_some_iff.1 hi).1)
 have hb:=hrow y hy
 unfold jcN at hb
 simp only[Bool.and_eq_true,List.all_eq_true,List.mem_range]at hb
 have:=((jde _ _).1 (hb.1.2 x (by rw[jcl hL hy];exact hx))).1
 rw[je7 hx,←e,jgV hi]at this
 exact jwh this
theorem RFact.fit {k r:Nat}{L:List CD}{x y mo:Nat}{ti:ByteArray}{l:List ByteArray}(h:RFact k r L x y mo ti l):∀y x,y<r→x<k→(cAt L (y*k+x)).wide=1→x+1<k:=fun y x hy hx hw=>by
 have hb:=h.row y hy
 unfold jcN at hb
 simp only[Bool.and_eq_true,bne_iff_ne,ne_eq]at hb
 rcases Nat.lt_or_ge (x+1) k with h1|h1
 ·exact h1
 ·exfalso
  refine hb.2 ?_
  rw[jcl h.len hy,je7 (by omega),show k-1=x by omega]
  exact hw
theorem RFact.at_ {k r:Nat}{L:List CD}{x y mo:Nat}{ti:ByteArray}{l:List ByteArray}(h:RFact k r L x y mo ti l){y x:Nat}(hy:y<r) (hx:x<k) :
  ((0<x∧(cAt L (y*k+(x-1))).wide=1)↔(cAt L (y*k+x)).wide=2):=by
 have hb:=h.row y hy
 unfold jcN at hb
 simp only[Bool.and_eq_true,List.all_eq_true,List.mem_range]at hb
 have:=((jde _ _).1 (hb.1.2 x (by rw[jcl h.len hy];exact hx))).2.1
 rw[je7 hx,je7 (show x-1<k by omega)]at this
 exact this
theorem RFact.whole {k r:Nat}{L:List CD}{x y mo:Nat}{ti:ByteArray}{l:List ByteArray}(h:RFact k r L x y mo ti l):Whole L:=by
 refine⟨fun i hi hw=>?_,fun i hi hw=>?_⟩
 ·obtain⟨y,x,rfl,hy,hx⟩:=jfV (k:=k) (r:=r) (by rw[←h.len];exact hi)
  have h1:=h.fit y x hy hx hw
  have h2:=(h.at_ hy h1).1 ⟨by omega,by rw[Nat.add_sub_cancel];exact hw⟩
  exact⟨by rw[h.len];exact jsp hy h1,h2⟩
 ·obtain⟨y,x,rfl,hy,hx⟩:=jfV (k:=k) (r:=r) (by rw[←h.len];exact hi)
  have h2:=(h.at_ hy hx).2 hw
  exact⟨by omega,by rw[Nat.add_sub_assoc h2.1];exact h2.2⟩
theorem RFact.wide {k r:Nat}{L:List CD}{x y mo:Nat}{ti:ByteArray}{l:List ByteArray}(h:RFact k r L x y mo ti l):∀i,i<L.length→i+jag L i≤L.length:=fun i hi=>h.whole.fits hi
theorem jzF {k r:Nat}{L:List CD}(hL:L.length=k*r) (hk:1≤k) (m:Int){i:Nat}(hi:i<k*r):cAt (jcf (jam L k r) m).flatten i=jfs L (i+m*k):=by
 obtain⟨y,x,rfl,hy,hx⟩:=jfV hi
 have hR:=jbk (k:=k) (r:=r) hL
 have hS:=jjE hR m
 unfold cAt
 rw[List.getD_eq_getElem?_getD,jnr _ hS.row y x (by rw[hS.len];exact hy) hx,←List.getD_eq_getElem?_getD]
 have hm:mAt (jcf (jam L k r) m) y=jto (jam L k r) m y:=jkH (by
  unfold jcf
  rw[List.getElem?_map,List.getElem?_range (by rw[jbD];exact hy)]
  rfl)
 rw[hm]
 unfold jto jfs
 rw[jbD,hL]
 have e:((y*k+x:Nat):Int)+m*k=((y:Int)+m)*k+x:=by
  rw[Int.add_mul]
  push_cast
  omega
 rw[e]
 have hkk:(0:Int)<k:=by omega
 by_cases hc:0≤(y:Int)+m∧(y:Int)+m<r
 ·obtain⟨z,hz⟩:∃z:Nat,(y:Int)+m=z:=⟨((y:Int)+m).toNat,by omega⟩
  have hzr:z<r:=by omega
  rw[if_pos hc,hz,Int.toNat_natCast,jdD hzr]
  have h2:=jsp (k:=k) hzr hx
  have e2:((z:Int)*k+x)=((z*k+x:Nat):Int):=by push_cast;omega
  rw[e2,if_pos (by omega),Int.toNat_natCast]
  exact je7 hx
 ·rw[if_neg hc,jdD hy,jcl hL hy]
  have h3:¬(0≤((y:Int)+m)*k+x∧((y:Int)+m)*k+x<((k*r:Nat):Int)):=by
   rintro⟨a,b⟩
   refine hc ⟨?_,?_⟩
   ·rcases Int.lt_or_le ((y:Int)+m) 0 with hn|hn
    ·have:((y:Int)+m)*k≤(-1)*k:=Int.mul_le_mul_of_nonneg_right (by omega) (by omega)
     omega
    ·exact hn
   ·rcases Int.lt_or_le ((y:Int)+m) r with hn|hn
    ·exact hn
    ·have h4:(r:Int)*k≤((y:Int)+m)*k:=Int.mul_le_mul_of_nonneg_right hn (by omega)
     rw[Int.natCast_mul,Int.mul_comm (k:Int)]at b
     omega
  rw[if_neg h3,List.getD_eq_getElem?_getD,List.getElem?_replicate,if_pos hx]
  rfl
theorem jyK {A B:List (List CD)}{k r:Nat}(hA:Rect A k r) (hB:Rect B k r):Rect ((List.range r).map (jb3 A B)) k r :=
 ⟨by simp,fun l hl=>by
  obtain⟨y,hy,rfl⟩:=List.mem_map.1 hl
  exact jmh hA hB (List.mem_range.1 hy)⟩
def jbI (k r:Nat):List CD:=List.replicate (k*r) blank0
def jyL (k r:Nat) (L:List CD) (x y:Nat) (hd:Bool) (mo:Nat) (ti:ByteArray) (l:List ByteArray):List Int :=
 (1::jbc [k,r])++jf7 k r (jbI k r) 0 0 false 0 ⟨#[]⟩ [] L x y hd mo ti l
def jhj (k r:Int) (L:List CD) (x y:Int) (hd:Bool) (mo:Int) (ti:ByteArray) (l:List ByteArray):List Int :=
 if ja6 k r L x y mo ti l then jyL k.toNat r.toNat L x.toNat y.toNat hd mo.toNat ti l else []
def errN (b:Bool):Int:=if b then 0 else 1
theorem jkR {k r:Nat}{L1:List CD}{x1 y1:Nat}{hd1:Bool}{m1:Nat}{t1:ByteArray}{l1:List ByteArray}{L2:List CD}{x2 y2:Nat}{hd2:Bool}{m2:Nat}{t2:ByteArray}{l2:List ByteArray}
  (h1:L1.length=k*r) (hk:k≤80) (hr:1≤r∧r≤24) (h2:L2.length=k*r) (hw:∀q∈L2,CWf q) (hx:x2<80) (hy:y2<80) (hm:m2<256) (ht:t2.size≤64) (hl:l2.length≤16) (hs:∀s∈l2,s.size≤64) :
  (jf7 k r L1 x1 y1 hd1 m1 t1 l1 L2 x2 y2 hd2 m2 t2 l2).length≤133000:=by
 have hkr:k*r≤80*24:=Nat.mul_le_mul hk hr.2
 have e1:=jsl x1 y1 hd1 x2 y2 hd2 hx hy
 have e2:=jsm t1 t2 ht
 have e3:=jsn m1 m2 hm
 have e4:=jso l1 l2 hl hs
 have hu:=jsj k r hr.1 (undL L1 l1 l2) L2
 have e5:=jnF (upN k r (undL L1 l1 l2) L2) (by omega)
 have e6:=ji9 (jam (movL k r (undL L1 l1 l2) (upN k r (undL L1 l1 l2) L2)) k r) (jam L2 k r) r hr.2 (jbD _ _ _)
 have e7:=jja (cpyL k r (movL k r (undL L1 l1 l2) (upN k r (undL L1 l1 l2) L2)) L2) L2 hw (by omega)
 unfold jf7 jtt celB
 simp only[List.length_append]
 omega
theorem jjb {k r:Nat}(hk:1≤k∧k≤80) (hr:1≤r∧r≤24):jbM k r (jbI k r)=true:=by
 have hL:(jbI k r).length=k*r:=by simp[jbI]
 unfold jbM
 simp only[Bool.and_eq_true,List.all_eq_true,List.mem_range,beq_iff_eq]
 refine⟨⟨jdh.2 (by omega),by rw[hL];simp⟩,fun y hy=>?_⟩
 have hy':y<r:=by omega
 rw[Int.toNat_natCast]
 have hlen:=jcl hL hy'
 have hat:∀i,i<k→cAt (jaY (jbI k r) k y) i=blank0:=fun i hi=>by
  obtain⟨q,hq⟩:∃q,(jaY (jbI k r) k y)[i]?=some q:=⟨_,List.getElem?_eq_getElem (by omega)⟩
  rw[jgV hq]
  exact List.eq_of_mem_replicate (joQ (List.mem_of_getElem? hq))
 have hm:mayB blank0=true:=by decide +kernel
 unfold jcN
 simp only[Bool.and_eq_true,decide_eq_true_eq,List.all_eq_true,List.mem_range,bne_iff_ne,ne_eq]
 rw[hlen]
 refine⟨⟨⟨hk.1,hk.2⟩,fun i hi=>?_⟩,?_⟩
 ·rw[jde,hat i hi,hat (i-1) (by omega)]
  exact⟨hm,by simp,fun _ _=>rfl⟩
 ·rw[hat (k-1) (by omega)]
  decide
def encI (k1 r1:Int) (L1:List CD) (x1 y1:Int) (hd1:Bool) (mo1:Int) (ti1:ByteArray) (l1:List ByteArray) (k2 r2:Int) (L2:List CD) (x2 y2:Int) (hd2:Bool) (mo2:Int) (ti2:ByteArray) (l2:List ByteArray):List Int :=
 if (ja6 k1 r1 L1 x1 y1 mo1 ti1 l1)&&(ja6 k2 r2 L2 x2 y2 mo2 ti2 l2) then (if k1=k2∧r1=r2 then jf7 k1.toNat r1.toNat L1 x1.toNat y1.toNat hd1 mo1.toNat ti1 l1 L2 x2.toNat y2.toNat hd2 mo2.toNat ti2 l2 else jhj k2 r2 L2 x2 y2 hd2 mo2 ti2 l2) else []
theorem jqF (l:List ByteArray) (n:Nat):jah l (List.replicate n blank0)=[]:=by
 induction n with
 | zero=>rfl
 | succ n ih =>
  rw[List.replicate_succ',jby,ih]
  unfold jcz
  rw[if_neg (fun e=>(jhR e.1).1 rfl)]
theorem jkS (l m:List ByteArray) (n:Nat):(List.replicate n blank0).map (jbo l m)=List.replicate n blank0:=by
 have h:jbo l m blank0=blank0:=by
  unfold jbo jdo
  rw[if_pos (by unfold ja2;rw[if_pos (.inl rfl)])]
  rfl
 rw[List.map_replicate,h]
theorem joX:CWf blank0:=⟨by decide,by decide,by decide,by decide,by decide,by decide⟩
end
end Go.Proofs.YtcfkfgkndncanaaGreatDoor
