/- Texts of this claim, merged by a program of this claim: DiffM2. -/
import Derived.Test.YtcfkfgkndncanaaGreatDoorMa20
namespace Go.Proofs.YtcfkfgkndncanaaGreatDoor
set_option linter.unusedVariables false
set_option linter.unusedSimpArgs false
section
open Go.RowKit
set_option maxRecDepth 100000
set_option maxHeartbeats 4000000
theorem jfN {L:List CD}{k r y:Nat}(hy:y<r):mAt (jbv L k r) y=jbo L k y:=jvU (by simp[jbv,hy])
theorem jdy {L:List CD}{k r:Nat}(hL:L.length=k*r):Rect (jbv L k r) k r:=by
 refine⟨jcC L k r,fun l hl=>?_⟩
 obtain⟨y,hy,rfl⟩:=List.mem_map.1 hl
 exact jdM hL (List.mem_range.1 hy)
theorem jli (L:List CD) (k:Nat):∀y,((List.range y).map (jbo L k)).flatten=L.take (y*k)
 | 0=>by simp
 | y+1=>by
  rw[jcE,List.flatten_append,jli L k y,Nat.succ_mul,List.take_add]
  simp[jbo]
theorem jiQ {L:List CD}{k r:Nat}(hL:L.length=k*r):(jbv L k r).flatten=L:=by
 unfold jbv
 rw[jli,List.take_of_length_le (by rw[hL,Nat.mul_comm];exact Nat.le_refl _)]
section
def scrG (M:List (List CD)) (top bot:Nat) (m:Int) (p:PD) (y:Nat):List CD :=
 if top≤y∧y≤bot then (if (top:Int)≤(y:Int)+m∧(y:Int)+m≤bot then mAt M ((y:Int)+m).toNat else List.replicate (mAt M y).length (jer p)) else mAt M y
def jdz (M:List (List CD)) (top bot:Nat) (m:Int) (p:PD):List (List CD):=(List.range M.length).map (scrG M top bot m p)
theorem jsv {M:List (List CD)}{k r:Nat}(h:Rect M k r){top bot:Nat}{m:Int}{p:PD}(hb:bot<r){y:Nat}(hy:y<r):(scrG M top bot m p y).length=k:=by
 unfold scrG
 have h0:=(h.at_ hy).1
 by_cases h1:top≤y∧y≤bot
 ·rw[if_pos h1]
  by_cases h2:(top:Int)≤(y:Int)+m∧(y:Int)+m≤bot
  ·rw[if_pos h2]
   exact (h.at_ (show ((y:Int)+m).toNat<r by omega)).1
  ·rw[if_neg h2,List.length_replicate,h0]
 ·rw[if_neg h1,h0]
def jeA (L:List CD) (k r top bot:Nat) (m:Int) (p:PD) (y:Nat):List CD:=((List.range y).map (scrG (jbv L k r) top bot m p)).flatten++L.drop (y*k)
variable {L:List CD}{k r top bot:Nat}{m:Int}{p:PD}
theorem je2 (hL:L.length=k*r) (hb:bot<r):∀{y:Nat},y≤r→((List.range y).map (scrG (jbv L k r) top bot m p)).flatten.length=y*k
 | 0,_=>by simp
 | y+1,h=>by
  rw[jcE,List.flatten_append,List.length_append,je2 hL hb (by omega)]
  simp only[List.flatten_cons,List.flatten_nil,List.append_nil]
  rw[jsv (jdy hL) hb (by omega),Nat.succ_mul]
theorem jpx (hL:L.length=k*r) (hb:bot<r){y:Nat}(hy:y≤r):(jeA L k r top bot m p y).length=L.length:=by
 unfold jeA
 rw[List.length_append,je2 hL hb hy,List.length_drop,hL,Nat.mul_comm k r]
 have:=Nat.mul_le_mul_right k hy
 omega
theorem jqY (ht:top≤r):jeA L k r top bot m p top=L:=by
 unfold jeA
 have e:(List.range top).map (scrG (jbv L k r) top bot m p)=(List.range top).map (jbo L k):=by
  refine List.map_congr_left fun y hy=>?_
  have hy:=List.mem_range.1 hy
  unfold scrG
  rw[if_neg (by omega),jfN (by omega)]
 rw[e,jli,List.take_append_drop]
theorem jtr {y:Nat}(hy:y<r) (h:¬(top≤y∧y≤bot)) (hL:L.length=k*r):jeA L k r top bot m p (y+1)=jeA L k r top bot m p y:=by
 unfold jeA
 rw[jcE,List.flatten_append,List.append_assoc]
 congr 1
 unfold scrG
 rw[if_neg h,jfN hy]
 simp only[List.flatten_cons,List.flatten_nil,List.append_nil]
 unfold jbo
 rw[Nat.succ_mul,←List.drop_drop,List.take_append_drop]
theorem jpy (hL:L.length=k*r) (hb:bot<r) (ht:top≤bot):jeA L k r top bot m p (bot+1)=(jdz (jbv L k r) top bot m p).flatten:=by
 have key:∀d,bot+1+d≤r→jeA L k r top bot m p (bot+1+d)=jeA L k r top bot m p (bot+1):=fun d=>by
  induction d with
  | zero=>exact fun _=>rfl
  | succ d ih =>
   intro h
   rw[show bot+1+(d+1)=(bot+1+d)+1 by omega,jtr (by omega) (by omega) hL,ih (by omega)]
 rw[←key (r-(bot+1)) (by omega),show bot+1+(r-(bot+1))=r by omega]
 unfold jeA jdz
 rw[List.drop_of_length_le (by rw[hL,Nat.mul_comm];exact Nat.le_refl _),List.append_nil,jcC]
theorem jmJ (hL:L.length=k*r) (hb:bot<r){y:Nat}(hy:y<r) (ys:List CD) (h:ys=scrG (jbv L k r) top bot m p y) :
  (jeA L k r top bot m p y).take (y*k)++ys++(jeA L k r top bot m p y).drop (y*k+ys.length)=jeA L k r top bot m p (y+1):=by
 have hl:=je2 (top:=top) (m:=m) (p:=p) hL hb (Nat.le_of_lt hy)
 have hys:ys.length=k:=by rw[h];exact jsv (jdy hL) hb hy
 unfold jeA
 rw[←hl,List.take_left,jcE,List.flatten_append,←h,hl,hys]
 simp only[List.flatten_cons,List.flatten_nil,List.append_nil]
 congr 1
 rw[←hl,←List.drop_drop,List.drop_left,List.drop_drop,hl,Nat.succ_mul]
theorem jqZ {L:List CD}{k r:Nat}(hr:1≤r) (m:Int):jdz (jbv L k r) 0 (r-1) m pen0=jcl (jbv L k r) m:=by
 unfold jdz jcl
 refine List.map_congr_left fun y hy=>?_
 have hy:=List.mem_range.1 hy
 rw[jcC]at hy
 unfold scrG jj0
 rw[if_pos (by omega),jcC]
 by_cases h:0≤(y:Int)+m∧(y:Int)+m<r
 ·rw[if_pos (by omega),if_pos h]
 ·rw[if_neg (by omega),if_neg h]
  rfl
theorem jts {M:List (List CD)}{top bot:Nat}{m c:Int}{p:PD}{y:Nat}(ht:top≤bot) (hc:c=max (-((bot:Int)-top+1)) (min m ((bot:Int)-top+1))):scrG M top bot c p y=scrG M top bot m p y:=by
 unfold scrG
 by_cases h:top≤y∧y≤bot
 ·rw[if_pos h,if_pos h]
  by_cases h2:(top:Int)≤(y:Int)+m∧(y:Int)+m≤bot
  ·rw[if_pos (by omega),if_pos h2,show c=m by omega]
  ·rw[if_neg (by omega),if_neg h2]
 ·rw[if_neg h,if_neg h]
theorem jnR {M:List (List CD)}{top bot:Nat}{m c:Int}{p:PD}(ht:top≤bot) (hc:c=max (-((bot:Int)-top+1)) (min m ((bot:Int)-top+1))):jdz M top bot c p=jdz M top bot m p:=by
 unfold jdz
 exact List.map_congr_left fun y _=>jts ht hc
def jnS (S:List CD) (y k:Nat) (b:CD) (x:Nat):List CD:=S.take (y*k)++List.replicate x b++S.drop (y*k+x)
theorem jtt (S:List CD) (y k:Nat) (b:CD):jnS S y k b 0=S:=by simp[jnS]
theorem jvW {S:List CD}{y k x:Nat}{b:CD}(h:y*k+x≤S.length):(jnS S y k b x).length=S.length:=by
 simp[jnS]
 omega
theorem jvX {S:List CD}{y k x:Nat}{b:CD}(h:y*k+x<S.length):(jnS S y k b x).set (y*k+x) b=jnS S y k b (x+1):=by
 have hl:(S.take (y*k)++List.replicate x b).length=y*k+x:=by simp;omega
 unfold jnS
 rw[List.set_append_right _ _ (by rw[hl];exact Nat.le_refl _),hl,Nat.sub_self,List.replicate_succ',←List.append_assoc,List.append_assoc (S.take (y*k)++List.replicate x b)]
 congr 1
 rw[List.drop_eq_getElem_cons h]
 rfl
end
def jbh (W:List CD) (i:Nat):Nat:=if (cAt W i).wide=1 then 2 else 1
theorem jdA (W:List CD) (i:Nat):1≤jbh W i∧jbh W i≤2:=by unfold jbh;split<;>omega
def remF (oth:Nat→Bool) (wd:Nat→Nat) (N:Nat):Nat→Nat→List Nat
 | 0,_=>[]
 | f+1,i=>if i<N then (if oth i then [i] else [])++remF oth wd N f (i+wd i) else []
def rem (oth:Nat→Bool) (wd:Nat→Nat) (N i:Nat):List Nat:=remF oth wd N (N-i) i
theorem jlj {oth:Nat→Bool}{wd:Nat→Nat}{N:Nat}(hw:∀i,1≤wd i):∀(f g i:Nat),N-i≤f→N-i≤g→remF oth wd N f i=remF oth wd N g i
 | 0,0,i,_,_=>rfl
 | 0,g+1,i,h,_=>by rw[remF,remF,if_neg (by omega)]
 | f+1,0,i,_,h=>by rw[remF,remF,if_neg (by omega)]
 | f+1,g+1,i,h1,h2=>by
  rw[remF,remF]
  split
  ·have:=hw i
   rw[jlj hw f g (i+wd i) (by omega) (by omega)]
  ·rfl
theorem jkc {oth:Nat→Bool}{wd:Nat→Nat}{N i:Nat}(hw:∀i,1≤wd i) (hi:i<N):rem oth wd N i=(if oth i then [i] else [])++rem oth wd N (i+wd i):=by
 obtain⟨f,hf⟩:∃f,N-i=f+1:=⟨N-i-1,by omega⟩
 have:=hw i
 unfold rem
 rw[hf,remF,if_pos hi,jlj hw f (N-(i+wd i)) (i+wd i) (by omega) (Nat.le_refl _)]
theorem jz2 {oth:Nat→Bool}{wd:Nat→Nat}{N i:Nat}(hi:N≤i):rem oth wd N i=[]:=by
 unfold rem
 rw[show N-i=0 by omega]
 rfl
theorem jsw {oth:Nat→Bool}{wd:Nat→Nat}{N:Nat}(hw:∀i,1≤wd i):∀(f i:Nat),∀x∈remF oth wd N f i,i≤x∧x<N∧oth x=true
 | 0,i,x,h=>by cases h
 | f+1,i,x,h=>by
  rw[remF]at h
  split at h
  ·rename_i hi
   rcases List.mem_append.1 h with h|h
   ·split at h
    ·rw[List.mem_singleton]at h
     subst h
     rename_i ho
     exact⟨Nat.le_refl _,hi,ho⟩
    ·cases h
   ·have h1:=jsw hw f _ x h
    have h2:=hw i
    exact⟨by omega,h1.2.1,h1.2.2⟩
  ·cases h
theorem jvY {oth:Nat→Bool}{wd:Nat→Nat}{N i x:Nat}(hw:∀i,1≤wd i) (h:x∈rem oth wd N i):i≤x∧x<N∧oth x=true:=jsw hw _ _ x h
theorem jsx {oth:Nat→Bool}{wd:Nat→Nat}{N:Nat}:∀(f i:Nat),(remF oth wd N f i).length≤f
 | 0,i=>Nat.le_refl _
 | f+1,i=>by
  rw[remF]
  split
  ·rw[List.length_append]
   have:=jsx (oth:=oth) (wd:=wd) (N:=N) f (i+wd i)
   split<;>simp<;>omega
  ·simp
theorem jq0 {oth:Nat→Bool}{wd:Nat→Nat}{N i:Nat}:(rem oth wd N i).length≤N:=Nat.le_trans (jsx _ _) (by omega)
def runP (W:List CD) (p:PD):Nat→List Nat→List Nat×Nat×List Nat
 | e,[]=>([],e,[])
 | e,x::l=>if x=e∧(cAt W x).pen=p then ((x::(runP W p (e+jbh W x) l).1),(runP W p (e+jbh W x) l).2) else ([],e,x::l)
theorem jh8 (W:List CD) (p:PD):∀(l:List Nat) (e:Nat),(runP W p e l).1.length+(runP W p e l).2.2.length=l.length
 | [],e=>rfl
 | x::l,e=>by
  rw[runP]
  split
  ·have:=jh8 W p l (e+jbh W x)
   simp only[List.length_cons]
   omega
  ·simp
theorem jsy (W:List CD) (p:PD):∀(l:List Nat) (e:Nat),(runP W p e l).1++(runP W p e l).2.2=l
 | [],e=>rfl
 | x::l,e=>by
  rw[runP]
  split
  ·have:=jsy W p l (e+jbh W x)
   simp only[List.cons_append,this]
  ·simp
theorem jh9 (W:List CD) (x:Nat) (l:List Nat):(runP W (cAt W x).pen x (x::l)).1=x::(runP W (cAt W x).pen (x+jbh W x) l).1∧(runP W (cAt W x).pen x (x::l)).2=(runP W (cAt W x).pen (x+jbh W x) l).2:=by
 rw[runP,if_pos ⟨rfl,rfl⟩]
 exact⟨rfl,rfl⟩
def jlk (W:List CD) (l:List Nat):List Int:=l.flatMap fun x=>varN (cAt W x).rune.toNat
def penN (p:PD):List Nat:=[p.fg.toNat,p.bg.toNat,p.attrs.toNat,p.link.toNat]
def layR (W:List CD):Nat→Nat→List Nat→List Int×Nat
 | 0,_,_=>([],0)
 | f+1,bh,[]=>([],0)
 | f+1,bh,x::l=>(jpt ([x-bh,(runP W (cAt W x).pen x (x::l)).1.length]++penN (cAt W x).pen)++(jlk W (runP W (cAt W x).pen x (x::l)).1++(layR W f (runP W (cAt W x).pen x (x::l)).2.1 (runP W (cAt W x).pen x (x::l)).2.2).1),(layR W f (runP W (cAt W x).pen x (x::l)).2.1 (runP W (cAt W x).pen x (x::l)).2.2).2+1)
theorem jkd (W:List CD) (f bh:Nat):layR W f bh []=([],0):=by cases f<;>rfl
theorem jht (W:List CD):∀(f g bh:Nat) (l:List Nat),l.length≤f→l.length≤g→layR W f bh l=layR W g bh l
 | _,_,bh,[],_,_=>by rw[jkd,jkd]
 | 0,_,bh,x::l,h,_=>by simp at h
 | f+1,0,bh,x::l,_,h=>by simp at h
 | f+1,g+1,bh,x::l,h1,h2=>by
  have hh:=(jh9 W x l).1
  have hl:=jh8 W (cAt W x).pen (x::l) x
  rw[hh]at hl
  simp only[List.length_cons]at hl h1 h2
  rw[layR,layR,jht W f g _ (runP W (cAt W x).pen x (x::l)).2.2 (by omega) (by omega)]
theorem jvZ {n:Nat}(h:n<34359738368):(varN n).length≤5:=jsr n 4 (by omega)
theorem jll {W:List CD}(hW:∀q∈W,CWf q):∀l:List Nat,(jlk W l).length≤5*l.length
 | []=>by simp[jlk]
 | x::l=>by
  have ih:=jll hW l
  have h1:(varN (cAt W x).rune.toNat).length≤5:=jvZ (by
   rcases Nat.lt_or_ge x W.length with h|h
   ·have:=(hW (cAt W x) (by rw[jjQ (List.getElem?_eq_getElem h)];exact List.getElem_mem h)).rune
    omega
   ·have:cAt W x=default:=by unfold cAt;rw[List.getD_eq_getElem?_getD,List.getElem?_eq_none h];rfl
    rw[this]
    decide)
  simp only[jlk,List.flatMap_cons,List.length_append,List.length_cons]at ih ⊢
  omega
theorem jAW {W:List CD}(hW:∀q∈W,CWf q) (x:Nat):CWf (cAt W x):=by
 rcases Nat.lt_or_ge x W.length with h|h
 ·exact hW (cAt W x) (by rw[jjQ (List.getElem?_eq_getElem h)];exact List.getElem_mem h)
 ·have:cAt W x=default:=by unfold cAt;rw[List.getD_eq_getElem?_getD,List.getElem?_eq_none h];rfl
  rw[this]
  exact⟨by decide,by decide,by decide,by decide,by decide,by decide⟩
theorem jq1 {W:List CD}(hW:∀q∈W,CWf q){x bh n:Nat}(h1:x≤100000) (h2:n≤100000):∀y∈[x-bh,n]++penN (cAt W x).pen,y<9223372036854775808:=by
 have hw:=jAW hW x
 have:=hw.fg
 have:=hw.bg
 have:=hw.attrs
 have:=hw.link
 intro y hy
 simp[penN,CD.pen]at hy
 omega
theorem jnT {W:List CD}(hW:∀q∈W,CWf q):∀(f bh:Nat) (l:List Nat),l.length≤100000→(∀x∈l,x≤100000)→(layR W f bh l).1.length≤65*l.length∧(layR W f bh l).2≤l.length
 | _,_,[],_,_=>by simp[jkd]
 | 0,_,x::l,_,_=>by simp[layR]
 | f+1,bh,x::l,hl,hx=>by
  have hh:=(jh9 W x l).1
  have ha:=jsy W (cAt W x).pen (x::l) x
  have hc:=jh8 W (cAt W x).pen (x::l) x
  have ih:=jnT hW f (runP W (cAt W x).pen x (x::l)).2.1 (runP W (cAt W x).pen x (x::l)).2.2 (by omega) (fun y hy=>hx y (by rw[←ha];exact List.mem_append.2 (.inr hy)))
  have h1:=jll hW (runP W (cAt W x).pen x (x::l)).1
  have h3:1≤(runP W (cAt W x).pen x (x::l)).1.length:=by rw[hh];simp
  have h2:=jvS ([x-bh,(runP W (cAt W x).pen x (x::l)).1.length]++penN (cAt W x).pen) (jq1 hW (hx x (by simp)) (by omega))
  have h4:([x-bh,(runP W (cAt W x).pen x (x::l)).1.length]++penN (cAt W x).pen).length=6:=by simp[penN]
  rw[h4]at h2
  rw[layR]
  simp only[List.length_append]at h2 ⊢
  omega
theorem jpz {W:List CD}{p:PD}{e:Nat}:∀{l:List Nat},(∀x,l.head?=some x→x=e→(cAt W x).pen≠p)→runP W p e l=([],e,l)
 | [],h=>rfl
 | x::l,h=>by
  rw[runP,if_neg]
  rintro⟨h1,h2⟩
  exact h x rfl h1 h2
theorem jq2 {W:List CD}{p:PD}{e:Nat}{l:List Nat}(h:(cAt W e).pen=p):runP W p e (e::l)=(e::(runP W p (e+jbh W e) l).1,(runP W p (e+jbh W e) l).2):=by
 rw[runP,if_pos ⟨rfl,h⟩]
structure Inn (W:List CD) (p:PD) (oth:Nat→Bool) (i j kk:Nat) (rb:List Int):Prop where
 le:i≤j∧j≤W.length
 bytes:rb++jlk W (runP W p j (rem oth (jbh W) W.length j)).1=jlk W (runP W p i (rem oth (jbh W) W.length i)).1
 num:kk+(runP W p j (rem oth (jbh W) W.length j)).1.length=(runP W p i (rem oth (jbh W) W.length i)).1.length
 rest:(runP W p j (rem oth (jbh W) W.length j)).2=(runP W p i (rem oth (jbh W) W.length i)).2
theorem Inn.start {W:List CD}{p:PD}{oth:Nat→Bool}{i:Nat}(h:i≤W.length):Inn W p oth i i 0 []:=⟨⟨Nat.le_refl _,h⟩,rfl,by simp,rfl⟩
theorem Inn.go {W:List CD}{p:PD}{oth:Nat→Bool}{i j kk:Nat}{rb:List Int}(h:Inn W p oth i j kk rb) (hj:j<W.length) (ho:oth j=true) (hp:(cAt W j).pen=p) (hv:j+jbh W j≤W.length) :
  Inn W p oth i (j+jbh W j) (kk+1) (rb++varN (cAt W j).rune.toNat):=by
 have hr:=jkc (oth:=oth) (fun i=>(jdA W i).1) hj
 rw[if_pos ho]at hr
 have hg:=jq2 (l:=rem oth (jbh W) W.length (j+jbh W j)) hp
 rw[show [j]++rem oth (jbh W) W.length (j+jbh W j)=j::rem oth (jbh W) W.length (j+jbh W j)from rfl]at hr
 refine⟨⟨by have:=h.le;omega,hv⟩,?_,?_,?_⟩
 ·have:=h.bytes
  rw[hr,hg]at this
  rw[←this]
  simp[jlk]
 ·have:=h.num
  rw[hr,hg]at this
  simp only[List.length_cons]at this
  omega
 ·have:=h.rest
  rw[hr,hg]at this
  exact this
theorem Inn.done {W:List CD}{p:PD}{oth:Nat→Bool}{i j kk:Nat}{rb:List Int}(h:Inn W p oth i j kk rb) (hs:¬(j<W.length∧oth j=true∧(cAt W j).pen=p)) :
  rb=jlk W (runP W p i (rem oth (jbh W) W.length i)).1∧kk=(runP W p i (rem oth (jbh W) W.length i)).1.length∧(runP W p i (rem oth (jbh W) W.length i)).2=(j,rem oth (jbh W) W.length j):=by
 have hst:runP W p j (rem oth (jbh W) W.length j)=([],j,rem oth (jbh W) W.length j):=jpz (fun x hx he hp=>by
  have hm:=jvY (fun i=>(jdA W i).1) (List.mem_of_mem_head? hx)
  subst he
  exact hs ⟨hm.2.1,hm.2.2,hp⟩)
 have h1:=h.bytes
 have h2:=h.num
 have h3:=h.rest
 rw[hst]at h1 h2 h3
 refine⟨by simpa[jlk] using h1,by simpa using h2,h3.symm⟩
theorem jv0 (W:List CD) (p:PD):∀(l:List Nat) (e:Nat),e≤(runP W p e l).2.1
 | [],e=>Nat.le_refl _
 | x::l,e=>by
  rw[runP]
  split
  ·have:=jv0 W p l (e+jbh W x)
   exact Nat.le_trans (by omega) this
  ·exact Nat.le_refl _
theorem Inn.far {W:List CD}{oth:Nat→Bool}{i j kk:Nat}{rb:List Int}(h:Inn W (cAt W i).pen oth i j kk rb) (hi:i<W.length) (ho:oth i=true) (hs:¬(j<W.length∧oth j=true∧(cAt W j).pen=(cAt W i).pen)):i<j:=by
 obtain⟨e1,e2,e3⟩:=h.done hs
 have hr:=jkc (oth:=oth) (fun i=>(jdA W i).1) hi
 rw[if_pos ho]at hr
 obtain⟨l,hl⟩:∃l,rem oth (jbh W) W.length i=i::l:=⟨_,hr⟩
 rw[hl,(jh9 W i l).2]at e3
 have h1:=jv0 W (cAt W i).pen l (i+jbh W i)
 rw[e3]at h1
 have h2:=(jdA W i).1
 simp only at h1
 omega
structure Outn (W:List CD) (oth:Nat→Bool) (i bh nn:Nat) (bs:List Int):Prop where
 le:bh≤i∧i≤W.length
 bytes:bs++(layR W W.length bh (rem oth (jbh W) W.length i)).1=(layR W W.length 0 (rem oth (jbh W) W.length 0)).1
 num:nn+(layR W W.length bh (rem oth (jbh W) W.length i)).2=(layR W W.length 0 (rem oth (jbh W) W.length 0)).2
theorem Outn.skip {W:List CD}{oth:Nat→Bool}{i bh nn:Nat}{bs:List Int}(h:Outn W oth i bh nn bs) (hi:i<W.length) (ho:oth i=false) (hv:i+jbh W i≤W.length):Outn W oth (i+jbh W i) bh nn bs:=by
 have hr:=jkc (oth:=oth) (fun i=>(jdA W i).1) hi
 rw[ho]at hr
 simp only[Bool.false_eq_true,if_false,List.nil_append]at hr
 have h1:=h.bytes
 have h2:=h.num
 rw[hr]at h1 h2
 exact⟨⟨by have:=h.le;omega,hv⟩,h1,h2⟩
theorem Outn.go {W:List CD}{oth:Nat→Bool}{i bh nn j kk:Nat}{bs rb:List Int}(h:Outn W oth i bh nn bs) (hi:i<W.length) (ho:oth i=true) (hin:Inn W (cAt W i).pen oth i j kk rb) (hs:¬(j<W.length∧oth j=true∧(cAt W j).pen=(cAt W i).pen)) :
  Outn W oth j j (nn+1) (bs++jpt ([i-bh,kk]++penN (cAt W i).pen)++rb):=by
 obtain⟨e1,e2,e3⟩:=hin.done hs
 have hr:=jkc (oth:=oth) (fun i=>(jdA W i).1) hi
 rw[if_pos ho]at hr
 obtain⟨l,hl⟩:∃l,rem oth (jbh W) W.length i=i::l:=⟨_,hr⟩
 have hc:=jh8 W (cAt W i).pen (i::l) i
 have hh:=(jh9 W i l).1
 have hlen:(i::l).length≤W.length:=by rw[←hl];exact jq0
 rw[hl]at e1 e2 e3
 have hlay:layR W W.length bh (i::l)=(jpt ([i-bh,kk]++penN (cAt W i).pen)++(rb++(layR W W.length j (rem oth (jbh W) W.length j)).1),(layR W W.length j (rem oth (jbh W) W.length j)).2+1):=by
  obtain⟨f,hf⟩:∃f,W.length=f+1:=⟨W.length-1,by omega⟩
  have e5:layR W W.length j (rem oth (jbh W) W.length j)=layR W f j (rem oth (jbh W) W.length j):=by
   have hrl:(rem oth (jbh W) W.length j).length≤f:=by
    rw[hh,e3]at hc
    simp only[List.length_cons]at hc hlen
    omega
   exact jht W _ _ _ _ (by omega) hrl
  rw[e5]
  conv=>lhs;rw[hf]
  rw[layR,←e1,←e2,e3]
 have h1:=h.bytes
 have h2:=h.num
 rw[hl,hlay]at h1 h2
 refine⟨⟨Nat.le_refl _,hin.le.2⟩,?_,?_⟩
 ·rw[←h1]
  simp
 ·simp only at h2
  omega
theorem Outn.done {W:List CD}{oth:Nat→Bool}{i bh nn:Nat}{bs:List Int}(h:Outn W oth i bh nn bs) (hi:W.length≤i):bs=(layR W W.length 0 (rem oth (jbh W) W.length 0)).1∧nn=(layR W W.length 0 (rem oth (jbh W) W.length 0)).2:=by
 have h1:=h.bytes
 have h2:=h.num
 rw[jz2 hi,jkd]at h1 h2
 simp at h1 h2
 exact⟨h1,h2⟩
theorem Outn.small {W:List CD}(hW:∀q∈W,CWf q){oth:Nat→Bool}{i bh nn:Nat}{bs:List Int}(h:Outn W oth i bh nn bs) (hl:W.length≤2000):bs.length≤130000∧nn≤2000:=by
 have hr:(rem oth (jbh W) W.length 0).length≤W.length:=jq0
 have h1:=jnT hW W.length 0 (rem oth (jbh W) W.length 0) (by omega) (fun x hx=>by have:=jvY (fun i=>(jdA W i).1) hx;omega)
 have h2:=congrArg List.length h.bytes
 have h3:=h.num
 rw[List.length_append]at h2
 omega
theorem Inn.small {W:List CD}(hW:∀q∈W,CWf q){p:PD}{oth:Nat→Bool}{i j kk:Nat}{rb:List Int}(h:Inn W p oth i j kk rb) (hl:W.length≤2000):rb.length≤10000∧kk≤2000:=by
 have hr:(rem oth (jbh W) W.length i).length≤W.length:=jq0
 have hc:=jh8 W p (rem oth (jbh W) W.length i) i
 have h1:=jll hW (runP W p i (rem oth (jbh W) W.length i)).1
 have h2:=congrArg List.length h.bytes
 have h3:=h.num
 rw[List.length_append]at h2
 omega
structure Whole (W:List CD):Prop where
 left:∀i,i<W.length→(cAt W i).wide=1→i+1<W.length∧(cAt W (i+1)).wide=2
 right:∀i,i<W.length→(cAt W i).wide=2→0<i∧(cAt W (i-1)).wide=1
theorem Whole.fits {W:List CD}(h:Whole W){i:Nat}(hi:i<W.length):i+jbh W i≤W.length:=by
 unfold jbh
 split
 ·rename_i h1
  have:=(h.left i hi h1).1
  omega
 ·omega
structure InnR (W:List CD) (p:PD) (l:List Nat) (i x k e:Nat):Prop where
 le:i<k∧k≤l.length
 endd:e=l.getD (k-1) 0+jbh W (l.getD (k-1) 0)
 run:runP W p x (l.drop i)=((l.drop i).take (k-i)++(runP W p e (l.drop k)).1,(runP W p e (l.drop k)).2)
theorem jdE {l:List Nat}{i:Nat}(hi:i<l.length):l.drop i=l.getD i 0::l.drop (i+1):=by
 rw[List.drop_eq_getElem_cons hi,List.getD_eq_getElem?_getD,List.getElem?_eq_getElem hi]
 rfl
theorem InnR.start {W:List CD}{l:List Nat}{i x:Nat}(hi:i<l.length) (hx:x=l.getD i 0):InnR W (cAt W x).pen l i x (i+1) (x+jbh W x):=by
 refine⟨⟨by omega,hi⟩,by rw[Nat.add_sub_cancel,←hx],?_⟩
 rw[jdE hi,←hx,jq2 rfl,show i+1-i=1 by omega]
 rfl
theorem InnR.go {W:List CD}{p:PD}{l:List Nat}{i x k e:Nat}(h:InnR W p l i x k e) (hk:k<l.length) (he:l.getD k 0=e) (hp:(cAt W (l.getD k 0)).pen=p):InnR W p l i x (k+1) (e+jbh W e):=by
 refine⟨⟨by have:=h.le;omega,hk⟩,by rw[Nat.add_sub_cancel,he],?_⟩
 rw[h.run,jdE hk,he,jq2 (by rw[←he];exact hp)]
 have hle:=h.le
 have:(l.drop i).take (k+1-i)=(l.drop i).take (k-i)++[e]:=by
  rw[show k+1-i=(k-i)+1 by omega]
  refine jbC ?_
  rw[List.getElem?_drop,show i+(k-i)=k by omega,List.getElem?_eq_getElem hk,←he,List.getD_eq_getElem?_getD,List.getElem?_eq_getElem hk]
  rfl
 rw[this]
 simp
theorem InnR.done {W:List CD}{p:PD}{l:List Nat}{i x k e:Nat}(h:InnR W p l i x k e) (hs:¬(k<l.length∧l.getD k 0=e∧(cAt W (l.getD k 0)).pen=p)):runP W p x (l.drop i)=((l.drop i).take (k-i),e,l.drop k):=by
 rw[h.run,jpz (fun y hy he hp=>by
  by_cases hk:k<l.length
  ·rw[jdE hk]at hy
   simp only[List.head?_cons,Option.some.injEq]at hy
   exact hs ⟨hk,by rw[hy];exact he,by rw[hy];exact hp⟩
  ·rw[List.drop_of_length_le (by omega)]at hy
   cases hy)]
 simp
structure OutR (W:List CD) (l:List Nat) (i bh nn:Nat) (bs:List Int):Prop where
 le:i≤l.length
 bytes:bs++(layR W l.length bh (l.drop i)).1=(layR W l.length 0 l).1
 num:nn+(layR W l.length bh (l.drop i)).2=(layR W l.length 0 l).2
theorem OutR.go {W:List CD}{l:List Nat}{i bh nn k e x:Nat}{bs:List Int}(h:OutR W l i bh nn bs) (hi:i<l.length) (hx:x=l.getD i 0) (hin:InnR W (cAt W x).pen l i x k e) (hs:¬(k<l.length∧l.getD k 0=e∧(cAt W (l.getD k 0)).pen=(cAt W x).pen)) :
  OutR W l k e (nn+1) (bs++jpt ([x-bh,k-i]++penN (cAt W x).pen)++jlk W ((l.drop i).take (k-i))):=by
 have hd:=hin.done hs
 have hle:=hin.le
 have hc:l.drop i=x::l.drop (i+1):=by rw[jdE hi,←hx]
 have hlay:layR W l.length bh (l.drop i)=(jpt ([x-bh,k-i]++penN (cAt W x).pen)++(jlk W ((l.drop i).take (k-i))++(layR W l.length e (l.drop k)).1),(layR W l.length e (l.drop k)).2+1):=by
  obtain⟨f,hf⟩:∃f,l.length=f+1:=⟨l.length-1,by omega⟩
  have e5:layR W l.length e (l.drop k)=layR W f e (l.drop k):=jht W _ _ _ _ (by simp) (by simp;omega)
  rw[e5]
  conv=>lhs;rw[hf,hc]
  rw[layR,←hc,hd]
  have:((l.drop i).take (k-i)).length=k-i:=by simp;omega
  simp only[this]
 have h1:=h.bytes
 have h2:=h.num
 rw[hlay]at h1 h2
 refine⟨hle.2,?_,?_⟩
 ·rw[←h1]
  simp
 ·simp only at h2
  omega
theorem OutR.small {W:List CD}(hW:∀q∈W,CWf q){l:List Nat}{i bh nn:Nat}{bs:List Int}(h:OutR W l i bh nn bs) (hl:l.length≤2000) (hx:∀x∈l,x≤2000):bs.length≤130000∧nn≤2000:=by
 have h1:=jnT hW l.length 0 l (by omega) (fun x hx'=>by have:=hx x hx';omega)
 have h2:=congrArg List.length h.bytes
 have h3:=h.num
 rw[List.length_append]at h2
 omega
def undL (L1:List CD) (l1 l2:List ByteArray):List CD:=L1.map (ulf l1 l2)
theorem jx7 (l1 l2:List ByteArray) (c:CD):∃v,ulf l1 l2 c=c.withLink v∨ulf l1 l2 c=c:=by
 unfold ulf
 split
 ·exact⟨_,.inl rfl⟩
 ·exact⟨0,.inr rfl⟩
def Alk (a b:CD):Prop:=a.rune=b.rune∧a.wide=b.wide∧a.fg=b.fg∧a.bg=b.bg∧a.attrs=b.attrs
theorem jz3 (l1 l2:List ByteArray) (c:CD):Alk (ulf l1 l2 c) c:=by
 obtain⟨v,h|h⟩:=jx7 l1 l2 c<;>rw[h]<;>exact⟨rfl,rfl,rfl,rfl,rfl⟩
theorem jx8 {a b:CD}(h:Alk a b):mayB a=mayB b:=by
 obtain⟨h1,h2,h3,h4,h5⟩:=h
 unfold mayB penB
 simp only[CD.pen]
 rw[h1,h2,h3,h4]
theorem jq3 (f:CD→CD){l:List CD}{i:Nat}(h:i<l.length):cAt (l.map f) i=f (cAt l i):=by
 have h1:=List.getElem?_eq_getElem h
 rw[jjQ h1]
 exact jjQ (by rw[List.getElem?_map,h1];rfl)
theorem jx9 {f:CD→CD}(h:∀c,Alk (f c) c) (h2:∀a b,a.link=b.link→(f a).link=(f b).link){l:List CD}(hr:jdZ l=true):jdZ (l.map f)=true:=by
 unfold jdZ at hr ⊢
 simp only[Bool.and_eq_true,decide_eq_true_eq,List.all_eq_true,List.mem_range,List.length_map]at hr ⊢
 obtain⟨⟨⟨h3,h4⟩,h5⟩,h6⟩:=hr
 refine⟨⟨⟨h3,h4⟩,fun i hi=>?_⟩,?_⟩
 ·have h7:=(jfi _ _).1 (h5 i hi)
  rw[jfi,jq3 f hi,jq3 f (show i-1<l.length by omega)]
  obtain⟨a1,a2,a3⟩:=h7
  refine⟨by rw[jx8 (h _)];exact a1,by rw[(h _).2.1,(h _).2.1];exact a2,fun h0 hw=>?_⟩
  rw[(h _).2.1]at hw
  have hp:=a3 h0 hw
  have e1:=h (cAt l (i-1))
  have e2:=h (cAt l i)
  simp only[CD.pen,PD.mk.injEq]at hp ⊢
  exact⟨by rw[e1.2.2.1,e2.2.2.1];exact hp.1,by rw[e1.2.2.2.1,e2.2.2.2.1];exact hp.2.1,by rw[e1.2.2.2.2,e2.2.2.2.2];exact hp.2.2.1,h2 _ _ hp.2.2.2⟩
 ·rw[jq3 f (show l.length-1<l.length by omega),(h _).2.1]
  exact h6
theorem jv1 (f:CD→CD) (L:List CD) (k y:Nat):jbo (L.map f) k y=(jbo L k y).map f:=by
 unfold jbo
 rw[List.map_take,List.map_drop]
theorem jv2 {f:CD→CD}(h:∀c,Alk (f c) c) (h2:∀a b,a.link=b.link→(f a).link=(f b).link){k r:Int}{L:List CD}(hg:jcI k r L=true):jcI k r (L.map f)=true:=by
 unfold jcI at hg ⊢
 simp only[Bool.and_eq_true,List.all_eq_true,List.mem_range,List.length_map]at hg ⊢
 refine⟨hg.1,fun y hy=>?_⟩
 rw[jv1]
 exact jx9 h h2 (hg.2 y hy)
theorem jv3 {k r:Int}{L:List CD}(l1 l2:List ByteArray) (hg:jcI k r L=true):jcI k r (undL L l1 l2)=true :=
 jv2 (jz3 l1 l2) (fun a b e=>by
  unfold ulf
  rw[e]
  split
  ·rfl
  ·exact e) hg
theorem jnU {k r i:Nat}(hi:i<k*r):∃y x,i=y*k+x∧y<r∧x<k:=by
 have hk:0<k:=Nat.pos_of_ne_zero fun e=>by rw[e,Nat.zero_mul]at hi;omega
 refine⟨i / k,i % k,?_,Nat.div_lt_of_lt_mul hi,Nat.mod_lt _ hk⟩
 rw[Nat.mul_comm]
 exact (Nat.div_add_mod i k).symm
theorem jsz {k r y x:Nat}(hy:y<r) (hx:x<k):y*k+x<k*r:=by
 have h1:(y+1)*k≤k*r:=by rw[Nat.mul_comm k r];exact Nat.mul_le_mul_right _ (by omega)
 rw[Nat.succ_mul]at h1
 omega
theorem jnV {L:List CD}{k y x:Nat}(hx:x<k):cAt (jbo L k y) x=cAt L (y*k+x):=by
 unfold cAt jbo
 rw[List.getD_eq_getElem?_getD,List.getD_eq_getElem?_getD,List.getElem?_take_of_lt hx,List.getElem?_drop]
structure RFact (k r:Nat) (L:List CD) (x y mo:Nat) (ti:ByteArray) (l:List ByteArray):Prop where
 k1:1≤k∧k≤80
 r1:1≤r∧r≤24
 len:L.length=k*r
 grid:jcI k r L=true
 links:jct L l=true
 x1:x<k
 y1:y<r
 mo1:mo≤2
 ti1:ti.size≤64
 l1:l.length≤16
 s64:∀s∈l,s.size≤64
 runes:∀q∈L,0≤q.rune
 lk:∀t∈L,t.link≤(l.length:Int)
 row:∀y,y<r→jdZ (jbo L k y)=true
theorem jtu {s:ByteArray}(h:jdn s=true):s.size≤64:=by
 unfold jdn at h
 simp only[Bool.and_eq_true,decide_eq_true_eq]at h
 exact h.1.2
theorem jlm {L:List CD}{l:List ByteArray}(h:jct L l=true):∀s∈l,jdn s=true:=fun s hs=>by
 obtain⟨i,hi⟩:=List.getElem?_of_mem hs
 have hl:=(List.getElem?_eq_some_iff.1 hi).1
 unfold jct at h
 simp only[Bool.and_eq_true,List.all_eq_true,List.mem_range]at h
 have:=h.1.2 i hl
 unfold jh3 at this
 rw[jmA hi,Bool.and_eq_true]at this
 exact this.1
theorem RFact.fit {k r:Nat}{L:List CD}{x y mo:Nat}{ti:ByteArray}{l:List ByteArray}(h:RFact k r L x y mo ti l):∀y x,y<r→x<k→(cAt L (y*k+x)).wide=1→x+1<k:=fun y x hy hx hw=>by
 have hb:=h.row y hy
 unfold jdZ at hb
 simp only[Bool.and_eq_true,bne_iff_ne,ne_eq]at hb
 rcases Nat.lt_or_ge (x+1) k with h1|h1
 ·exact h1
 ·exfalso
  refine hb.2 ?_
  rw[jdM h.len hy,jnV (by omega),show k-1=x by omega]
  exact hw
theorem RFact.at_ {k r:Nat}{L:List CD}{x y mo:Nat}{ti:ByteArray}{l:List ByteArray}(h:RFact k r L x y mo ti l){y x:Nat}(hy:y<r) (hx:x<k) :
  ((0<x∧(cAt L (y*k+(x-1))).wide=1)↔(cAt L (y*k+x)).wide=2):=by
 have hb:=h.row y hy
 unfold jdZ at hb
 simp only[Bool.and_eq_true,List.all_eq_true,List.mem_range]at hb
 have:=((jfi _ _).1 (hb.1.2 x (by rw[jdM h.len hy];exact hx))).2.1
 rw[jnV hx,jnV (show x-1<k by omega)]at this
 exact this
theorem RFact.whole {k r:Nat}{L:List CD}{x y mo:Nat}{ti:ByteArray}{l:List ByteArray}(h:RFact k r L x y mo ti l):Whole L:=by
 refine⟨fun i hi hw=>?_,fun i hi hw=>?_⟩
 ·obtain⟨y,x,rfl,hy,hx⟩:=jnU (k:=k) (r:=r) (by rw[←h.len];exact hi)
  have h1:=h.fit y x hy hx hw
  have h2:=(h.at_ hy h1).1 ⟨by omega,by rw[Nat.add_sub_cancel];exact hw⟩
  exact⟨by rw[h.len];exact jsz hy h1,h2⟩
 ·obtain⟨y,x,rfl,hy,hx⟩:=jnU (k:=k) (r:=r) (by rw[←h.len];exact hi)
  have h2:=(h.at_ hy hx).2 hw
  exact⟨by omega,by rw[Nat.add_sub_assoc h2.1];exact h2.2⟩
theorem RFact.wide {k r:Nat}{L:List CD}{x y mo:Nat}{ti:ByteArray}{l:List ByteArray}(h:RFact k r L x y mo ti l):∀i,i<L.length→i+jbh L i≤L.length:=fun i hi=>h.whole.fits hi
theorem jz4 {L:List CD}{l1 l2:List ByteArray}(h:jct L l1=true){t:CD}(ht:t∈L) (h0:0≤t.link):ruf l1 l2 t=ulf l1 l2 t:=by
 have hlk:=jlm h
 unfold jct at h
 simp only[Bool.and_eq_true,decide_eq_true_eq]at h
 have hle:=jnG h.2 t ht
 unfold ruf ulf jss
 by_cases hz:t.link=0
 ·have e:jbf l1 t.link=emptyS:=by unfold jbf;rw[if_pos (.inl hz)]
  rw[if_neg (show ¬0<t.link by omega),if_neg (fun x=>x.1 e)]
  show { t with link:=0 }=t
  rw[←hz]
 ·obtain⟨k,hk⟩:∃k:Nat,t.link=(k:Int)+1:=⟨(t.link-1).toNat,by omega⟩
  obtain⟨s,hs⟩:∃s,l1[k]?=some s:=⟨_,List.getElem?_eq_getElem (by omega)⟩
  have hb:=hlk s (List.mem_of_getElem? hs)
  have he:jbf l1 t.link=s:=by rw[hk];exact jqR hs hb
  have h3:=jdm l2 s
  rw[if_pos (show 0<t.link by omega),he,hk,show ((k:Int)+1-1).toNat=k by omega,jmA hs]
  by_cases hp:0≤jbd l2 s
  ·rw[if_pos ⟨jh4 hb,hp⟩]
  ·rw[if_neg (fun x=>hp x.2),show jbd l2 s+1=0 by omega]
theorem jAX {k r:Nat}{L:List CD}(hL:L.length=k*r) (hk:1≤k) (m:Int){i:Nat}(hi:i<k*r):cAt (jcl (jbv L k r) m).flatten i=jx6 L (i+m*k):=by
 obtain⟨y,x,rfl,hy,hx⟩:=jnU hi
 have hR:=jdy (k:=k) (r:=r) hL
 have hS:=jnN hR m
 unfold cAt
 rw[List.getD_eq_getElem?_getD,jsu _ hS.row y x (by rw[hS.len];exact hy) hx,←List.getD_eq_getElem?_getD]
 have hm:mAt (jcl (jbv L k r) m) y=jj0 (jbv L k r) m y:=jvU (by
  unfold jcl
  rw[List.getElem?_map,List.getElem?_range (by rw[jcC];exact hy)]
  rfl)
 rw[hm]
 unfold jj0 jx6
 rw[jcC,hL]
 have e:((y*k+x:Nat):Int)+m*k=((y:Int)+m)*k+x:=by
  rw[Int.add_mul]
  push_cast
  omega
 rw[e]
 have hkk:(0:Int)<k:=by omega
 by_cases hc:0≤(y:Int)+m∧(y:Int)+m<r
 ·obtain⟨z,hz⟩:∃z:Nat,(y:Int)+m=z:=⟨((y:Int)+m).toNat,by omega⟩
  have hzr:z<r:=by omega
  rw[if_pos hc,hz,Int.toNat_natCast,jfN hzr]
  have h2:=jsz (k:=k) hzr hx
  have e2:((z:Int)*k+x)=((z*k+x:Nat):Int):=by push_cast;omega
  rw[e2,if_pos (by omega),Int.toNat_natCast]
  exact jnV hx
 ·rw[if_neg hc,jfN hy,jdM hL hy]
  have h3:¬(0≤((y:Int)+m)*k+x∧((y:Int)+m)*k+x<((k*r:Nat):Int)):=by
   rintro⟨a,b⟩
   refine hc ⟨?_,?_⟩
   ·rcases Int.lt_or_le ((y:Int)+m) 0 with hn|hn
    ·have:((y:Int)+m)*k≤(-1)*k:=Int.mul_le_mul_of_nonneg_right (by omega) (by omega)
     omega
    ·exact hn
   ·rcases Int.lt_or_le ((y:Int)+m) r with hn|hn
    ·exact hn
    ·have h4:(r:Int)*k≤((y:Int)+m)*k:=Int.mul_le_mul_of_nonneg_right hn (by omega)
     rw[Int.natCast_mul,Int.mul_comm (k:Int)]at b
     omega
  rw[if_neg h3,List.getD_eq_getElem?_getD,List.getElem?_replicate,if_pos hx]
  rfl
def jln (k r:Nat):List CD:=List.replicate (k*r) blank0
theorem jpA {k r:Nat}(hk:1≤k∧k≤80) (hr:1≤r∧r≤24):jcI k r (jln k r)=true:=by
 have hL:(jln k r).length=k*r:=by simp[jln]
 unfold jcI
 simp only[Bool.and_eq_true,List.all_eq_true,List.mem_range,beq_iff_eq]
 refine⟨⟨jh7.2 (by omega),by rw[hL];simp⟩,fun y hy=>?_⟩
 have hy':y<r:=by omega
 rw[Int.toNat_natCast]
 have hlen:=jdM hL hy'
 have hat:∀i,i<k→cAt (jbo (jln k r) k y) i=blank0:=fun i hi=>by
  obtain⟨q,hq⟩:∃q,(jbo (jln k r) k y)[i]?=some q:=⟨_,List.getElem?_eq_getElem (by omega)⟩
  rw[jjQ hq]
  exact List.eq_of_mem_replicate (jlg (List.mem_of_getElem? hq))
 have hm:mayB blank0=true:=by decide +kernel
 unfold jdZ
 simp only[Bool.and_eq_true,decide_eq_true_eq,List.all_eq_true,List.mem_range,bne_iff_ne,ne_eq]
 rw[hlen]
 refine⟨⟨⟨hk.1,hk.2⟩,fun i hi=>?_⟩,?_⟩
 ·rw[jfi,hat i hi,hat (i-1) (by omega)]
  exact⟨hm,by simp,fun _ _=>rfl⟩
 ·rw[hat (k-1) (by omega)]
  decide
theorem jq4 (l:List ByteArray) (n:Nat):jal l (List.replicate n blank0)=[]:=by
 induction n with
 | zero=>rfl
 | succ n ih =>
  rw[List.replicate_succ',jbT,ih]
  unfold jcP
  rw[if_neg (fun e=>(jh5 e.1).1 rfl)]
theorem jlo (l m:List ByteArray) (n:Nat):(List.replicate n blank0).map (jbJ l m)=List.replicate n blank0:=by
 have h:jbJ l m blank0=blank0:=by
  unfold jbJ jdt
  rw[if_pos (by unfold jbf;rw[if_pos (.inl rfl)])]
  rfl
 rw[List.map_replicate,h]
end
end Go.Proofs.YtcfkfgkndncanaaGreatDoor
