/- Texts of this claim, merged by a program of this claim: DiffM2. -/
import Derived.Test.YtienkkicehmchaaGreatDoorDa18
namespace Go.Proofs.YtienkkicehmchaaGreatDoor
set_option linter.unusedVariables false
set_option linter.unusedSimpArgs false
section
open Go.RowKit
set_option maxRecDepth 100000
set_option maxHeartbeats 4000000
section
variable {L:List CD}{k r top bot:Nat}{m:Int}{p:PD}
end
def jaj (W:List CD) (i:Nat):Nat:=if (cAt W i).wide=1 then 2 else 1
theorem jbq (W:List CD) (i:Nat):1≤jaj W i∧jaj W i≤2:=by unfold jaj;split<;>omega
def remF (oth:Nat→Bool) (wd:Nat→Nat) (N:Nat):Nat→Nat→List Nat
 | 0,_=>[]
 | f+1,i=>if i<N then (if oth i then [i] else [])++remF oth wd N f (i+wd i) else []
def rem (oth:Nat→Bool) (wd:Nat→Nat) (N i:Nat):List Nat:=remF oth wd N (N-i) i
theorem jg6 {oth:Nat→Bool}{wd:Nat→Nat}{N:Nat}(hw:∀i,1≤wd i):∀(f g i:Nat),N-i≤f→N-i≤g→remF oth wd N f i=remF oth wd N g i
 | 0,0,i,_,_=>rfl
 | 0,g+1,i,h,_=>by rw[remF,remF,if_neg (by omega)]
 | f+1,0,i,_,h=>by rw[remF,remF,if_neg (by omega)]
 | f+1,g+1,i,h1,h2=>by
  rw[remF,remF]
  split
  ·have:=hw i
   rw[jg6 hw f g (i+wd i) (by omega) (by omega)]
  ·rfl
theorem jfZ {oth:Nat→Bool}{wd:Nat→Nat}{N i:Nat}(hw:∀i,1≤wd i) (hi:i<N):rem oth wd N i=(if oth i then [i] else [])++rem oth wd N (i+wd i):=by
 obtain⟨f,hf⟩:∃f,N-i=f+1:=⟨N-i-1,by omega⟩
 have:=hw i
 unfold rem
 rw[hf,remF,if_pos hi,jg6 hw f (N-(i+wd i)) (i+wd i) (by omega) (Nat.le_refl _)]
theorem jsZ {oth:Nat→Bool}{wd:Nat→Nat}{N i:Nat}(hi:N≤i):rem oth wd N i=[]:=by
 unfold rem
 rw[show N-i=0 by omega]
 rfl
theorem jl8 {oth:Nat→Bool}{wd:Nat→Nat}{N:Nat}(hw:∀i,1≤wd i):∀(f i:Nat),∀x∈remF oth wd N f i,i≤x∧x<N∧oth x=true
 | 0,i,x,h=>by cases h
 | f+1,i,x,h=>by
  rw[remF]at h
  split at h
  ·rename_i hi
   rcases List.mem_append.1 h with h|h
   ·split at h
    ·rw[List.mem_singleton]at h
     subst h
     rename_i ho
     exact⟨Nat.le_refl _,hi,ho⟩
    ·cases h
   ·have h1:=jl8 hw f _ x h
    have h2:=hw i
    exact⟨by omega,h1.2.1,h1.2.2⟩
  ·cases h
theorem jpp {oth:Nat→Bool}{wd:Nat→Nat}{N i x:Nat}(hw:∀i,1≤wd i) (h:x∈rem oth wd N i):i≤x∧x<N∧oth x=true:=jl8 hw _ _ x h
theorem jl9 {oth:Nat→Bool}{wd:Nat→Nat}{N:Nat}:∀(f i:Nat),(remF oth wd N f i).length≤f
 | 0,i=>Nat.le_refl _
 | f+1,i=>by
  rw[remF]
  split
  ·rw[List.length_append]
   have:=jl9 (oth:=oth) (wd:=wd) (N:=N) f (i+wd i)
   split<;>simp<;>omega
  ·simp
theorem jlc {oth:Nat→Bool}{wd:Nat→Nat}{N i:Nat}:(rem oth wd N i).length≤N:=Nat.le_trans (jl9 _ _) (by omega)
def runP (W:List CD) (p:PD):Nat→List Nat→List Nat×Nat×List Nat
 | e,[]=>([],e,[])
 | e,x::l=>if x=e∧(cAt W x).pen=p then ((x::(runP W p (e+jaj W x) l).1),(runP W p (e+jaj W x) l).2) else ([],e,x::l)
theorem jeH (W:List CD) (p:PD):∀(l:List Nat) (e:Nat),(runP W p e l).1.length+(runP W p e l).2.2.length=l.length
 | [],e=>rfl
 | x::l,e=>by
  rw[runP]
  split
  ·have:=jeH W p l (e+jaj W x)
   simp only[List.length_cons]
   omega
  ·simp
theorem jma (W:List CD) (p:PD):∀(l:List Nat) (e:Nat),(runP W p e l).1++(runP W p e l).2.2=l
 | [],e=>rfl
 | x::l,e=>by
  rw[runP]
  split
  ·have:=jma W p l (e+jaj W x)
   simp only[List.cons_append,this]
  ·simp
theorem jeI (W:List CD) (x:Nat) (l:List Nat):(runP W (cAt W x).pen x (x::l)).1=x::(runP W (cAt W x).pen (x+jaj W x) l).1∧(runP W (cAt W x).pen x (x::l)).2=(runP W (cAt W x).pen (x+jaj W x) l).2:=by
 rw[runP,if_pos ⟨rfl,rfl⟩]
 exact⟨rfl,rfl⟩
def jg7 (W:List CD) (l:List Nat):List Int:=l.flatMap fun x=>varN (cAt W x).rune.toNat
def penN (p:PD):List Nat:=[p.fg.toNat,p.bg.toNat,p.attrs.toNat,p.link.toNat]
def layR (W:List CD):Nat→Nat→List Nat→List Int×Nat
 | 0,_,_=>([],0)
 | f+1,bh,[]=>([],0)
 | f+1,bh,x::l=>(jjW ([x-bh,(runP W (cAt W x).pen x (x::l)).1.length]++penN (cAt W x).pen)++(jg7 W (runP W (cAt W x).pen x (x::l)).1++(layR W f (runP W (cAt W x).pen x (x::l)).2.1 (runP W (cAt W x).pen x (x::l)).2.2).1),(layR W f (runP W (cAt W x).pen x (x::l)).2.1 (runP W (cAt W x).pen x (x::l)).2.2).2+1)
theorem jf0 (W:List CD) (f bh:Nat):layR W f bh []=([],0):=by cases f<;>rfl
theorem jed (W:List CD):∀(f g bh:Nat) (l:List Nat),l.length≤f→l.length≤g→layR W f bh l=layR W g bh l
 | _,_,bh,[],_,_=>by rw[jf0,jf0]
 | 0,_,bh,x::l,h,_=>by simp at h
 | f+1,0,bh,x::l,_,h=>by simp at h
 | f+1,g+1,bh,x::l,h1,h2=>by
  have hh:=(jeI W x l).1
  have hl:=jeH W (cAt W x).pen (x::l) x
  rw[hh]at hl
  simp only[List.length_cons]at hl h1 h2
  rw[layR,layR,jed W f g _ (runP W (cAt W x).pen x (x::l)).2.2 (by omega) (by omega)]
theorem jpq {n:Nat}(h:n<34359738368):(varN n).length≤5:=jl5 n 4 (by omega)
theorem jg8 {W:List CD}(hW:∀q∈W,CWf q):∀l:List Nat,(jg7 W l).length≤5*l.length
 | []=>by simp[jg7]
 | x::l=>by
  have ih:=jg8 hW l
  have h1:(varN (cAt W x).rune.toNat).length≤5:=jpq (by
   rcases Nat.lt_or_ge x W.length with h|h
   ·have:=(hW (cAt W x) (by rw[jgP (List.getElem?_eq_getElem h)];exact List.getElem_mem h)).rune
    omega
   ·have:cAt W x=default:=by unfold cAt;rw[List.getD_eq_getElem?_getD,List.getElem?_eq_none h];rfl
    rw[this]
    decide)
  simp only[jg7,List.flatMap_cons,List.length_append,List.length_cons]at ih ⊢
  omega
theorem jt3 {W:List CD}(hW:∀q∈W,CWf q) (x:Nat):CWf (cAt W x):=by
 rcases Nat.lt_or_ge x W.length with h|h
 ·exact hW (cAt W x) (by rw[jgP (List.getElem?_eq_getElem h)];exact List.getElem_mem h)
 ·have:cAt W x=default:=by unfold cAt;rw[List.getD_eq_getElem?_getD,List.getElem?_eq_none h];rfl
  rw[this]
  exact⟨by decide,by decide,by decide,by decide,by decide,by decide⟩
theorem jld {W:List CD}(hW:∀q∈W,CWf q){x bh n:Nat}(h1:x≤100000) (h2:n≤100000):∀y∈[x-bh,n]++penN (cAt W x).pen,y<9223372036854775808:=by
 have hw:=jt3 hW x
 have:=hw.fg
 have:=hw.bg
 have:=hw.attrs
 have:=hw.link
 intro y hy
 simp[penN,CD.pen]at hy
 omega
theorem ji9 {W:List CD}(hW:∀q∈W,CWf q):∀(f bh:Nat) (l:List Nat),l.length≤100000→(∀x∈l,x≤100000)→(layR W f bh l).1.length≤65*l.length∧(layR W f bh l).2≤l.length
 | _,_,[],_,_=>by simp[jf0]
 | 0,_,x::l,_,_=>by simp[layR]
 | f+1,bh,x::l,hl,hx=>by
  have hh:=(jeI W x l).1
  have ha:=jma W (cAt W x).pen (x::l) x
  have hc:=jeH W (cAt W x).pen (x::l) x
  have ih:=ji9 hW f (runP W (cAt W x).pen x (x::l)).2.1 (runP W (cAt W x).pen x (x::l)).2.2 (by omega) (fun y hy=>hx y (by rw[←ha];exact List.mem_append.2 (.inr hy)))
  have h1:=jg8 hW (runP W (cAt W x).pen x (x::l)).1
  have h3:1≤(runP W (cAt W x).pen x (x::l)).1.length:=by rw[hh];simp
  have h2:=joN ([x-bh,(runP W (cAt W x).pen x (x::l)).1.length]++penN (cAt W x).pen) (jld hW (hx x (by simp)) (by omega))
  have h4:([x-bh,(runP W (cAt W x).pen x (x::l)).1.length]++penN (cAt W x).pen).length=6:=by simp[penN]
  rw[h4]at h2
  rw[layR]
  simp only[List.length_append]at h2 ⊢
  omega
theorem jj4 {W:List CD}{p:PD}{e:Nat}:∀{l:List Nat},(∀x,l.head?=some x→x=e→(cAt W x).pen≠p)→runP W p e l=([],e,l)
 | [],h=>rfl
 | x::l,h=>by
  rw[runP,if_neg]
  rintro⟨h1,h2⟩
  exact h x rfl h1 h2
theorem jle {W:List CD}{p:PD}{e:Nat}{l:List Nat}(h:(cAt W e).pen=p):runP W p e (e::l)=(e::(runP W p (e+jaj W e) l).1,(runP W p (e+jaj W e) l).2):=by
 rw[runP,if_pos ⟨rfl,h⟩]
structure Inn (W:List CD) (p:PD) (oth:Nat→Bool) (i j kk:Nat) (rb:List Int):Prop where
 le:i≤j∧j≤W.length
 bytes:rb++jg7 W (runP W p j (rem oth (jaj W) W.length j)).1=jg7 W (runP W p i (rem oth (jaj W) W.length i)).1
 num:kk+(runP W p j (rem oth (jaj W) W.length j)).1.length=(runP W p i (rem oth (jaj W) W.length i)).1.length
 rest:(runP W p j (rem oth (jaj W) W.length j)).2=(runP W p i (rem oth (jaj W) W.length i)).2
theorem Inn.start {W:List CD}{p:PD}{oth:Nat→Bool}{i:Nat}(h:i≤W.length):Inn W p oth i i 0 []:=⟨⟨Nat.le_refl _,h⟩,rfl,by simp,rfl⟩
theorem Inn.go {W:List CD}{p:PD}{oth:Nat→Bool}{i j kk:Nat}{rb:List Int}(h:Inn W p oth i j kk rb) (hj:j<W.length) (ho:oth j=true) (hp:(cAt W j).pen=p) (hv:j+jaj W j≤W.length) :
  Inn W p oth i (j+jaj W j) (kk+1) (rb++varN (cAt W j).rune.toNat):=by
 have hr:=jfZ (oth:=oth) (fun i=>(jbq W i).1) hj
 rw[if_pos ho]at hr
 have hg:=jle (l:=rem oth (jaj W) W.length (j+jaj W j)) hp
 rw[show [j]++rem oth (jaj W) W.length (j+jaj W j)=j::rem oth (jaj W) W.length (j+jaj W j)from rfl]at hr
 refine⟨⟨by have:=h.le;omega,hv⟩,?_,?_,?_⟩
 ·have:=h.bytes
  rw[hr,hg]at this
  rw[←this]
  simp[jg7]
 ·have:=h.num
  rw[hr,hg]at this
  simp only[List.length_cons]at this
  omega
 ·have:=h.rest
  rw[hr,hg]at this
  exact this
theorem Inn.done {W:List CD}{p:PD}{oth:Nat→Bool}{i j kk:Nat}{rb:List Int}(h:Inn W p oth i j kk rb) (hs:¬(j<W.length∧oth j=true∧(cAt W j).pen=p)) :
  rb=jg7 W (runP W p i (rem oth (jaj W) W.length i)).1∧kk=(runP W p i (rem oth (jaj W) W.length i)).1.length∧(runP W p i (rem oth (jaj W) W.length i)).2=(j,rem oth (jaj W) W.length j):=by
 have hst:runP W p j (rem oth (jaj W) W.length j)=([],j,rem oth (jaj W) W.length j):=jj4 (fun x hx he hp=>by
  have hm:=jpp (fun i=>(jbq W i).1) (List.mem_of_mem_head? hx)
  subst he
  exact hs ⟨hm.2.1,hm.2.2,hp⟩)
 have h1:=h.bytes
 have h2:=h.num
 have h3:=h.rest
 rw[hst]at h1 h2 h3
 refine⟨by simpa[jg7] using h1,by simpa using h2,h3.symm⟩
theorem jpr (W:List CD) (p:PD):∀(l:List Nat) (e:Nat),e≤(runP W p e l).2.1
 | [],e=>Nat.le_refl _
 | x::l,e=>by
  rw[runP]
  split
  ·have:=jpr W p l (e+jaj W x)
   exact Nat.le_trans (by omega) this
  ·exact Nat.le_refl _
theorem Inn.far {W:List CD}{oth:Nat→Bool}{i j kk:Nat}{rb:List Int}(h:Inn W (cAt W i).pen oth i j kk rb) (hi:i<W.length) (ho:oth i=true) (hs:¬(j<W.length∧oth j=true∧(cAt W j).pen=(cAt W i).pen)):i<j:=by
 obtain⟨e1,e2,e3⟩:=h.done hs
 have hr:=jfZ (oth:=oth) (fun i=>(jbq W i).1) hi
 rw[if_pos ho]at hr
 obtain⟨l,hl⟩:∃l,rem oth (jaj W) W.length i=i::l:=⟨_,hr⟩
 rw[hl,(jeI W i l).2]at e3
 have h1:=jpr W (cAt W i).pen l (i+jaj W i)
 rw[e3]at h1
 have h2:=(jbq W i).1
 simp only at h1
 omega
structure Outn (W:List CD) (oth:Nat→Bool) (i bh nn:Nat) (bs:List Int):Prop where
 le:bh≤i∧i≤W.length
 bytes:bs++(layR W W.length bh (rem oth (jaj W) W.length i)).1=(layR W W.length 0 (rem oth (jaj W) W.length 0)).1
 num:nn+(layR W W.length bh (rem oth (jaj W) W.length i)).2=(layR W W.length 0 (rem oth (jaj W) W.length 0)).2
theorem Outn.skip {W:List CD}{oth:Nat→Bool}{i bh nn:Nat}{bs:List Int}(h:Outn W oth i bh nn bs) (hi:i<W.length) (ho:oth i=false) (hv:i+jaj W i≤W.length):Outn W oth (i+jaj W i) bh nn bs:=by
 have hr:=jfZ (oth:=oth) (fun i=>(jbq W i).1) hi
 rw[ho]at hr
 simp only[Bool.false_eq_true,if_false,List.nil_append]at hr
 have h1:=h.bytes
 have h2:=h.num
 rw[hr]at h1 h2
 exact⟨⟨by have:=h.le;omega,hv⟩,h1,h2⟩
theorem Outn.go {W:List CD}{oth:Nat→Bool}{i bh nn j kk:Nat}{bs rb:List Int}(h:Outn W oth i bh nn bs) (hi:i<W.length) (ho:oth i=true) (hin:Inn W (cAt W i).pen oth i j kk rb) (hs:¬(j<W.length∧oth j=true∧(cAt W j).pen=(cAt W i).pen)) :
  Outn W oth j j (nn+1) (bs++jjW ([i-bh,kk]++penN (cAt W i).pen)++rb):=by
 obtain⟨e1,e2,e3⟩:=hin.done hs
 have hr:=jfZ (oth:=oth) (fun i=>(jbq W i).1) hi
 rw[if_pos ho]at hr
 obtain⟨l,hl⟩:∃l,rem oth (jaj W) W.length i=i::l:=⟨_,hr⟩
 have hc:=jeH W (cAt W i).pen (i::l) i
 have hh:=(jeI W i l).1
 have hlen:(i::l).length≤W.length:=by rw[←hl];exact jlc
 rw[hl]at e1 e2 e3
 have hlay:layR W W.length bh (i::l)=(jjW ([i-bh,kk]++penN (cAt W i).pen)++(rb++(layR W W.length j (rem oth (jaj W) W.length j)).1),(layR W W.length j (rem oth (jaj W) W.length j)).2+1):=by
  obtain⟨f,hf⟩:∃f,W.length=f+1:=⟨W.length-1,by omega⟩
  have e5:layR W W.length j (rem oth (jaj W) W.length j)=layR W f j (rem oth (jaj W) W.length j):=by
   have hrl:(rem oth (jaj W) W.length j).length≤f:=by
    rw[hh,e3]at hc
    simp only[List.length_cons]at hc hlen
    omega
   exact jed W _ _ _ _ (by omega) hrl
  rw[e5]
  conv=>lhs;rw[hf]
  rw[layR,←e1,←e2,e3]
 have h1:=h.bytes
 have h2:=h.num
 rw[hl,hlay]at h1 h2
 refine⟨⟨Nat.le_refl _,hin.le.2⟩,?_,?_⟩
 ·rw[←h1]
  simp
 ·simp only at h2
  omega
theorem Outn.done {W:List CD}{oth:Nat→Bool}{i bh nn:Nat}{bs:List Int}(h:Outn W oth i bh nn bs) (hi:W.length≤i):bs=(layR W W.length 0 (rem oth (jaj W) W.length 0)).1∧nn=(layR W W.length 0 (rem oth (jaj W) W.length 0)).2:=by
 have h1:=h.bytes
 have h2:=h.num
 rw[jsZ hi,jf0]at h1 h2
 simp at h1 h2
 exact⟨h1,h2⟩
theorem Outn.small {W:List CD}(hW:∀q∈W,CWf q){oth:Nat→Bool}{i bh nn:Nat}{bs:List Int}(h:Outn W oth i bh nn bs) (hl:W.length≤2000):bs.length≤130000∧nn≤2000:=by
 have hr:(rem oth (jaj W) W.length 0).length≤W.length:=jlc
 have h1:=ji9 hW W.length 0 (rem oth (jaj W) W.length 0) (by omega) (fun x hx=>by have:=jpp (fun i=>(jbq W i).1) hx;omega)
 have h2:=congrArg List.length h.bytes
 have h3:=h.num
 rw[List.length_append]at h2
 omega
theorem Inn.small {W:List CD}(hW:∀q∈W,CWf q){p:PD}{oth:Nat→Bool}{i j kk:Nat}{rb:List Int}(h:Inn W p oth i j kk rb) (hl:W.length≤2000):rb.length≤10000∧kk≤2000:=by
 have hr:(rem oth (jaj W) W.length i).length≤W.length:=jlc
 have hc:=jeH W p (rem oth (jaj W) W.length i) i
 have h1:=jg8 hW (runP W p i (rem oth (jaj W) W.length i)).1
 have h2:=congrArg List.length h.bytes
 have h3:=h.num
 rw[List.length_append]at h2
 omega
structure Whole (W:List CD):Prop where
 left:∀i,i<W.length→(cAt W i).wide=1→i+1<W.length∧(cAt W (i+1)).wide=2
 right:∀i,i<W.length→(cAt W i).wide=2→0<i∧(cAt W (i-1)).wide=1
theorem Whole.fits {W:List CD}(h:Whole W){i:Nat}(hi:i<W.length):i+jaj W i≤W.length:=by
 unfold jaj
 split
 ·rename_i h1
  have:=(h.left i hi h1).1
  omega
 ·omega
structure InnR (W:List CD) (p:PD) (l:List Nat) (i x k e:Nat):Prop where
 le:i<k∧k≤l.length
 endd:e=l.getD (k-1) 0+jaj W (l.getD (k-1) 0)
 run:runP W p x (l.drop i)=((l.drop i).take (k-i)++(runP W p e (l.drop k)).1,(runP W p e (l.drop k)).2)
theorem jbr {l:List Nat}{i:Nat}(hi:i<l.length):l.drop i=l.getD i 0::l.drop (i+1):=by
 rw[List.drop_eq_getElem_cons hi,List.getD_eq_getElem?_getD,List.getElem?_eq_getElem hi]
 rfl
theorem InnR.start {W:List CD}{l:List Nat}{i x:Nat}(hi:i<l.length) (hx:x=l.getD i 0):InnR W (cAt W x).pen l i x (i+1) (x+jaj W x):=by
 refine⟨⟨by omega,hi⟩,by rw[Nat.add_sub_cancel,←hx],?_⟩
 rw[jbr hi,←hx,jle rfl,show i+1-i=1 by omega]
 rfl
theorem InnR.go {W:List CD}{p:PD}{l:List Nat}{i x k e:Nat}(h:InnR W p l i x k e) (hk:k<l.length) (he:l.getD k 0=e) (hp:(cAt W (l.getD k 0)).pen=p):InnR W p l i x (k+1) (e+jaj W e):=by
 refine⟨⟨by have:=h.le;omega,hk⟩,by rw[Nat.add_sub_cancel,he],?_⟩
 rw[h.run,jbr hk,he,jle (by rw[←he];exact hp)]
 have hle:=h.le
 have:(l.drop i).take (k+1-i)=(l.drop i).take (k-i)++[e]:=by
  rw[show k+1-i=(k-i)+1 by omega]
  refine jaK ?_
  rw[List.getElem?_drop,show i+(k-i)=k by omega,List.getElem?_eq_getElem hk,←he,List.getD_eq_getElem?_getD,List.getElem?_eq_getElem hk]
  rfl
 rw[this]
 simp
theorem InnR.done {W:List CD}{p:PD}{l:List Nat}{i x k e:Nat}(h:InnR W p l i x k e) (hs:¬(k<l.length∧l.getD k 0=e∧(cAt W (l.getD k 0)).pen=p)):runP W p x (l.drop i)=((l.drop i).take (k-i),e,l.drop k):=by
 rw[h.run,jj4 (fun y hy he hp=>by
  by_cases hk:k<l.length
  ·rw[jbr hk]at hy
   simp only[List.head?_cons,Option.some.injEq]at hy
   exact hs ⟨hk,by rw[hy];exact he,by rw[hy];exact hp⟩
  ·rw[List.drop_of_length_le (by omega)]at hy
   cases hy)]
 simp
structure OutR (W:List CD) (l:List Nat) (i bh nn:Nat) (bs:List Int):Prop where
 le:i≤l.length
 bytes:bs++(layR W l.length bh (l.drop i)).1=(layR W l.length 0 l).1
 num:nn+(layR W l.length bh (l.drop i)).2=(layR W l.length 0 l).2
theorem OutR.go {W:List CD}{l:List Nat}{i bh nn k e x:Nat}{bs:List Int}(h:OutR W l i bh nn bs) (hi:i<l.length) (hx:x=l.getD i 0) (hin:InnR W (cAt W x).pen l i x k e) (hs:¬(k<l.length∧l.getD k 0=e∧(cAt W (l.getD k 0)).pen=(cAt W x).pen)) :
  OutR W l k e (nn+1) (bs++jjW ([x-bh,k-i]++penN (cAt W x).pen)++jg7 W ((l.drop i).take (k-i))):=by
 have hd:=hin.done hs
 have hle:=hin.le
 have hc:l.drop i=x::l.drop (i+1):=by rw[jbr hi,←hx]
 have hlay:layR W l.length bh (l.drop i)=(jjW ([x-bh,k-i]++penN (cAt W x).pen)++(jg7 W ((l.drop i).take (k-i))++(layR W l.length e (l.drop k)).1),(layR W l.length e (l.drop k)).2+1):=by
  obtain⟨f,hf⟩:∃f,l.length=f+1:=⟨l.length-1,by omega⟩
  have e5:layR W l.length e (l.drop k)=layR W f e (l.drop k):=jed W _ _ _ _ (by simp) (by simp;omega)
  rw[e5]
  conv=>lhs;rw[hf,hc]
  rw[layR,←hc,hd]
  have:((l.drop i).take (k-i)).length=k-i:=by simp;omega
  simp only[this]
 have h1:=h.bytes
 have h2:=h.num
 rw[hlay]at h1 h2
 refine⟨hle.2,?_,?_⟩
 ·rw[←h1]
  simp
 ·simp only at h2
  omega
theorem OutR.small {W:List CD}(hW:∀q∈W,CWf q){l:List Nat}{i bh nn:Nat}{bs:List Int}(h:OutR W l i bh nn bs) (hl:l.length≤2000) (hx:∀x∈l,x≤2000):bs.length≤130000∧nn≤2000:=by
 have h1:=ji9 hW l.length 0 l (by omega) (fun x hx'=>by have:=hx x hx';omega)
 have h2:=congrArg List.length h.bytes
 have h3:=h.num
 rw[List.length_append]at h2
 omega
theorem ji8 (f:CD→CD){l:List CD}{i:Nat}(h:i<l.length):cAt (l.map f) i=f (cAt l i):=by
 have h1:=List.getElem?_eq_getElem h
 rw[jgP h1]
 exact jgP (by rw[List.getElem?_map,h1];rfl)
theorem jmb {k r i:Nat}(hi:i<k*r):∃y x,i=y*k+x∧y<r∧x<k:=by
 have hk:0<k:=Nat.pos_of_ne_zero fun e=>by rw[e,Nat.zero_mul]at hi;omega
 refine⟨i / k,i % k,?_,Nat.div_lt_of_lt_mul hi,Nat.mod_lt _ hk⟩
 rw[Nat.mul_comm]
 exact (Nat.div_add_mod i k).symm
theorem jq8 {k r y x:Nat}(hy:y<r) (hx:x<k):y*k+x<k*r:=by
 have h1:(y+1)*k≤k*r:=by rw[Nat.mul_comm k r];exact Nat.mul_le_mul_right _ (by omega)
 rw[Nat.succ_mul]at h1
 omega
theorem jlf {L:List CD}{k y x:Nat}(hx:x<k):cAt (jbH L k y) x=cAt L (y*k+x):=by
 unfold cAt jbH
 rw[List.getD_eq_getElem?_getD,List.getD_eq_getElem?_getD,List.getElem?_take_of_lt hx,List.getElem?_drop]
structure RFact (k r:Nat) (L:List CD) (x y mo:Nat) (ti:ByteArray) (l:List ByteArray):Prop where
 k1:1≤k∧k≤80
 r1:1≤r∧r≤24
 len:L.length=k*r
 grid:jb9 k r L=true
 links:jci L l=true
 x1:x<k
 y1:y<r
 mo1:mo≤2
 ti1:ti.size≤64
 l1:l.length≤16
 s64:∀s∈l,s.size≤64
 runes:∀q∈L,0≤q.rune
 lk:∀t∈L,t.link≤(l.length:Int)
 row:∀y,y<r→jbG (jbH L k y)=true
theorem RFact.fit {k r:Nat}{L:List CD}{x y mo:Nat}{ti:ByteArray}{l:List ByteArray}(h:RFact k r L x y mo ti l):∀y x,y<r→x<k→(cAt L (y*k+x)).wide=1→x+1<k:=fun y x hy hx hw=>by
 have hb:=h.row y hy
 unfold jbG at hb
 simp only[Bool.and_eq_true,bne_iff_ne,ne_eq]at hb
 rcases Nat.lt_or_ge (x+1) k with h1|h1
 ·exact h1
 ·exfalso
  refine hb.2 ?_
  rw[jgT h.len hy,jlf (by omega),show k-1=x by omega]
  exact hw
theorem RFact.at_ {k r:Nat}{L:List CD}{x y mo:Nat}{ti:ByteArray}{l:List ByteArray}(h:RFact k r L x y mo ti l){y x:Nat}(hy:y<r) (hx:x<k) :
  ((0<x∧(cAt L (y*k+(x-1))).wide=1)↔(cAt L (y*k+x)).wide=2):=by
 have hb:=h.row y hy
 unfold jbG at hb
 simp only[Bool.and_eq_true,List.all_eq_true,List.mem_range]at hb
 have:=((jcA _ _).1 (hb.1.2 x (by rw[jgT h.len hy];exact hx))).2.1
 rw[jlf hx,jlf (show x-1<k by omega)]at this
 exact this
theorem RFact.whole {k r:Nat}{L:List CD}{x y mo:Nat}{ti:ByteArray}{l:List ByteArray}(h:RFact k r L x y mo ti l):Whole L:=by
 refine⟨fun i hi hw=>?_,fun i hi hw=>?_⟩
 ·obtain⟨y,x,rfl,hy,hx⟩:=jmb (k:=k) (r:=r) (by rw[←h.len];exact hi)
  have h1:=h.fit y x hy hx hw
  have h2:=(h.at_ hy h1).1 ⟨by omega,by rw[Nat.add_sub_cancel];exact hw⟩
  exact⟨by rw[h.len];exact jq8 hy h1,h2⟩
 ·obtain⟨y,x,rfl,hy,hx⟩:=jmb (k:=k) (r:=r) (by rw[←h.len];exact hi)
  have h2:=(h.at_ hy hx).2 hw
  exact⟨by omega,by rw[Nat.add_sub_assoc h2.1];exact h2.2⟩
theorem RFact.wide {k r:Nat}{L:List CD}{x y mo:Nat}{ti:ByteArray}{l:List ByteArray}(h:RFact k r L x y mo ti l):∀i,i<L.length→i+jaj L i≤L.length:=fun i hi=>h.whole.fits hi
end
end Go.Proofs.YtienkkicehmchaaGreatDoor
