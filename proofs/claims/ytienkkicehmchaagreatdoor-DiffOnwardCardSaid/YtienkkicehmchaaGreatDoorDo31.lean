/- Texts of this claim, merged by a program of this claim: FRwA2. -/
import Derived.Test.YtienkkicehmchaaGreatDoorDo15
import Derived.Test.YtienkkicehmchaaGreatDoorDo18
import Derived.Test.YtienkkicehmchaaGreatDoorDo30
import Derived.Test.YtienkkicehmchaaGreatDoorDo6
namespace Go.Proofs.YtienkkicehmchaaGreatDoor
open And renaming intro→qaa
open Cos renaming intro→qab
noncomputable section
set_option linter.unusedVariables false
set_option linter.unusedSimpArgs false
section
open Go.RowKit
set_option maxRecDepth 100000
set_option maxHeartbeats 4000000
abbrev q_enewN (k r:Int):QM:=(([.int .i64 k,.int .i64 r],[]),jbr k r=false,.ret (.tup [.nilptr,.int .i64 1]),[])
def msp_enewN:=mspQ (u2 q_enewN)
theorem jos:W2 (hM msp_enewN) q_enewN:=w2 (aM rfl)
theorem jxC:Mu 163 msp_enewN:=ofM (u2 q_enewN) fun⟨k,r⟩ hG=>tfi (.a [.any,.any] jh7 jtQ .nil) 0 jfY (by
 dsimp only[u2,q_enewN]at hG ⊢
 have zc:=Hk.mk (@jlm)
 have hw:=hG
 repeat' first|refine tU ?_|refine qaa ?_ ?_|(refine tI ?_;intro hyp)|intro hyp0|exact tZ|omega
 exact qab [] [] rfl (by exact tF))
abbrev q_pblankN (k r:Int):QA:=([.int .i64 k,.int .i64 r],jbr k r=false,.ret (.tup [.agg [.int .i64 0,.int .i64 0,.vec .cell [],.int .i64 0,.int .i64 0,.bool false,.int .u8 0,.str (bs []),.vec .str []],.int .i64 1]))
def sp_pblankN:=spQ (u2 q_pblankN)
theorem jm1:W2 (hA sp_pblankN) q_pblankN:=w2 (aA rfl)
theorem jsq:Fre 136 sp_pblankN:=ofT (u2 q_pblankN) fun⟨k,r⟩ hG=>tfi (.m jfY jxC .nil) 0 jaT (by
 dsimp only[u2,q_pblankN]at hG ⊢
 have zc:=Hk.mk (@jos)
 repeat' first|exact hG|refine tU ?_|refine qaa ?_ ?_|(refine tI ?_;intro hyp)|intro hyp0|exact tZ|omega
 exact qab [99,98] [] rfl (by simp only[PB,SAM,seval,rdB,Hk.out zc];first|done|simp[crs,crsL,jaM]))
def fitQ:List CV→KH→Prop:=fun args _=>match args with
 | [.int _ k,.int _ r]=>jbr k r=true
 | _=>False
theorem jz2 (k r:Int) (h:KH):fitQ [.int .i64 k,.int .i64 r] h=(jbr k r=true):=rfl
def ti2G (d:List Int) (fl:Int) (ti:ByteArray):Nat×Int×ByteArray :=
 if fl / 2 % 2=1 then (if d.length≤5 then (5,2,bs []) else (tcA d 6 0 (d.getD 5 0).toNat,tcE d 6 0 (d.getD 5 0).toNat,jas (tcV d 6 0 (d.getD 5 0).toNat))) else (5,0,ti)
theorem jBR {n:Nat}(h:n≤7):n &&& 1=n % 2:=(show ∀n,n≤7→n &&& 1=n % 2 by decide) n h
theorem jBS {n:Nat}(h:n≤7):n &&& 2=if n / 2 % 2=1 then 2 else 0:=(show ∀n,n≤7→n &&& 2=if n / 2 % 2=1 then 2 else 0 by decide) n h
theorem jBT {n:Nat}(h:n≤7):n &&& 4=if n<4 then 0 else 4:=(show ∀n,n≤7→n &&& 4=if n<4 then 0 else 4 by decide) n h
theorem jz3 {d:List Int}{fl:Int}{s:RS}(hb:Bts d) (ha:s.a=5):((ti2G d fl s.ti).2.1≠0∧(ti1G d fl s).1=(ti2G d fl s.ti).2.1)∨((ti2G d fl s.ti).2.1=0∧ti1G d fl s=(0,{ s with ti:=(ti2G d fl s.ti).2.2,a:=(ti2G d fl s.ti).1 })):=by
 unfold ti2G ti1G
 by_cases h1:fl / 2 % 2=1
 ·rw[if_pos h1,if_pos h1]
  by_cases h2:d.length≤5
  ·rw[if_pos h2,if_pos (.inl h2)]
   exact .inl ⟨by simp,rfl⟩
  ·rw[if_neg h2]
   have h3:0≤d.getD 5 0:=(hb _ (jaX (by omega))).1
   by_cases h4:d.length<6+(d.getD 5 0).toNat
   ·rw[if_pos (.inr (by omega)),tcE,if_pos rfl,if_pos h4]
    exact .inl ⟨by simp,rfl⟩
   ·rw[if_neg (by omega),tcE,if_pos rfl,if_neg h4,tcV,if_pos ⟨rfl,by omega⟩,tcA,if_pos ⟨rfl,by omega⟩]
    exact .inr ⟨rfl,rfl⟩
 ·rw[if_neg h1,if_neg h1]
  exact .inr ⟨rfl,by rw[←ha]⟩
theorem jvj (d:List Int) (s:RS):jcJ d s=if (rdG d s.k.toNat s.r s.a 0 s.L).1≠0 then ((rdG d s.k.toNat s.r s.a 0 s.L).1,.bad) else (0,{ s with L:=(rdG d s.k.toNat s.r s.a 0 s.L).2.2 }):=by
 unfold jcJ rdG nuE
 rw[if_pos rfl]
 by_cases h1:d.length≤s.a
 ·rw[if_pos h1]
  simp only[show d.length<s.a+1 by omega,if_true]
  simp
 ·rw[if_neg h1]
  simp only[show ¬d.length<s.a+1 by omega,if_false]
  rw[if_neg (fun q:(0:Int)≠0=>q rfl)]
  split
  ·rfl
  ·split
   ·rfl
   ·rfl
theorem jyh {d:List Int}{k:Nat}{r:Int}{a:Nat}{e:Int}{L:List CD}(h:e≠0):rdG d k r a e L=(e,0,[]):=by
 have:=(jlP (d:=d) (a:=a) (s:=1) h).1
 rw[rdG,this,if_pos h]
theorem jxD {d:List Int}(hb:Bts d) (a:Nat):CWf (jhE d a):=by
 have h1:=jik hb (a+4) 2
 have h2:=jik hb (a+6) 2
 have h3:0≤d.getD (a+8) 0∧d.getD (a+8) 0<256:=by
  rcases Nat.lt_or_ge (a+8) d.length with q|q
  ·exact hb _ (jaX q)
  ·rw[List.getD_eq_getElem?_getD,List.getElem?_eq_none q]
   decide
 refine⟨jq4 _,⟨Int.le_refl 0,by show (0:Int)<256;omega⟩,?_,?_,h3,⟨Int.le_refl 0,by show (0:Int)<65536;omega⟩⟩
 ·show 0≤numV d (a+4) 2∧numV d (a+4) 2<4294967296
  omega
 ·show 0≤numV d (a+6) 2∧numV d (a+6) 2<4294967296
  omega
theorem jvk {d:List Int}(hb:Bts d):∀(n a pos:Nat) (L:List CD),(∀c∈L,CWf c)→(∀c∈(clG d n a pos L).2.2,CWf c)∧((clG d n a pos L).1=0→(clG d n a pos L).2.2.length=L.length)
 | 0,a,pos,L,h=>⟨h,fun _=>rfl⟩
 | n+1,a,pos,L,h=>by
  rw[clG]
  split
  ·exact⟨fun c hc=>(by cases hc),fun q=>absurd q (by decide)⟩
  ·split
   ·exact⟨fun c hc=>(by cases hc),fun q=>absurd q (by decide)⟩
   ·have:=jvk hb n (a+9) (pos+1) (L.set pos (jhE d a)) fun c hc=>by
     rcases List.mem_or_eq_of_mem_set hc with q|rfl
     ·exact h c q
     ·exact jxD hb a
    rwa [List.length_set]at this
theorem jvl {d:List Int}(hb:Bts d) (k:Nat) (r:Int):∀(n a:Nat) (last:Int) (L:List CD),(∀c∈L,CWf c)→(∀c∈(rwG d k r n a last L).2.2,CWf c)∧((rwG d k r n a last L).1=0→(rwG d k r n a last L).2.2.length=L.length)
 | 0,a,last,L,h=>⟨h,fun _=>rfl⟩
 | n+1,a,last,L,h=>by
  rw[rwG]
  split
  ·exact⟨fun c hc=>(by cases hc),fun q=>absurd q (by decide)⟩
  ·split
   ·exact⟨fun c hc=>(by cases hc),fun q=>absurd q (by decide)⟩
   ·split
    ·rename_i z
     exact⟨fun c hc=>(by cases hc),fun q=>absurd q z⟩
    ·rename_i z
     have h1:=jvk hb k (a+1) ((d.getD a 0).toNat*k) L h
     have h2:=jvl hb k r n (clG d k (a+1) ((d.getD a 0).toNat*k) L).2.1 (d.getD a 0) (clG d k (a+1) ((d.getD a 0).toNat*k) L).2.2 h1.1
     exact⟨h2.1,fun q=>(h2.2 q).trans (h1.2 (by simpa using z))⟩
theorem jz4 {d:List Int}(hb:Bts d) (k:Nat) (r:Int) (a:Nat) (e:Int) (L:List CD) (h:∀c∈L,CWf c):(∀c∈(rdG d k r a e L).2.2,CWf c)∧((rdG d k r a e L).1=0→(rdG d k r a e L).2.2.length=L.length):=by
 have hk:=jvl hb k r (d.getD a 0).toNat (a+1) (-1) L h
 rw[rdG]
 split
 ·rename_i z
  exact⟨fun c hc=>(by cases hc),fun q=>absurd q z⟩
 ·split
  ·rename_i z
   exact⟨fun c hc=>(by cases hc),fun q=>absurd q z⟩
  ·rename_i z
   split
   ·exact⟨fun c hc=>(by cases hc),fun q=>absurd q (by decide)⟩
   ·exact⟨hk.1,fun _=>hk.2 (by simpa using z)⟩
theorem jxE {d:List Int}(h5:5≤d.length) (fl:Int){ti:ByteArray}(ht:SLen ti) (hb:Bts d):(ti2G d fl ti).1≤d.length∧SLen (ti2G d fl ti).2.2:=by
 unfold ti2G
 split
 ·split
  ·exact⟨h5,by decide⟩
  ·refine⟨?_,?_⟩
   ·show tcA d 6 0 (d.getD 5 0).toNat≤d.length
    unfold tcA
    split<;>omega
   ·show SLen (jas (tcV d 6 0 (d.getD 5 0).toNat))
    have h1:(tcV d 6 0 (d.getD 5 0).toNat).length≤255:=by
     have:=(hb _ (jaX (L:=d) (k:=5) (d:=0) (by omega))).2
     unfold tcV
     split
     ·rw[List.length_take];omega
     ·simp
    have h2:=jbZ (tcV d 6 0 (d.getD 5 0).toNat)
    unfold SLen
    omega
 ·exact⟨h5,ht⟩
theorem jvm {k r:Int}{L:List CD}{x y mo:Int}{ti:ByteArray}{l:List ByteArray}(h:jaC k r L x y mo ti l=true):jal k r L x y mo ti l=true:=by
 unfold jaC at h
 simp only[Bool.and_eq_true,beq_iff_eq]at h
 exact h.1.1.1
theorem jvn {k r:Int}{L:List CD}{x y mo:Int}{ti:ByteArray}{l:List ByteArray}(h:jal k r L x y mo ti l=true):(L.length:Int)=k*r:=by
 unfold jal jbo at h
 simp only[Bool.and_eq_true,beq_iff_eq]at h
 exact h.1.1.1.1.1.1.1.1.1.2
theorem jvo {d:List Int}{a i:Nat}{e:Int}(h:(e=0∧a=i∧i≤d.length)∨e=2):(nuE d a e 1=0∧nuA d a e 1=i+1∧i+1≤d.length)∨nuE d a e 1=2:=by
 rcases h with⟨rfl,rfl,h⟩|rfl
 ·rcases Nat.lt_or_ge d.length (a+1)with q|q
  ·exact .inr (je3 q).1
  ·have:=jfH (d:=d) (a:=a) (by omega)
   exact .inl ⟨this.1,this.2.2,q⟩
 ·exact .inr (jlP (by decide)).1
abbrev jz5:List AK:=[.agg [.any,.any,.sl .cell,.any,.any,.any,.any,.any,.sl .str],.sl (.int .u8)]
abbrev q_rapp (k r:Int) (L:List CD) (x y:Int) (hd:Bool) (mo:Int) (ti:ByteArray) (l:List ByteArray) (d:List Int):QA:=([.agg [.int .i64 k,.int .i64 r,.vec .cell L,.int .i64 x,.int .i64 y,.bool hd,.int .u8 mo,.str ti,.vec .str l],.vec (.int .u8) d],ScrOk L l∧SLen ti∧(d.length≤1000000∧Bts d),.ret (.tup [.agg [.int .i64 (ap1G d ⟨k,r,L,x,y,hd,mo,ti,l,[],0⟩).2.k,.int .i64 (ap1G d ⟨k,r,L,x,y,hd,mo,ti,l,[],0⟩).2.r,.vec .cell (ap1G d ⟨k,r,L,x,y,hd,mo,ti,l,[],0⟩).2.L,.int .i64 (ap1G d ⟨k,r,L,x,y,hd,mo,ti,l,[],0⟩).2.x,.int .i64 (ap1G d ⟨k,r,L,x,y,hd,mo,ti,l,[],0⟩).2.y,.bool (ap1G d ⟨k,r,L,x,y,hd,mo,ti,l,[],0⟩).2.hd,.int .u8 (ap1G d ⟨k,r,L,x,y,hd,mo,ti,l,[],0⟩).2.mo,.str (ap1G d ⟨k,r,L,x,y,hd,mo,ti,l,[],0⟩).2.ti,.vec .str (ap1G d ⟨k,r,L,x,y,hd,mo,ti,l,[],0⟩).2.l],.int .i64 (ap1G d ⟨k,r,L,x,y,hd,mo,ti,l,[],0⟩).1]))
def sp_rapp:=spQ (u10 q_rapp)
theorem jsr:W10 (hA sp_rapp) q_rapp:=w10 (aA rfl)
theorem jz6:Al 101 sp_rapp:=ofA (u10 q_rapp) fun⟨k,r,L,x,y,hd,mo,ti,l,d⟩ hG=>tfi (.f jhx jdl jhy (.t [.sl .cell] jau jdM (.m jfZ jpv (.m jgk jz1 (.m jaP jie (.cons (jaY jaT) (jwx (c:=fitQ) (Fresh.soundT (ks:=[.any,.any]) jez) (Fresh.soundT (ks:=[.any,.any]) jsq)) (.m jbw jA4 (.m jkF jxB .nil)))))))) 0 jiM (by
 dsimp only[u10,q_rapp]at hG ⊢
 have zc:=Hk.mk (qaa @jdR (qaa @jbz (qaa @jgO (qaa @jpI (qaa @jcx (qaa @jm1 (qaa @jb3 (qaa @jz2 (qaa @jsp @jor)))))))))
 obtain⟨hs,ht,hdl,hb⟩:=hG
 obtain⟨A,hA⟩:∃A,A=ap1G d ⟨k,r,L,x,y,hd,mo,ti,l,[],0⟩:=⟨_,rfl⟩
 rw[←hA]
 have hz:∀e:Int,A=(e,jc3)→A=(e,⟨0,0,[],0,0,false,0,bs [],[],[],0⟩):=fun e h=>h
 have hn5:d.length≤1000000:=hdl
 cases hf:jaC k r L x y mo ti l
 ·have hA1:=hA.trans (if_pos hf)
  rw[hz _ hA1]
  have hw:=hf
  repeat' first|exact hs|exact ht|refine tU ?_|refine qab [] [0,1,2,3,4,5,6,7,8,9] rfl ?_|refine qaa ?_ ?_|(refine tI ?_;intro hyp)|intro hyp0|exact tZ|omega
  all_goals trace_state
 ·have hw:=hf
  by_cases h5:d.length<5
  ·have hA1:A=(2,jc3):=by
    rw[hA,ap1G,if_neg (by dsimp only;rw[hf];decide),if_pos (by rw[hd1G,if_pos h5];decide),hd1G,if_pos h5]
   rw[hz _ hA1]
   obtain⟨a1,ha1⟩:∃a,a=nuA d 0 0 1:=⟨_,rfl⟩
   obtain⟨e1,he1⟩:∃a,a=nuE d 0 0 1:=⟨_,rfl⟩
   obtain⟨a2,ha2⟩:∃a,a=nuA d a1 e1 1:=⟨_,rfl⟩
   obtain⟨e2,he2⟩:∃a,a=nuE d a1 e1 1:=⟨_,rfl⟩
   obtain⟨a3,ha3⟩:∃a,a=nuA d a2 e2 1:=⟨_,rfl⟩
   obtain⟨e3,he3⟩:∃a,a=nuE d a2 e2 1:=⟨_,rfl⟩
   obtain⟨a4,ha4⟩:∃a,a=nuA d a3 e3 1:=⟨_,rfl⟩
   obtain⟨e4,he4⟩:∃a,a=nuE d a3 e3 1:=⟨_,rfl⟩
   have l1:a1≤d.length:=by rw[ha1];exact joq (Nat.zero_le _) _ _
   have l2:a2≤d.length:=by rw[ha2];exact joq l1 _ _
   have l3:a3≤d.length:=by rw[ha3];exact joq l2 _ _
   have l4:a4≤d.length:=by rw[ha4];exact joq l3 _ _
   have s1:=jvo (d:=d) (a:=0) (i:=0) (e:=0) (.inl ⟨rfl,rfl,Nat.zero_le _⟩)
   rw[←ha1,←he1]at s1
   have s2:=jvo s1
   rw[←ha2,←he2]at s2
   have s3:=jvo s2
   rw[←ha3,←he3]at s3
   have s4:=jvo s3
   rw[←ha4,←he4]at s4
   have s5:nuE d a4 e4 1=2:=(jvo s4).elim (fun q=>absurd q.2.2 (by omega)) id
   have hw2:=qaa ha1.symm (qaa he1.symm (qaa ha2.symm (qaa he2.symm (qaa ha3.symm (qaa he3.symm (qaa ha4.symm (qaa he4.symm s5)))))))
   repeat' first|exact hs|exact ht|exact hb|exact (hb _ ‹_›).1|exact (hb _ ‹_›).2|refine tU ?_|refine qab [] [0,1,2,3,4,5,6,7,8,9] rfl ?_|refine qaa ?_ ?_|(refine tI ?_;intro hyp)|intro hyp0|exact tZ|omega
   all_goals trace_state
  ·obtain⟨c0,hc0⟩:∃c,c=d.getD 0 0:=⟨_,rfl⟩
   obtain⟨c1,hc1⟩:∃c,c=d.getD 1 0:=⟨_,rfl⟩
   obtain⟨c2,hc2⟩:∃c,c=d.getD 2 0:=⟨_,rfl⟩
   obtain⟨c3,hc3⟩:∃c,c=d.getD 3 0:=⟨_,rfl⟩
   obtain⟨c4,hc4⟩:∃c,c=d.getD 4 0:=⟨_,rfl⟩
   have n0:=jfH (d:=d) (a:=0) (by omega)
   have n1:=jfH (d:=d) (a:=0+1) (by omega)
   have n2:=jfH (d:=d) (a:=0+1+1) (by omega)
   have n3:=jfH (d:=d) (a:=0+1+1+1) (by omega)
   obtain⟨z5,hz5⟩:∃z:Nat,z=0+1+1+1+1+1:=⟨_,rfl⟩
   have n4:=jfH (d:=d) (a:=0+1+1+1+1) (by omega)
   rw[←hz5]at n4
   rw[←hc0]at n0
   rw[show d.getD (0+1) 0=c1 from hc1.symm]at n1
   rw[show d.getD (0+1+1) 0=c2 from hc2.symm]at n2
   rw[show d.getD (0+1+1+1) 0=c3 from hc3.symm]at n3
   rw[show d.getD (0+1+1+1+1) 0=c4 from hc4.symm]at n4
   have k0:0≤c0∧c0<256:=by rw[hc0];exact hb _ (jaX (by omega))
   have k1:0≤c1∧c1<256:=by rw[hc1];exact hb _ (jaX (by omega))
   have k2:0≤c2∧c2<256:=by rw[hc2];exact hb _ (jaX (by omega))
   have k3:0≤c3∧c3<256:=by rw[hc3];exact hb _ (jaX (by omega))
   have k4:0≤c4∧c4<256:=by rw[hc4];exact hb _ (jaX (by omega))
   have hw2:=qaa n0 (qaa n1 (qaa n2 (qaa n3 n4)))
   have hH0:hd1G d ⟨k,r,L,x,y,hd,mo,ti,l,[],0⟩=if 7<c4∨jbr c0 c1=false then (3,.bad) else if c4<4∧¬(c0=k∧c1=r) then (15,.bad) else (0,⟨c0,c1,if c4<4 then L else jah c0.toNat c1.toNat,c2,c3,decide (c4 % 2=1),if c4<4 then mo else 0,if c4<4 then ti else ⟨#[]⟩,if c4<4 then l else [],[],5⟩):=by
    rw[hd1G,if_neg h5,←hc0,←hc1,←hc2,←hc3,←hc4]
   have hA0:A=if (hd1G d ⟨k,r,L,x,y,hd,mo,ti,l,[],0⟩).1≠0 then ((hd1G d ⟨k,r,L,x,y,hd,mo,ti,l,[],0⟩).1,jc3) else
     if (ti1G d c4 (hd1G d ⟨k,r,L,x,y,hd,mo,ti,l,[],0⟩).2).1≠0 then ((ti1G d c4 (hd1G d ⟨k,r,L,x,y,hd,mo,ti,l,[],0⟩).2).1,jc3) else
     if (jcJ d (ti1G d c4 (hd1G d ⟨k,r,L,x,y,hd,mo,ti,l,[],0⟩).2).2).1≠0 then ((jcJ d (ti1G d c4 (hd1G d ⟨k,r,L,x,y,hd,mo,ti,l,[],0⟩).2).2).1,jc3) else
     if jaC (jcJ d (ti1G d c4 (hd1G d ⟨k,r,L,x,y,hd,mo,ti,l,[],0⟩).2).2).2.k (jcJ d (ti1G d c4 (hd1G d ⟨k,r,L,x,y,hd,mo,ti,l,[],0⟩).2).2).2.r (jcJ d (ti1G d c4 (hd1G d ⟨k,r,L,x,y,hd,mo,ti,l,[],0⟩).2).2).2.L (jcJ d (ti1G d c4 (hd1G d ⟨k,r,L,x,y,hd,mo,ti,l,[],0⟩).2).2).2.x (jcJ d (ti1G d c4 (hd1G d ⟨k,r,L,x,y,hd,mo,ti,l,[],0⟩).2).2).2.y (jcJ d (ti1G d c4 (hd1G d ⟨k,r,L,x,y,hd,mo,ti,l,[],0⟩).2).2).2.mo (jcJ d (ti1G d c4 (hd1G d ⟨k,r,L,x,y,hd,mo,ti,l,[],0⟩).2).2).2.ti (jcJ d (ti1G d c4 (hd1G d ⟨k,r,L,x,y,hd,mo,ti,l,[],0⟩).2).2).2.l=false then (3,jc3) else
     (0,(jcJ d (ti1G d c4 (hd1G d ⟨k,r,L,x,y,hd,mo,ti,l,[],0⟩).2).2).2):=by
    rw[hA,ap1G,if_neg (by dsimp only;rw[hf];decide),←hc4]
   obtain⟨H,hH⟩:∃H,H=hd1G d ⟨k,r,L,x,y,hd,mo,ti,l,[],0⟩:=⟨_,rfl⟩
   rw[←hH]at hA0 hH0
   clear hA
   by_cases hbad:7<c4∨jbr c0 c1=false
   ·rw[if_pos hbad]at hH0
    rw[hH0,if_pos (by decide)]at hA0
    rw[hz _ hA0]
    have hw3:(7<c4∨¬jbr c0 c1=true)=True:=eq_true (by simpa using hbad)
    cases hw4:jbr c0 c1
    ·repeat' first|exact hs|exact ht|exact hb|exact (hb _ ‹_›).1|exact (hb _ ‹_›).2|refine tU ?_|refine qab [] [0,1,2,3,4,5,6,7,8,9] rfl ?_|refine qaa ?_ ?_|(refine tI ?_;intro hyp)|intro hyp0|exact tZ|omega
     all_goals trace_state
    ·have h7:7<c4:=hbad.elim id (fun z=>absurd z (by rw[hw4];decide))
     have hw5:=eq_true h7
     repeat' first|exact hs|exact ht|exact hb|exact (hb _ ‹_›).1|exact (hb _ ‹_›).2|refine tU ?_|refine qab [] [0,1,2,3,4,5,6,7,8,9] rfl ?_|refine qaa ?_ ?_|(refine tI ?_;intro hyp)|intro hyp0|exact tZ|omega
   ·rw[if_neg hbad]at hH0
    have hc7:c4≤7:=by
     rcases Int.lt_or_le 7 c4 with z|z
     ·exact absurd (.inl z) hbad
     ·exact z
    have hfit:jbr c0 c1=true:=by simpa using fun z=>hbad (.inr z)
    obtain⟨K0,rfl⟩:∃m:Nat,c0=m:=⟨c0.toNat,by omega⟩
    obtain⟨R0,rfl⟩:∃m:Nat,c1=m:=⟨c1.toNat,by omega⟩
    obtain⟨C4,rfl⟩:∃m:Nat,c4=m:=⟨c4.toNat,by omega⟩
    have hfi:=jcb.1 hfit
    have hL6:L.length≤60000:=hs.len
    have hl6:l.length≤60000:=hs.links
    have m1:=jBR (n:=C4) (by omega)
    have m2:=jBS (n:=C4) (by omega)
    have m4:=jBT (n:=C4) (by omega)
    simp only[Int.toNat_natCast]at hH0
    by_cases hbase:(C4:Int)<4∧¬((K0:Int)=k∧(R0:Int)=r)
    ·rw[if_pos hbase]at hH0
     rw[hH0,if_pos (by decide)]at hA0
     rw[hz _ hA0]
     have hc4:C4<4:=by omega
     rw[if_pos hc4]at m4
     have hw3:=qaa hfit m4
     have h7:¬(7:Int)<C4:=by omega
     have hb2:((¬(K0:Int)=k∨¬(R0:Int)=r))=True:=eq_true (by
      rcases Decidable.em ((K0:Int)=k)with z|z
      ·exact .inr fun z2=>hbase.2 ⟨z,z2⟩
      ·exact .inl z)
     have hw4:=qaa (eq_false h7) hb2
     repeat' first|exact hs|exact ht|exact hb|exact (hb _ ‹_›).1|exact (hb _ ‹_›).2|refine tU ?_|refine qab [] [0,1,2,3,4,5,6,7,8,9] rfl ?_|refine qaa ?_ ?_|(refine tI ?_;intro hyp)|intro hyp0|exact tZ|omega
     all_goals trace_state
    ·rw[if_neg hbase]at hH0
     obtain⟨L0,hL0⟩:∃X,X=if (C4:Int)<4 then L else jah K0 R0:=⟨_,rfl⟩
     obtain⟨x0,hx0⟩:∃X,X=if (C4:Int)<4 then x else 0:=⟨_,rfl⟩
     obtain⟨y0,hy0⟩:∃X,X=if (C4:Int)<4 then y else 0:=⟨_,rfl⟩
     obtain⟨d0,hd0⟩:∃X,X=if (C4:Int)<4 then hd else false:=⟨_,rfl⟩
     obtain⟨mo0,hmo0⟩:∃X,X=if (C4:Int)<4 then mo else 0:=⟨_,rfl⟩
     obtain⟨ti0,hti0⟩:∃X,X=if (C4:Int)<4 then ti else ⟨#[]⟩:=⟨_,rfl⟩
     obtain⟨l0,hl0⟩:∃X,X=if (C4:Int)<4 then l else []:=⟨_,rfl⟩
     rw[←hL0,←hmo0,←hti0,←hl0]at hH0
     have h7:¬(7:Int)<C4:=by omega
     have hw3:=hfit
     repeat' first|exact hs|exact ht|exact hb|exact (hb _ ‹_›).1|exact (hb _ ‹_›).2|refine T.cut (a:=z117_13) (fun _:Unit=>⟨[(4,.ptr 0 0 0),(6,.ptr 1 0 0),(7,.fn 138 [.ptr 1 0 0]),(10,.int .i64 c2),(11,.int .i64 c3),(12,.int .i64 C4),(13,.ptr 3 0 0)],[.box [.int .i64 0,.int .i64 0,.nils,.int .i64 0,.int .i64 0,.bool false,.int .u8 0,.str (bs []),.nils],.box [.ptr 2 0 0],rdr d z5 0,.box [.int .i64 K0,.int .i64 R0,.slice 4 0 6 L0.length L0.length,.int .i64 x0,.int .i64 y0,.bool d0,.int .u8 mo0,.str ti0,.vec .str l0],.seq .cell L0]⟩) (fun _=>True) (Held.out ?_) (fun _ _=>Held.out ?_)|refine tU ?_|refine qaa ?_ ?_|(refine tI ?_;intro hyp)|intro hyp0|exact tZ|omega
     ·refine⟨?_⟩
      have hw4:=eq_false h7
      by_cases hc4:C4<4
      ·have hc:(C4:Int)<4:=by omega
       rw[if_pos hc4]at m4
       rw[if_pos hc]at hL0 hx0 hy0 hd0 hmo0 hti0 hl0
       have hkr:(K0:Int)=k∧(R0:Int)=r:=by
        rcases Decidable.em ((K0:Int)=k∧(R0:Int)=r)with z|z
        ·exact z
        ·exact absurd ⟨hc,z⟩ hbase
       obtain⟨rfl,rfl⟩:=hkr
       have hw5:=m4
       repeat' first|refine tU ?_|refine qaa ?_ ?_|(refine tI ?_;intro hyp)|intro hyp0|exact tZ|omega
       exact⟨(),qab [1,3,2,6,7] [] rfl (by rw[hL0,hx0,hy0,hd0,hmo0,hti0,hl0];exact tF)⟩
      ·have hc:¬(C4:Int)<4:=by omega
       rw[if_neg hc4]at m4
       rw[if_neg hc]at hL0 hx0 hy0 hd0 hmo0 hti0 hl0
       have hw5:=m4
       have hbl:(jah K0 R0).length=K0*R0:=by simp[jah]
       repeat' first|refine tU ?_|refine qaa ?_ ?_|(refine tI ?_;intro hyp)|intro hyp0|exact tZ|omega
       exact⟨(),qab [1,3,2,6,4] [5] rfl (by rw[hL0,hx0,hy0,hd0,hmo0,hti0,hl0,hbl];exact tF)⟩
     refine⟨?_⟩
     obtain⟨hh,hhh⟩:∃X,X=decide ((C4:Int) % 2=1):=⟨_,rfl⟩
     have hhid:(!decide (((C4 % 2:Nat):Int)=0))=hh:=by
      rw[hhh]
      rcases Nat.mod_two_eq_zero_or_one C4 with z|z
      ·rw[z,show (C4:Int) % 2=0 by omega];rfl
      ·rw[z,show (C4:Int) % 2=1 by omega];rfl
     rw[←hhh]at hH0
     obtain⟨a6,ha6⟩:∃X,X=(ti2G d C4 ti0).1:=⟨_,rfl⟩
     obtain⟨e6,he6⟩:∃X,X=(ti2G d C4 ti0).2.1:=⟨_,rfl⟩
     obtain⟨t6,ht6⟩:∃X,X=(ti2G d C4 ti0).2.2:=⟨_,rfl⟩
     have hw4:=qaa m1 hhid
     have m1b:((C4 % 2:Nat):Int)≤9223372036854775807:=by omega
     repeat' first|refine T.cut (a:=z117_25) (fun _:Unit=>⟨[(4,.ptr 0 0 0),(6,.ptr 1 0 0),(13,.ptr 3 0 0)],[.box [.int .i64 0,.int .i64 0,.nils,.int .i64 0,.int .i64 0,.bool false,.int .u8 0,.str (bs []),.nils],.box [.ptr 2 0 0],rdr d a6 e6,.box [.int .i64 K0,.int .i64 R0,.slice 4 0 6 L0.length L0.length,.int .i64 c2,.int .i64 c3,.bool hh,.int .u8 mo0,.str t6,.vec .str l0],.seq .cell L0]⟩) (fun _=>True) (Held.out ?_) (fun _ _=>Held.out ?_)|refine tU ?_|refine qaa ?_ ?_|(refine tI ?_;intro hyp)|intro hyp0|exact tZ|omega
     ·refine⟨?_⟩
      by_cases hbit:C4 / 2 % 2=1
      ·have hI:(C4:Int) / 2 % 2=1:=by omega
       rw[if_pos hbit]at m2
       rw[ti2G,if_pos hI]at ha6 he6 ht6
       by_cases h55:d.length≤5
       ·rw[if_pos h55]at ha6 he6 ht6
        dsimp only at ha6 he6 ht6
        obtain⟨z0,hz0⟩:∃z:Nat,z=0:=⟨_,rfl⟩
        have nn:=je3 (d:=d) (a:=z5) (s:=1) (by omega)
        have nv:nuV d z5 0 1=(z0:Int):=by rw[nn.2.1,hz0];rfl
        have t1:tcE d z5 2 z0=2:=if_neg (by decide)
        have t2:tcV d z5 2 z0=[]:=if_neg (fun q=>absurd q.1 (by decide))
        have t3:tcA d z5 2 z0=z5:=if_neg (fun q=>absurd q.1 (by decide))
        have hw5:=qaa m2 (qaa nv (qaa nn.1 (qaa nn.2.2 (qaa t1 (qaa t2 t3)))))
        have hz6:a6=z5:=by omega
        repeat' first|exact hb|exact (hb _ ‹_›).1|exact (hb _ ‹_›).2|refine tU ?_|refine qaa ?_ ?_|(refine tI ?_;intro hyp)|intro hyp0|exact tZ|omega
        exact⟨(),qab [0,1,2,3,4] [] rfl (by rw[hz6,he6,ht6];first|(exact tF)|(simp only[PB,SAM,seval,rdB,Hk.out zc];decide))⟩
       ·rw[if_neg h55]at ha6 he6 ht6
        dsimp only at ha6 he6 ht6
        obtain⟨n,hn⟩:∃z:Nat,z=(d.getD 5 0).toNat:=⟨_,rfl⟩
        obtain⟨z6,hz6⟩:∃z:Nat,z=z5+1:=⟨_,rfl⟩
        rw[←hn,show 6=z6 by omega]at ha6 he6 ht6
        have nn:=jfH (d:=d) (a:=z5) (by omega)
        have g5:=hb _ (jaX (L:=d) (k:=5) (d:=0) (by omega))
        have nv:nuV d z5 0 1=(n:Int):=by rw[nn.2.1,show z5=5 by omega];omega
        have na:nuA d z5 0 1=z6:=by rw[nn.2.2,hz6]
        have hw5:=qaa m2 (qaa nv (qaa nn.1 (qaa na (qaa ha6.symm (qaa he6.symm ht6.symm)))))
        repeat' first|exact hb|exact (hb _ ‹_›).1|exact (hb _ ‹_›).2|refine tU ?_|refine qaa ?_ ?_|(refine tI ?_;intro hyp)|intro hyp0|exact tZ|omega
        exact⟨(),qab [0,1,2,3,4] [] rfl (by simp only[rdr];exact tF)⟩
      ·have hI:¬(C4:Int) / 2 % 2=1:=by omega
       rw[if_neg hbit]at m2
       rw[ti2G,if_neg hI]at ha6 he6 ht6
       dsimp only at ha6 he6 ht6
       have hw5:=m2
       have hz6:a6=z5:=by omega
       repeat' first|refine tU ?_|refine qaa ?_ ?_|(refine tI ?_;intro hyp)|intro hyp0|exact tZ|omega
       exact⟨(),qab [0,1,2,3,4] [] rfl (by rw[hz6,he6,ht6];exact tF)⟩
     refine⟨?_⟩
     have hkt:=jxE (d:=d) (by omega) (C4:Int) (ti:=ti0) (by rw[hti0];split;exact ht;decide) hb
     rw[←ha6,←ht6]at hkt
     have hLwf:∀c∈L0,CWf c:=fun c hc=>by
      rw[hL0]at hc
      split at hc
      ·exact hs.wf c hc
      ·rw[List.eq_of_mem_replicate hc];exact jnM
     have hLl:L0.length=K0*R0:=by
      rw[hL0]
      split
      ·rename_i hc
       have hkr:(K0:Int)=k∧(R0:Int)=r:=by
        rcases Decidable.em ((K0:Int)=k∧(R0:Int)=r)with z|z
        ·exact z
        ·exact absurd ⟨hc,z⟩ hbase
       have hg:=jvn (jvm hf)
       rw[←hkr.1,←hkr.2,←Int.natCast_mul]at hg
       omega
      ·simp[jah]
     have hl0s:∀s∈l0,SLen s:=fun s hs'=>by
      rw[hl0]at hs'
      split at hs'
      ·exact hs.slen s hs'
      ·cases hs'
     have hl0n:l0.length≤60000:=by
      rw[hl0]
      split
      ·exact hl6
      ·simp
     obtain⟨g,hg⟩:∃X,X=rdG d K0 R0 a6 e6 L0:=⟨_,rfl⟩
     have hgk:=jz4 hb K0 R0 a6 e6 L0 hLwf
     rw[←hg]at hgk
     have hKR:K0*R0≤1920:=Nat.mul_le_mul (show K0≤80 by omega) (show R0≤24 by omega)
     have hti:=jz3 (d:=d) (fl:=(C4:Int)) (s:=⟨K0,R0,L0,c2,c3,hh,mo0,ti0,l0,[],5⟩) hb rfl
     rw[hH0,if_neg (fun q:(0:Int)≠0=>q rfl)]at hA0
     dsimp only at hti
     rw[←he6,←ha6,←ht6]at hti
     have hcond:(a6≤d.length∧d.length≤1000000∧Bts d)∧(1≤K0∧K0≤80)∧(1≤R0∧R0≤24)∧L0.length=K0*R0:=⟨⟨hkt.1,hdl,hb⟩,by omega,by omega,hLl⟩
     by_cases hg0:g.1=0
     ·have he0:e6=0:=by
       rcases Decidable.em (e6=0)with z|z
       ·exact z
       ·rw[jyh z]at hg
        rw[hg]at hg0
        exact hg0
      rcases hti with⟨z,_⟩|⟨_,hti⟩
      ·exact absurd he0 z
      rw[hti,if_neg (fun q:(0:Int)≠0=>q rfl),jvj]at hA0
      dsimp only at hA0
      rw[Int.toNat_natCast,show rdG d K0 R0 a6 0 L0=g by rw[hg,he0]]at hA0
      simp only[hg0,ne_eq,not_true_eq_false,if_false]at hA0
      obtain⟨g1,b,M⟩:=g
      dsimp only at hg0 hA0 hgk
      subst hg0
      have hMl:=hgk.2 rfl
      have hM:ScrOk M l0:=⟨hgk.1,by omega,hl0n,hl0s⟩
      have htk:List.take L0.length M=M:=List.take_of_length_le (by omega)
      have hw4:=qaa hg.symm (qaa (jA5 d b M) htk)
      cases hff:jaC K0 R0 M c2 c3 mo0 t6 l0
      ·rw[if_pos hff]at hA0
       rw[hz _ hA0]
       have hw5:=hff
       repeat' first|exact hcond|exact hM|exact hkt.2|refine tU ?_|refine qab [] [0,1,2,3,4,5,6,7,8,9] rfl ?_|refine qaa ?_ ?_|(refine tI ?_;intro hyp)|intro hyp0|exact tZ|omega
       all_goals trace_state
      ·rw[if_neg (by rw[hff];decide)]at hA0
       rw[hA0]
       have hw5:=hff
       repeat' first|exact hcond|exact hM|exact hkt.2|refine tU ?_|refine qab [] [0,1,2,3,4,5,6,7,8,9] rfl ?_|refine qaa ?_ ?_|(refine tI ?_;intro hyp)|intro hyp0|exact tZ|omega
       all_goals trace_state
     ·have hAg:A=(g.1,jc3):=by
       rcases hti with⟨z,hti⟩|⟨z,hti⟩
       ·rw[hti,if_pos z]at hA0
        rw[hA0,hg,jyh z]
       ·rw[hti,if_neg (fun q:(0:Int)≠0=>q rfl),jvj]at hA0
        dsimp only at hA0
        rw[Int.toNat_natCast,show rdG d K0 R0 a6 0 L0=g by rw[hg,z]]at hA0
        simp only[ne_eq,hg0,not_false_eq_true,if_true]at hA0
        exact hA0
      rw[hz _ hAg]
      have hw4:=qaa hg.symm (jgV d hg0)
      have hw5:=eq_false hg0
      repeat' first|exact hcond|refine tU ?_|refine qab [] [0,1,2,3,4,5,6,7,8,9] rfl ?_|refine qaa ?_ ?_|(refine tI ?_;intro hyp)|intro hyp0|exact tZ|omega
      all_goals trace_state)
end
end
end Go.Proofs.YtienkkicehmchaaGreatDoor
