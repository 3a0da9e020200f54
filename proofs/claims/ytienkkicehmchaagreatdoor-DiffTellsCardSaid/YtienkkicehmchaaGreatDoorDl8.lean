/- Texts of this claim, merged by a program of this claim: UtfMath, UtfVal, UtfVal2, Plain, UtfStr. -/
import Derived.Test.YtienkkicehmchaaGreatDoorDl5
import Derived.Test.YtienkkicehmchaaGreatDoorRows
import Derived.Lib.DecodeN
namespace Go.Proofs.YtienkkicehmchaaGreatDoor
open Bool renaming and_eq_true→qaa
open List renaming eq_nil_of_length_eq_zero→qab,nil_append→qac,getD_cons_zero→qad,getD_cons_succ→qae,flatMap_cons→qaf,length→qag,cons_append→qah,take→qai,replicate→qaj,map_cons→qak
set_option linter.unusedVariables false
set_option linter.unusedSimpArgs false
section
namespace Utf
structure DS where
 need:Nat
 n:Int
 lo:Int
 hi:Int
def loOf (a:Int):Int:=if a=224 then 160 else if a=240 then 144 else 128
def hiOf (a:Int):Int:=if a=237 then 159 else if a=244 then 143 else 191
def start:DS:=⟨0,0,0,0⟩
def rest:DS:=⟨0,0,128,191⟩
def jfo (b:Int):List Int×DS :=
 if b<128 then ([b],rest)
 else if 194≤b∧b≤223 then ([],⟨1,b % 32,128,191⟩)
 else if 224≤b∧b≤239 then ([],⟨2,b % 16,loOf b,hiOf b⟩)
 else if 240≤b∧b≤244 then ([],⟨3,b % 8,loOf b,hiOf b⟩)
 else ([65533],rest)
def feed (s:DS) (b:Int):List Int×DS :=
 if s.need=0 then jfo b
 else if b<s.lo∨s.hi<b then (65533::(jfo b).1,(jfo b).2)
 else if s.need=1 then ([s.n*64+b % 64],⟨0,s.n*64+b % 64,128,191⟩)
 else ([],⟨s.need-1,s.n*64+b % 64,128,191⟩)
def endT (s:DS):List Int:=if s.need=0 then [] else [65533]
def told (s:DS):List Int→List Int
 | []=>[]
 | b::l=>(feed s b).1++told (feed s b).2 l
def after (s:DS):List Int→DS
 | []=>s
 | b::l=>after (feed s b).2 l
def runes (l:List Int):List Int:=told start l++endT (after start l)
theorem jgY (a:Int):128≤loOf a∧loOf a≤160:=by
 grind [loOf]
theorem jlh (a:Int):143≤hiOf a∧hiOf a≤191:=by
 grind [hiOf]
def may (r:Int):Bool:=(decide (0≤r)&&decide (r≤55295)) || (decide (57344≤r)&&decide (r≤1114111))
def enc1 (r:Int):List Int :=
 if r<128 then [r]
 else if r<2048 then [192+r / 64,128+r % 64]
 else if r<65536 then [224+r / 4096,128+r / 64 % 64,128+r % 64]
 else [240+r / 262144,128+r / 4096 % 64,128+r / 64 % 64,128+r % 64]
def enc (r:Int):List Int:=enc1 (if may r then r else 65533)
def num:List Int→Int
 | [a]=>a
 | [a,b]=>(a-192)*64+b-128
 | [a,b,c]=>(a-224)*4096+(b-128)*64+c-128
 | [a,b,c,d]=>(a-240)*262144+(b-128)*4096+(c-128)*64+d-128
 | _=>-1
def wholeB (x:List Int):Bool:=decide (0≤num x)&&decide (num x≤1114111)&&may (num x)&&(enc (num x)==x)
def wholeN (x:List Int):Int:=if wholeB x then num x else 0
def beginsB:List Int→Bool
 | [a]=>decide (194≤a)&&decide (a≤244)
 | [a,b]=>decide (224≤a)&&decide (a≤244)&&decide (loOf a≤b)&&decide (b≤hiOf a)
 | [a,b,c]=>decide (240≤a)&&decide (a≤244)&&decide (loOf a≤b)&&decide (b≤hiOf a)&&decide (128≤c)&&decide (c≤191)
 | _=>false
def rfeed0 (b:Int):List Int×List Int :=
 if wholeB [b] then ([wholeN [b]],[])
 else if beginsB [b] then ([],[b])
 else ([65533],[])
def rfeed (o:List Int) (b:Int):List Int×List Int :=
 if wholeB (o++[b]) then ([wholeN (o++[b])],[])
 else if beginsB (o++[b]) then ([],o++[b])
 else if o.length=0 then ([65533],[])
 else (65533::(rfeed0 b).1,(rfeed0 b).2)
def rendT (o:List Int):List Int:=if o.length=0 then [] else [65533]
def rtold (o:List Int):List Int→List Int
 | []=>[]
 | b::l=>(rfeed o b).1++rtold (rfeed o b).2 l
def rafter (o:List Int):List Int→List Int
 | []=>o
 | b::l=>rafter (rfeed o b).2 l
def rrunes (l:List Int):List Int:=rtold [] l++rendT (rafter [] l)
theorem may_iff (r:Int):may r=true↔(0≤r∧r≤55295)∨(57344≤r∧r≤1114111):=by simp[may]
theorem jiQ (a:Int):wholeB [a]=true↔0≤a∧a<128:=by
 unfold wholeB num enc
 simp only[qaa,decide_eq_true_eq,beq_iff_eq]
 constructor
 ·rintro⟨⟨⟨h0,h1⟩,hm⟩,he⟩
  rw[if_pos hm]at he
  grind [enc1]
 ·intro ⟨h0,h1⟩
  have hm:may a=true:=(may_iff a).2 (by omega)
  rw[if_pos hm]
  unfold enc1
  grind
theorem jkd (a b:Int) (ha:0≤a∧a<256) (hb:0≤b∧b<256):wholeB [a,b]=true↔(194≤a∧a≤223)∧(128≤b∧b≤191):=by
 unfold wholeB num enc
 simp only[qaa,decide_eq_true_eq,beq_iff_eq]
 constructor
 ·rintro⟨⟨⟨h0,h1⟩,hm⟩,he⟩
  rw[if_pos hm]at he
  unfold enc1 at he
  grind
 ·intro ⟨h0,h1⟩
  have hm:may ((a-192)*64+b-128)=true:=(may_iff _).2 (by omega)
  rw[if_pos hm]
  unfold enc1
  grind
theorem jiR (a b c:Int) (ha:0≤a∧a<256) (hb:0≤b∧b<256) (hc:0≤c∧c<256) :
  wholeB [a,b,c]=true↔(224≤a∧a≤239)∧(loOf a≤b∧b≤hiOf a)∧(128≤c∧c≤191):=by
 unfold wholeB num enc
 simp only[qaa,decide_eq_true_eq,beq_iff_eq]
 constructor
 ·rintro⟨⟨⟨h0,h1⟩,hm⟩,he⟩
  have hm':=(may_iff _).1 hm
  rw[if_pos hm]at he
  unfold enc1 at he
  split at he
  ·simp at he
  ·split at he
   ·simp at he
   ·split at he
    ·simp only[List.cons.injEq,and_true]at he
     grind [loOf,hiOf]
    ·simp at he
 ·intro ⟨h0,h1,h2⟩
  have hl:=jgY a
  have hh:=jlh a
  unfold loOf hiOf at h1
  have hm:may ((a-224)*4096+(b-128)*64+c-128)=true:=(may_iff _).2 (by
   omega)
  rw[if_pos hm]
  have hr:2048≤(a-224)*4096+(b-128)*64+c-128:=by
   split at h1<;>(try split at h1)<;>(try split at h1)<;>(try split at h1)<;>omega
  unfold enc1
  grind
theorem jhw (a b c d:Int) (ha:0≤a∧a<256) (hb:0≤b∧b<256) (hc:0≤c∧c<256) (hd:0≤d∧d<256) :
  wholeB [a,b,c,d]=true↔(240≤a∧a≤244)∧(loOf a≤b∧b≤hiOf a)∧(128≤c∧c≤191)∧(128≤d∧d≤191):=by
 unfold wholeB num enc
 simp only[qaa,decide_eq_true_eq,beq_iff_eq]
 constructor
 ·rintro⟨⟨⟨h0,h1⟩,hm⟩,he⟩
  rw[if_pos hm]at he
  unfold enc1 at he
  split at he
  ·simp at he
  ·split at he
   ·simp at he
   ·split at he
    ·simp at he
    ·simp only[List.cons.injEq,and_true]at he
     grind [loOf,hiOf]
 ·intro ⟨h0,h1,h2,h3⟩
  unfold loOf hiOf at h1
  have hr:65536≤(a-240)*262144+(b-128)*4096+(c-128)*64+d-128∧(a-240)*262144+(b-128)*4096+(c-128)*64+d-128≤1114111∧128≤b∧b≤191:=by
   split at h1<;>(try split at h1)<;>(try split at h1)<;>(try split at h1)<;>omega
  have hm:may ((a-240)*262144+(b-128)*4096+(c-128)*64+d-128)=true:=(may_iff _).2 (by omega)
  rw[if_pos hm]
  unfold enc1
  grind
def Byte (a:Int):Prop:=0≤a∧a<256
theorem begins_of (x ext:List Int) (hx:∀a∈x,Byte a) (he:∀a∈ext,Byte a) (h1:x≠[]) (h2:ext≠[]) (h:wholeB (x++ext)=true):beginsB x=true:=by
 have bad:∀y:List Int,5≤y.length→wholeB y=true→False:=by
  intro y hy hw
  match y,hy with
  | a::b::c::d::e::l,_=>simp[wholeB,num]at hw
 match x,ext with
 | [a],[b] =>
  have:=(jkd a b (hx a (by simp)) (he b (by simp))).1 h
  simp[beginsB];omega
 | [a],[b,c] =>
  have:=(jiR a b c (hx a (by simp)) (he b (by simp)) (he c (by simp))).1 h
  simp[beginsB];omega
 | [a],[b,c,d] =>
  have:=(jhw a b c d (hx a (by simp)) (he b (by simp)) (he c (by simp)) (he d (by simp))).1 h
  simp[beginsB];omega
 | [a,b],[c] =>
  have:=(jiR a b c (hx a (by simp)) (hx b (by simp)) (he c (by simp))).1 h
  simp[beginsB];omega
 | [a,b],[c,d] =>
  have:=(jhw a b c d (hx a (by simp)) (hx b (by simp)) (he c (by simp)) (he d (by simp))).1 h
  simp[beginsB];omega
 | [a,b,c],[d] =>
  have:=(jhw a b c d (hx a (by simp)) (hx b (by simp)) (hx c (by simp)) (he d (by simp))).1 h
  simp[beginsB];omega
 | [a],b::c::d::e::l=>exact (bad _ (by simp) h).elim
 | [a,b],c::d::e::l=>exact (bad _ (by simp) h).elim
 | [a,b,c],d::e::l=>exact (bad _ (by simp) h).elim
 | a::b::c::d::l,e::m=>exact (bad _ (by simp;omega) h).elim
def pad (last:Nat):Int:=if last=1 then 191 else 128
def tryOf (x:List Int) (n last:Nat):List Int:=x++qaj (n-x.length) (pad last)
theorem pad_byte (last:Nat):Byte (pad last):=by unfold pad Byte;split<;>omega
theorem begins_not1 (a:Int) (ha:Byte a) (h:∀n last s,2≤n→n≤4→last<2→(128:Int)≤s→s≤191→wholeB (a::s::qaj (n-2) (pad last))=false):beginsB [a]=false:=by
 by_cases hb:194≤a∧a≤244
 ·exfalso
  rcases (show (194≤a∧a≤223)∨(224≤a∧a≤239)∨(240≤a∧a≤244) by omega)with h1|h1|h1
  ·have:=h 2 0 128 (by omega) (by omega) (by omega) (by omega) (by omega)
   grind [jkd]
  ·have hl:=jgY a
   have:=h 3 0 (loOf a) (by omega) (by omega) (by omega) (by omega) (by omega)
   grind [loOf,hiOf,jiR,pad]
  ·have hl:=jgY a
   have:=h 4 0 (loOf a) (by omega) (by omega) (by omega) (by omega) (by omega)
   grind [loOf,hiOf,jhw,pad]
 ·simp[beginsB];omega
theorem begins_not (x:List Int) (hx:∀a∈x,Byte a) (h1:2≤x.length) (h3:x.length≤3) (h:∀n last,x.length+1≤n→n≤4→last<2→wholeB (tryOf x n last)=false):beginsB x=false:=by
 match x with
 | [a,b] =>
  have ha:=hx a (by simp)
  have hb:=hx b (by simp)
  cases hB:beginsB [a,b]
  ·rfl
  ·exfalso
   simp[beginsB]at hB
   rcases (show a≤239∨240≤a by omega)with h1|h1
   ·have:=h 3 0 (by simp) (by omega) (by omega)
    have w:=(jiR a b 128 ha hb (by omega)).2 ⟨by omega,by omega,by omega⟩
    simp[tryOf,pad,w]at this
   ·have:=h 4 0 (by simp) (by omega) (by omega)
    have w:=(jhw a b 128 128 ha hb (by omega) (by omega)).2 ⟨by omega,by omega,by omega,by omega⟩
    simp[tryOf,pad,w]at this
 | [a,b,c] =>
  have ha:=hx a (by simp)
  have hb:=hx b (by simp)
  have hc:=hx c (by simp)
  cases hB:beginsB [a,b,c]
  ·rfl
  ·exfalso
   simp[beginsB]at hB
   have:=h 4 0 (by simp) (by omega) (by omega)
   have w:=(jhw a b c 128 ha hb hc (by omega)).2 ⟨by omega,by omega,by omega,by omega⟩
   simp[tryOf,pad,w]at this
def Rel (s:DS) (o:List Int):Prop :=
 (o=[]∧s.need=0) ∨
 (∃a,o=[a]∧Byte a∧((194≤a∧a≤223∧s.need=1∧s.n=a-192∧s.lo=128∧s.hi=191)∨(224≤a∧a≤239∧s.need=2∧s.n=a-224∧s.lo=loOf a∧s.hi=hiOf a)∨(240≤a∧a≤244∧s.need=3∧s.n=a-240∧s.lo=loOf a∧s.hi=hiOf a))) ∨
 (∃a b,o=[a,b]∧Byte a∧Byte b∧loOf a≤b∧b≤hiOf a∧s.lo=128∧s.hi=191∧((224≤a∧a≤239∧s.need=1∧s.n=(a-224)*64+(b-128))∨(240≤a∧a≤244∧s.need=2∧s.n=(a-240)*64+(b-128)))) ∨
 (∃a b c,o=[a,b,c]∧Byte a∧Byte b∧Byte c∧loOf a≤b∧b≤hiOf a∧128≤c∧c≤191∧s.lo=128∧s.hi=191∧240≤a∧a≤244∧s.need=1∧s.n=((a-240)*64+(b-128))*64+(c-128))
theorem jrO (b:Int) (hb:Byte b):(jfo b).1=(rfeed0 b).1∧Rel (jfo b).2 (rfeed0 b).2:=by
 unfold Byte at hb
 unfold jfo rfeed0
 by_cases h1:b<128
 ·rw[if_pos h1,if_pos ((jiQ b).2 ⟨hb.1,h1⟩)]
  refine⟨?_,.inl ⟨rfl,rfl⟩⟩
  unfold wholeN
  rw[if_pos ((jiQ b).2 ⟨hb.1,h1⟩)]
  rfl
 ·have nw:¬wholeB [b]=true:=by rw[jiQ];omega
  rw[if_neg h1,if_neg nw]
  by_cases h2:194≤b∧b≤223
  ·rw[if_pos h2,if_pos (by simp[beginsB];omega)]
   exact⟨rfl,.inr (.inl ⟨b,rfl,hb,.inl ⟨h2.1,h2.2,rfl,by grind,rfl,rfl⟩⟩)⟩
  ·rw[if_neg h2]
   by_cases h3:224≤b∧b≤239
   ·rw[if_pos h3,if_pos (by simp[beginsB];omega)]
    exact⟨rfl,.inr (.inl ⟨b,rfl,hb,.inr (.inl ⟨h3.1,h3.2,rfl,by grind,rfl,rfl⟩)⟩)⟩
   ·rw[if_neg h3]
    by_cases h4:240≤b∧b≤244
    ·rw[if_pos h4,if_pos (by simp[beginsB];omega)]
     exact⟨rfl,.inr (.inl ⟨b,rfl,hb,.inr (.inr ⟨h4.1,h4.2,rfl,by grind,rfl,rfl⟩)⟩)⟩
    ·rw[if_neg h4,if_neg (by simp[beginsB];omega)]
     exact⟨rfl,.inl ⟨rfl,rfl⟩⟩
theorem jiS (x:List Int) (h:wholeB x=true):wholeN x=num x:=by unfold wholeN;rw[if_pos h]
theorem jrP (b:Int):rfeed [] b=rfeed0 b:=by
 simp_all [rfeed,rfeed0,qac,List.length_nil,if_true]
theorem juq (s:DS) (o:List Int) (b:Int) (hb:Byte b) (h:Rel s o):(feed s b).1=(rfeed o b).1∧Rel (feed s b).2 (rfeed o b).2:=by
 have hB:=jrO b hb
 rcases h with⟨rfl,h0⟩|⟨a,rfl,ha,hc⟩|⟨a,a2,rfl,ha,ha2,g1,g2,g3,g4,hc⟩|⟨a,a2,a3,rfl,ha,ha2,ha3,g1,g2,g3,g4,g5,g6,g7,g8,g9,g10⟩
 ·simp_all [jrP,feed,if_pos]
 ·have hne:s.need≠0:=by omega
  unfold feed
  rw[if_neg hne]
  have w2:=jkd a b ha hb
  unfold Byte at ha hb
  by_cases hr:b<s.lo∨s.hi<b
  ·rw[if_pos hr]
   have n1:¬wholeB ([a]++[b])=true:=by
    rw[show [a]++[b]=[a,b]from rfl,w2];omega
   have n2:¬beginsB ([a]++[b])=true:=by
    show ¬beginsB [a,b]=true
    simp only[beginsB,qaa,decide_eq_true_eq];omega
   simp_all [rfeed,if_neg]
  ·rw[if_neg hr]
   have hl:=jgY a
   have hh:=jlh a
   rcases hc with⟨c1,c2,c3,c4,c5,c6⟩|⟨c1,c2,c3,c4,c5,c6⟩|⟨c1,c2,c3,c4,c5,c6⟩
   ·rw[if_pos c3]
    have w:wholeB ([a]++[b])=true:=w2.2 (by omega)
    unfold rfeed
    rw[if_pos w,jiS _ w]
    refine⟨?_,.inl ⟨rfl,rfl⟩⟩
    simp only[qah,qac,num,List.cons.injEq,and_true]
    omega
   ·rw[if_neg (by omega)]
    have n1:¬wholeB ([a]++[b])=true:=by
     rw[show [a]++[b]=[a,b]from rfl,w2];omega
    have n2:beginsB ([a]++[b])=true:=by
     show beginsB [a,b]=true
     simp only[beginsB,qaa,decide_eq_true_eq];omega
    unfold rfeed
    rw[if_neg n1,if_pos n2]
    exact⟨rfl,.inr (.inr (.inl ⟨a,b,rfl,ha,hb,by omega,by omega,rfl,rfl,.inl ⟨c1,c2,by grind,by simp only;omega⟩⟩))⟩
   ·rw[if_neg (by omega)]
    have n1:¬wholeB ([a]++[b])=true:=by
     rw[show [a]++[b]=[a,b]from rfl,w2];omega
    have n2:beginsB ([a]++[b])=true:=by
     show beginsB [a,b]=true
     simp only[beginsB,qaa,decide_eq_true_eq];omega
    unfold rfeed
    rw[if_neg n1,if_pos n2]
    exact⟨rfl,.inr (.inr (.inl ⟨a,b,rfl,ha,hb,by omega,by omega,rfl,rfl,.inr ⟨c1,c2,by grind,by simp only;omega⟩⟩))⟩
 ·have hne:s.need≠0:=by omega
  unfold feed
  rw[if_neg hne]
  have w3:=jiR a a2 b ha ha2 hb
  unfold Byte at ha ha2 hb
  have hl:=jgY a
  have hh:=jlh a
  by_cases hr:b<s.lo∨s.hi<b
  ·rw[if_pos hr]
   have n1:¬wholeB ([a,a2]++[b])=true:=by
    rw[show [a,a2]++[b]=[a,a2,b]from rfl,w3];omega
   have n2:¬beginsB ([a,a2]++[b])=true:=by
    show ¬beginsB [a,a2,b]=true
    simp only[beginsB,qaa,decide_eq_true_eq];omega
   simp_all [rfeed,if_neg]
  ·rw[if_neg hr]
   rcases hc with⟨c1,c2,c3,c4⟩|⟨c1,c2,c3,c4⟩
   ·rw[if_pos c3]
    have w:wholeB ([a,a2]++[b])=true:=w3.2 (by omega)
    unfold rfeed
    rw[if_pos w,jiS _ w]
    refine⟨?_,.inl ⟨rfl,rfl⟩⟩
    simp only[qah,qac,num,List.cons.injEq,and_true]
    omega
   ·rw[if_neg (by omega)]
    have n1:¬wholeB ([a,a2]++[b])=true:=by
     rw[show [a,a2]++[b]=[a,a2,b]from rfl,w3];omega
    have n2:beginsB ([a,a2]++[b])=true:=by
     show beginsB [a,a2,b]=true
     simp only[beginsB,qaa,decide_eq_true_eq];omega
    unfold rfeed
    rw[if_neg n1,if_pos n2]
    exact⟨rfl,.inr (.inr (.inr ⟨a,a2,b,rfl,ha,ha2,hb,g1,g2,by omega,by omega,rfl,rfl,c1,c2,by grind,by simp only;omega⟩))⟩
 ·have hne:s.need≠0:=by omega
  unfold feed
  rw[if_neg hne]
  have w4:=jhw a a2 a3 b ha ha2 ha3 hb
  unfold Byte at ha ha2 ha3 hb
  have hl:=jgY a
  have hh:=jlh a
  by_cases hr:b<s.lo∨s.hi<b
  ·rw[if_pos hr]
   have n1:¬wholeB ([a,a2,a3]++[b])=true:=by
    rw[show [a,a2,a3]++[b]=[a,a2,a3,b]from rfl,w4];omega
   simp_all [beginsB,true,rfeed,if_neg]
  ·rw[if_neg hr,if_pos g9]
   have w:wholeB ([a,a2,a3]++[b])=true:=w4.2 (by omega)
   unfold rfeed
   rw[if_pos w,jiS _ w]
   refine⟨?_,.inl ⟨rfl,rfl⟩⟩
   simp only[qah,qac,num,List.cons.injEq,and_true]
   omega
theorem jwv (s:DS) (o:List Int) (h:Rel s o):endT s=rendT o:=by
 unfold endT rendT
 rcases h with⟨rfl,h0⟩|⟨a,rfl,ha,hc⟩|⟨a,a2,rfl,ha,ha2,g1,g2,g3,g4,hc⟩|⟨a,a2,a3,rfl,ha,ha2,ha3,g1,g2,g3,g4,g5,g6,g7,g8,g9,g10⟩
 ·simp[h0]
 all_goals grind
theorem rel_open (s:DS) (o:List Int) (h:Rel s o):o.length≤3∧∀a∈o,Byte a:=by
 rcases h with⟨rfl,h0⟩|⟨a,rfl,ha,hc⟩|⟨a,a2,rfl,ha,ha2,g1,g2,g3,g4,hc⟩|⟨a,a2,a3,rfl,ha,ha2,ha3,g1,g2,g3,g4,g5,g6,g7,g8,g9,g10⟩
 all_goals simp[*]
theorem told_rel (l:List Int) (hl:∀a∈l,Byte a) (s:DS) (o:List Int) (h:Rel s o):told s l=rtold o l∧Rel (after s l) (rafter o l):=by
 induction l generalizing s o with
 | nil=>exact⟨rfl,h⟩
 | cons b l ih =>
  grind [juq,told,rtold,after,rafter]
theorem rel_start:Rel start []:=.inl ⟨rfl,rfl⟩
theorem runes_eq (l:List Int) (hl:∀a∈l,Byte a):runes l=rrunes l:=by
 grind [told_rel,start,rel_start,runes,rrunes,jwv]
end Utf
end
section
namespace Utf
def wk (l:List Int):Nat→Nat
 | 0=>0
 | k+1=>if k+1≤l.length∧wholeB (l.take (k+1))=true then k+1 else wk l k
def step (l:List Int):Nat:=wk l 4
theorem wk_le (l:List Int):∀k,wk l k≤k∧wk l k≤l.length
 | 0=>⟨Nat.le_refl _,Nat.zero_le _⟩
 | k+1=>by
  have:=wk_le l k
  unfold wk
  grind
def vF:Nat→List Int→Bool
 | 0,l=>decide (l=[])
 | f+1,l=>if l=[] then true else if step l=0 then false else vF f (l.drop (step l))
def vB (l:List Int):Bool:=vF l.length l
theorem jmf:∀(f g:Nat) (l:List Int),l.length≤f→l.length≤g→vF f l=vF g l
 | 0,0,l,_,_=>rfl
 | 0,g+1,l,hf,hg=>by
  have:l=[]:=qab (by omega)
  subst this
  rfl
 | f+1,0,l,hf,hg=>by
  have:l=[]:=qab (by omega)
  subst this
  rfl
 | f+1,g+1,l,hf,hg=>by
  unfold vF
  by_cases h:l=[]
  ·grind
  ·rw[if_neg h,if_neg h]
   by_cases h2:step l=0
   ·grind
   ·rw[if_neg h2,if_neg h2]
    have:0<l.length:=List.length_pos_iff.2 h
    exact jmf f g _ (by simp;omega) (by simp;omega)
theorem vB_stop (l:List Int) (h:l≠[]) (h2:step l=0):vB l=false:=by
 have:0<l.length:=List.length_pos_iff.2 h
 obtain⟨n,hn⟩:∃n,l.length=n+1:=⟨l.length-1,by omega⟩
 simp_all [vB,vF,if_neg,if_pos]
theorem vB_go (l:List Int) (h2:step l≠0):vB l=vB (l.drop (step l)):=by
 have hs:=(wk_le l 4).2
 have hs':step l≤l.length:=hs
 have h:l≠[]:=by rintro rfl;simp at hs';exact h2 hs'
 obtain⟨n,hn⟩:∃n,l.length=n+1:=⟨l.length-1,by omega⟩
 unfold vB
 rw[hn]
 conv=>lhs;unfold vF
 rw[if_neg h,if_neg h2]
 exact jmf _ _ _ (by simp;omega) (Nat.le_refl _)
def jdo (n:Nat) (a b c d:Int):Nat :=
 if a<128 then 1
 else if (194≤a∧a≤223)∧2≤n∧(128≤b∧b≤191) then 2
 else if (224≤a∧a≤239)∧3≤n∧(loOf a≤b∧b≤hiOf a)∧(128≤c∧c≤191) then 3
 else if (240≤a∧a≤244)∧4≤n∧(loOf a≤b∧b≤hiOf a)∧(128≤c∧c≤191)∧(128≤d∧d≤191) then 4
 else 0
theorem jnM (l:List Int) (hb:∀x∈l,Byte x) (h:l≠[]):step l=jdo l.length (l.getD 0 0) (l.getD 1 0) (l.getD 2 0) (l.getD 3 0):=by
 unfold step
 match l,h with
 | [a],_ =>
  have ha:=hb a (by simp)
  have w1:=jiQ a
  unfold jdo
  simp only[wk,qai,qag]
  by_cases h1:a<128
  ·simp[w1,h1,ha.1]
  grind
 | [a,b],_ =>
  have ha:=hb a (by simp)
  have hB:=hb b (by simp)
  have w1:=jiQ a
  have w2:=jkd a b ha hB
  unfold Byte at ha hB
  unfold jdo
  grind [wk,qai,qag,qad,qae]
 | [a,b,c],_ =>
  have ha:=hb a (by simp)
  have hB:=hb b (by simp)
  have hC:=hb c (by simp)
  have w1:=jiQ a
  have w2:=jkd a b ha hB
  have w3:=jiR a b c ha hB hC
  unfold Byte at ha hB hC
  unfold jdo
  simp only[wk,qai,qag,w1,w2,w3,qad,qae]
  grind
 | a::b::c::d::r,_ =>
  have ha:=hb a (by simp)
  have hB:=hb b (by simp)
  have hC:=hb c (by simp)
  have hD:=hb d (by simp)
  have w1:=jiQ a
  have w2:=jkd a b ha hB
  have w3:=jiR a b c ha hB hC
  have w4:=jhw a b c d ha hB hC hD
  unfold Byte at ha hB hC hD
  grind [jdo,wk,qai,qag,qad,qae]
theorem lohi (a:Int):(a=224∧loOf a=160∧hiOf a=191)∨(a=240∧loOf a=144∧hiOf a=191)∨(a=237∧loOf a=128∧hiOf a=159)∨(a=244∧loOf a=128∧hiOf a=143)∨(a≠224∧a≠240∧a≠237∧a≠244∧loOf a=128∧hiOf a=191):=by
 unfold loOf hiOf
 omega
def numS (k:Nat) (a b c d:Int):Int :=
 if k=1 then a else if k=2 then (a-192)*64+b-128 else if k=3 then (a-224)*4096+(b-128)*64+c-128
 else (a-240)*262144+(b-128)*4096+(c-128)*64+d-128
open Go.Lib in
theorem jnN (n a b c d:Nat) (ha:a<256) (hb:b<256) (hc:c<256) (hd:d<256) :
  (decodeN n a b c d).2=(if jdo n a b c d=0 then 1 else jdo n a b c d)∧((decodeN n a b c d).1:Int)=if jdo n a b c d=0 then 65533 else numS (jdo n a b c d) a b c d:=by
 have hl:=lohi a
 by_cases h1:a<128
 ·have e:jdo n a b c d=1:=by unfold jdo;rw[if_pos (by omega)]
  simp_all [decodeN,if_pos,numS]
 by_cases h2:((194:Int)≤a∧(a:Int)≤223)∧2≤n∧((128:Int)≤b∧(b:Int)≤191)
 ·have e:jdo n a b c d=2:=by unfold jdo;grind
  rw[e]
  unfold decodeN
  rw[if_neg h1,if_pos (by omega),if_pos (by omega)]
  simp[numS]
  omega
 by_cases h3:((224:Int)≤a∧(a:Int)≤239)∧3≤n∧(loOf a≤b∧(b:Int)≤hiOf a)∧((128:Int)≤c∧(c:Int)≤191)
 ·have e:jdo n a b c d=3:=by unfold jdo;grind
  rw[e]
  unfold decodeN
  rw[if_neg h1,if_neg (by omega),if_pos (by omega),if_pos (by omega)]
  simp[numS]
  omega
 by_cases h4:((240:Int)≤a∧(a:Int)≤244)∧4≤n∧(loOf a≤b∧(b:Int)≤hiOf a)∧((128:Int)≤c∧(c:Int)≤191)∧((128:Int)≤d∧(d:Int)≤191)
 ·have e:jdo n a b c d=4:=by unfold jdo;rw[if_neg (by omega),if_neg h2,if_neg h3,if_pos h4]
  rw[e]
  unfold decodeN
  rw[if_neg h1,if_neg (by omega),if_neg (by omega),if_pos (by omega),if_pos (by omega)]
  simp[numS]
  omega
 ·have e:jdo n a b c d=0:=by unfold jdo;rw[if_neg (by omega),if_neg h2,if_neg h3,if_neg h4]
  rw[e]
  have:decodeN n a b c d=(65533,1):=by
   unfold decodeN
   repeat' split
   all_goals first|rfl|(exfalso;omega)
  grind
end Utf
end
section
namespace Utf
def fix (r:Int):Int:=if may r then r else 65533
theorem fix_may (r:Int):may (fix r)=true:=by
 unfold fix
 split
 ·assumption
 ·decide
theorem jww (r:Int):enc (fix r)=enc r:=by
 unfold enc
 rw[if_pos (fix_may r)]
 rfl
theorem joZ (r:Int):enc r=enc1 (fix r):=rfl
theorem enc_cases (c:Int) (hm:may c=true) :
  (∃a,enc1 c=[a]∧a=c∧0≤a∧a<128) ∨
  (∃a b,enc1 c=[a,b]∧194≤a∧a≤223∧128≤b∧b≤191∧c=(a % 32)*64+b % 64) ∨
  (∃a b d,enc1 c=[a,b,d]∧224≤a∧a≤239∧loOf a≤b∧b≤hiOf a∧128≤b∧b≤191∧128≤d∧d≤191∧c=((a % 16)*64+b % 64)*64+d % 64) ∨
  (∃a b d e,enc1 c=[a,b,d,e]∧240≤a∧a≤244∧loOf a≤b∧b≤hiOf a∧128≤b∧b≤191∧128≤d∧d≤191∧128≤e∧e≤191∧c=(((a % 8)*64+b % 64)*64+d % 64)*64+e % 64):=by
 have hb:=(may_iff c).1 hm
 unfold enc1
 by_cases h1:c<128
 ·grind
 ·rw[if_neg h1]
  by_cases h2:c<2048
  ·grind
  ·rw[if_neg h2]
   by_cases h3:c<65536
   ·rw[if_pos h3]
    have hl:=lohi (224+c / 4096)
    grind
   ·rw[if_neg h3]
    have hl:=lohi (240+c / 262144)
    exact .inr (.inr (.inr ⟨_,_,_,_,rfl,by omega,by omega,by omega,by omega,by omega,by omega,by omega,by omega,by omega,by omega,by omega⟩))
theorem jur (r:Int):∀x∈enc r,Byte x:=by
 rw[joZ]
 unfold Byte
 rcases enc_cases (fix r) (fix_may r)with⟨a,e,h⟩|⟨a,b,e,h⟩|⟨a,b,d,e,h⟩|⟨a,b,d,f,e,h⟩
 all_goals
  grind
theorem enc_ne (r:Int):enc r≠[]:=by
 grind [joZ,enc_cases,fix,fix_may]
theorem jus (s:DS) (h0:s.need=0) (r:Int):told s (enc r)=[fix r]∧(after s (enc r)).need=0:=by
 rw[joZ]
 rcases enc_cases (fix r) (fix_may r)with⟨a,e,h⟩|⟨a,b,e,h⟩|⟨a,b,d,e,h⟩|⟨a,b,d,f,e,h⟩
 ·rw[e]
  have h1:feed s a=([a],rest):=by unfold feed jfo;grind
  simp only[told,after,h1]
  exact⟨by rw[h.1];rfl,by first|rfl|trivial⟩
 ·rw[e]
  have h1:feed s a=([],⟨1,a % 32,128,191⟩):=by unfold feed jfo;grind
  have h2:feed ⟨1,a % 32,128,191⟩ b=([a % 32*64+b % 64],⟨0,a % 32*64+b % 64,128,191⟩):=by unfold feed;rw[if_neg (by simp),if_neg (by simp only;omega),if_pos rfl]
  simp only[told,after,h1,h2]
  exact⟨by rw[←h.2.2.2.2];rfl,by first|rfl|trivial⟩
 ·rw[e]
  have h1:feed s a=([],⟨2,a % 16,loOf a,hiOf a⟩):=by unfold feed jfo;grind
  have h2:feed ⟨2,a % 16,loOf a,hiOf a⟩ b=([],⟨1,a % 16*64+b % 64,128,191⟩):=by unfold feed;rw[if_neg (by simp),if_neg (by simp only;omega),if_neg (by simp)];rfl
  have h3:feed ⟨1,a % 16*64+b % 64,128,191⟩ d=([(a % 16*64+b % 64)*64+d % 64],⟨0,(a % 16*64+b % 64)*64+d % 64,128,191⟩):=by unfold feed;rw[if_neg (by simp),if_neg (by simp only;omega),if_pos rfl]
  simp only[told,after,h1,h2,h3]
  exact⟨by rw[←h.2.2.2.2.2.2.2.2];rfl,by first|rfl|trivial⟩
 ·rw[e]
  have h1:feed s a=([],⟨3,a % 8,loOf a,hiOf a⟩):=by unfold feed jfo;grind
  have h2:feed ⟨3,a % 8,loOf a,hiOf a⟩ b=([],⟨2,a % 8*64+b % 64,128,191⟩):=by unfold feed;rw[if_neg (by simp),if_neg (by simp only;omega),if_neg (by simp)];rfl
  have h3:feed ⟨2,a % 8*64+b % 64,128,191⟩ d=([],⟨1,(a % 8*64+b % 64)*64+d % 64,128,191⟩):=by unfold feed;rw[if_neg (by simp),if_neg (by simp only;omega),if_neg (by simp)];rfl
  have h4:feed ⟨1,(a % 8*64+b % 64)*64+d % 64,128,191⟩ f=([((a % 8*64+b % 64)*64+d % 64)*64+f % 64],⟨0,((a % 8*64+b % 64)*64+d % 64)*64+f % 64,128,191⟩):=by unfold feed;rw[if_neg (by simp),if_neg (by simp only;omega),if_pos rfl]
  simp only[told,after,h1,h2,h3,h4]
  exact⟨by rw[←h.2.2.2.2.2.2.2.2.2.2];rfl,by first|rfl|trivial⟩
theorem jut (s:DS) (a l:List Int):told s (a++l)=told s a++told (after s a) l:=by
 induction a generalizing s with
 | nil=>rfl
 | cons b a ih=>simp[told,after,ih]
theorem jrQ (s:DS) (a l:List Int):after s (a++l)=after (after s a) l:=by
 induction a generalizing s with
 | nil=>rfl
 | cons b a ih=>simp[after,ih]
theorem jrR (rs:List Int):∀s:DS,s.need=0→told s (rs.flatMap enc)=rs.map fix∧(after s (rs.flatMap enc)).need=0:=by
 induction rs with
 | nil=>intro s h;exact⟨rfl,h⟩
 | cons r rs ih =>
  intro s h
  have h1:=jus s h r
  have h2:=ih _ h1.2
  simp only[qaf,jut,jrQ,qak]
  rw[h1.1,h2.1]
  exact⟨rfl,h2.2⟩
theorem runes_encs (rs:List Int):runes (rs.flatMap enc)=rs.map fix:=by
 have h:=jrR rs start rfl
 simp_all [runes,endT,if_pos,List.append_nil]
theorem step_enc (r:Int) (l:List Int) (hl:∀x∈l,Byte x):step (enc r++l)=(enc r).length:=by
 have hb:∀x∈enc r++l,Byte x:=fun x hx=>by
  rcases List.mem_append.1 hx with h|h
  ·exact jur r x h
  ·exact hl x h
 rw[jnM _ hb (by simp[enc_ne]),joZ]
 rcases enc_cases (fix r) (fix_may r)with⟨a,e,h⟩|⟨a,b,e,h⟩|⟨a,b,d,e,h⟩|⟨a,b,d,f,e,h⟩
 all_goals
  rw[e]
  unfold jdo
  grind
theorem jli (l:List Int) (h:step l≠0):wholeB (l.take (step l))=true:=by
 have hw:∀k,wk l k≠0→wholeB (l.take (wk l k))=true:=by
  intro k
  induction k with
  | zero=>intro h;exact absurd rfl h
  | succ k ih =>
   grind [wk]
 exact hw 4 h
theorem encs_of_vB:∀(n:Nat) (l:List Int),l.length≤n→vB l=true→∃rs:List Int,l=rs.flatMap enc
 | 0,l,hl,_=>⟨[],qab (by omega)⟩
 | n+1,l,hl,hv=>by
  by_cases h:l=[]
  ·exact⟨[],h⟩
  ·by_cases h2:step l=0
   ·rw[vB_stop l h h2]at hv;cases hv
   ·rw[vB_go l h2]at hv
    have hpos:0<l.length:=List.length_pos_iff.2 h
    obtain⟨rs,hrs⟩:=encs_of_vB n (l.drop (step l)) (by simp;omega) hv
    have hw:=jli l h2
    have he:enc (num (l.take (step l)))=l.take (step l):=by
     unfold wholeB at hw
     simp only[qaa,beq_iff_eq]at hw
     exact hw.2
    refine⟨num (l.take (step l))::rs,?_⟩
    rw[qaf,he,←hrs,List.take_append_drop]
theorem flatMap_fix (rs:List Int):(rs.map fix).flatMap enc=rs.flatMap enc:=by
 induction rs with
 | nil=>rfl
 | cons r rs ih=>simp only[qak,qaf,jww,ih]
end Utf
end
section
theorem jax {α:Type}{L:List α}{k:Nat}{d:α}(h:k<L.length):L[k]?=some (L.getD k d):=by
 rw[List.getD_eq_getElem?_getD,List.getElem?_eq_getElem h]
 rfl
theorem jdD {α:Type}{L M:List α}{d:α}{k:Nat}(hL:k<L.length) (hM:k<M.length) (e:L.getD k d=M.getD k d) (h:∀j,j<k→L[j]?=M[j]?):∀j,j<k+1→L[j]?=M[j]?:=fun j hj=>by
 by_cases q:j<k
 ·exact h j q
 ·have:j=k:=by omega
  subst this
  rw[jax (d:=d) hL,jax (d:=d) hM,e]
theorem je2 {α:Type}{L M:List α}{k:Nat}(hl:L.length=M.length) (hk:L.length≤k) (h:∀j,j<k→L[j]?=M[j]?):L=M:=by
 apply List.ext_getElem?
 intro j
 by_cases hj:j<k
 ·exact h j hj
 ·rw[List.getElem?_eq_none (by omega),List.getElem?_eq_none (by omega)]
theorem jlk {α:Type}{L:List α}{k:Nat}{d:α}(h:k<L.length):L.getD k d∈L:=List.mem_of_getElem? (jax h)
theorem jmg {α:Type}{L:List α}{k:Nat}{d:α}(h:k<L.length):L.take (k+1)=L.take k++[L.getD k d]:=by
 rw[List.take_succ_eq_append_getElem h]
 congr 2
 rw[List.getD_eq_getElem?_getD,List.getElem?_eq_getElem h]
 rfl
theorem ja2 {n k:Nat}{f:Nat→Bool}(hk:k<n) (h:f k=false):(List.range n).all f=false:=by
 rw[List.all_eq_false]
 exact⟨k,List.mem_range.2 hk,by simp[h]⟩
end
section
open Go.RowKit
theorem jhx (l:List Int):(jaJ l).size=l.length:=by simp[jaJ,ByteArray.size]
theorem jaw (s:ByteArray):(jab s).length=s.size:=by simp[jab]
theorem jrY (r:Int):Utf8.valid r=Utf.may r:=by
 rw[Bool.eq_iff_iff]
 simp[Utf8.valid,Utf.may]
 omega
theorem jnS (r:Int):jab (Utf8.encode r)=Utf.enc r:=by
 have key:∀c:Nat,c<1114112→jab (if c<0x80 then ⟨#[UInt8.ofNat c]⟩
   else if c<0x800 then ⟨#[UInt8.ofNat (0xC0+c / 64),UInt8.ofNat (0x80+c % 64)]⟩
   else if c<0x10000 then ⟨#[UInt8.ofNat (0xE0+c / 4096),UInt8.ofNat (0x80+c / 64 % 64),UInt8.ofNat (0x80+c % 64)]⟩
   else ⟨#[UInt8.ofNat (0xF0+c / 262144),UInt8.ofNat (0x80+c / 4096 % 64),UInt8.ofNat (0x80+c / 64 % 64),UInt8.ofNat (0x80+c % 64)]⟩)=Utf.enc1 (c:Int):=by
  intro c hc
  unfold Utf.enc1
  by_cases h1:c<128
  ·rw[if_pos h1,if_pos (show (c:Int)<128 by omega)]
   simp[jab]
   omega
  ·rw[if_neg h1,if_neg (show ¬(c:Int)<128 by omega)]
   by_cases h2:c<2048
   ·rw[if_pos h2,if_pos (show (c:Int)<2048 by omega)]
    simp[jab]
    omega
   ·rw[if_neg h2,if_neg (show ¬(c:Int)<2048 by omega)]
    by_cases h3:c<65536
    ·rw[if_pos h3,if_pos (show (c:Int)<65536 by omega)]
     simp[jab]
     omega
    ·rw[if_neg h3,if_neg (show ¬(c:Int)<65536 by omega)]
     simp[jab]
     omega
 unfold Utf8.encode Utf.enc
 rw[jrY]
 by_cases hm:Utf.may r=true
 ·have hb:=(Utf.may_iff r).1 hm
  grind
 ·have:=key 65533 (by omega)
  simp only[hm,if_false]
  exact this
theorem jnT (x:List Int):Utf.wholeB x=true↔0≤Utf.num x∧Utf.num x≤1114111∧Utf.may (Utf.num x)=true∧Utf.enc (Utf.num x)=x:=by
 unfold Utf.wholeB
 grind
theorem jlo (bs:List Int) (hb:∀x∈bs,Utf.Byte x) (i:Nat):(((jaJ bs).get! i).toNat:Int)=bs.getD i 0∧((jaJ bs).get! i).toNat<256:=by
 refine⟨?_,UInt8.toNat_lt _⟩
 show (((jaJ bs).data[i]!).toNat:Int)=_
 rcases Nat.lt_or_ge i bs.length with h|h
 ·have h':i<(jaJ bs).data.size:=by simp[jaJ];exact h
  have hB:=hb (bs[i]) (List.getElem_mem h)
  rw[getElem!_pos (jaJ bs).data i h']
  simp[jaJ,List.getD_eq_getElem?_getD,h]
  unfold Utf.Byte at hB
  omega
 ·have h':¬i<(jaJ bs).data.size:=by simp[jaJ];exact h
  rw[getElem!_neg (jaJ bs).data i h']
  simp[List.getD_eq_getElem?_getD,List.getElem?_eq_none h]
  rfl
namespace Utf
theorem num_take (l:List Int) (hb:∀x∈l,Byte x) (h:step l≠0):num (l.take (step l))=numS (step l) (l.getD 0 0) (l.getD 1 0) (l.getD 2 0) (l.getD 3 0)∧enc (num (l.take (step l)))=l.take (step l)∧(enc (num (l.take (step l)))).length=step l:=by
 have hw:∀k,wk l k≠0→wholeB (l.take (wk l k))=true:=by
  intro k
  induction k with
  | zero=>intro h;exact absurd rfl h
  | succ k ih =>
   grind [wk]
 have h1:wholeB (l.take (step l))=true:=hw 4 h
 have hp:=(jnT _).1 h1
 have hle:=wk_le l 4
 have hle2:step l≤4∧step l≤l.length:=hle
 refine⟨?_,hp.2.2.2,by rw[hp.2.2.2,List.length_take];exact Nat.min_eq_left hle2.2⟩
 obtain⟨k,hk⟩:∃k,k=step l:=⟨_,rfl⟩
 rw[←hk]at hle2 h ⊢
 match l,hle2 with
 | [],h'=>simp at h';omega
 | [a],h' =>
  obtain rfl:k=1:=by simp at h';omega
  rfl
 | [a,b],h' =>
  rcases (show k=1∨k=2 by simp at h';omega)with rfl|rfl<;>rfl
 | [a,b,c],h' =>
  rcases (show k=1∨k=2∨k=3 by simp at h';omega)with rfl|rfl|rfl<;>rfl
 | a::b::c::d::r,h' =>
  rcases (show k=1∨k=2∨k=3∨k=4 by omega)with rfl|rfl|rfl|rfl<;>rfl
theorem drop_getD (bs:List Int) (p i:Nat):(bs.drop p).getD i 0=bs.getD (p+i) 0:=by grind
theorem decode_str (bs:List Int) (hb:∀x∈bs,Byte x) (p:Nat) (hp:p<bs.length) :
  (Utf8.decode (jaJ bs) p).2=(if step (bs.drop p)=0 then 1 else step (bs.drop p))∧((Utf8.decode (jaJ bs) p).1:Int)=if step (bs.drop p)=0 then 65533 else num ((bs.drop p).take (step (bs.drop p))):=by
 have hbd:∀x∈bs.drop p,Byte x:=fun x hx=>hb x (List.mem_of_mem_drop hx)
 have hne:bs.drop p≠[]:=by intro e;have:=congrArg qag e;simp at this;omega
 have g0:=jlo bs hb p
 have g1:=jlo bs hb (p+1)
 have g2:=jlo bs hb (p+2)
 have g3:=jlo bs hb (p+3)
 have hs:=jnM (bs.drop p) hbd hne
 simp only[drop_getD,Nat.add_zero,List.length_drop]at hs
 have hd:=jnN (bs.length-p) _ _ _ _ g0.2 g1.2 g2.2 g3.2
 rw[g0.1,g1.1,g2.1,g3.1,←hs]at hd
 rw[Lib.decode_at,jhx]
 refine⟨hd.1,hd.2.trans ?_⟩
 by_cases h:step (bs.drop p)=0
 ·omega
 ·rw[if_neg h,if_neg h,(num_take _ hbd h).1]
  grind
theorem broken_step (l:List Int) (hb:∀x∈l,Byte x) (h:step l≠0) (hn:num (l.take (step l))=65533):3≤l.length∧l.getD 0 0=239∧l.getD 1 0=191∧l.getD 2 0=189∧step l=3:=by
 have h1:=num_take l hb h
 have e:=h1.2.1
 rw[hn]at e
 have e2:enc 65533=[239,191,189]:=by decide
 rw[e2]at e
 have h3:=h1.2.2
 rw[hn,e2]at h3
 have h4:step l=3:=h3.symm
 rw[h4]at e
 match l,e with
 | a::b::c::r,e =>
  grind
theorem step_broken (l:List Int) (hb:∀x∈l,Byte x) (h3:3≤l.length) (h0:l.getD 0 0=239) (h1:l.getD 1 0=191) (h2:l.getD 2 0=189):step l≠0:=by
 have hne:l≠[]:=by rintro rfl;simp at h3
 rw[jnM l hb hne,h0,h1,h2]
 unfold jdo
 rw[if_neg (by omega),if_neg (by omega),if_pos (by refine⟨by omega,h3,by decide,by omega⟩)]
 omega
end Utf
end
end Go.Proofs.YtienkkicehmchaaGreatDoor
