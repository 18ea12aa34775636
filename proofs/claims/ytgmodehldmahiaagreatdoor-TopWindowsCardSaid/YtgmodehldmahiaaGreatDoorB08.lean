/- Part 8 of 53 of the proof of topAlone_and_topApart. Conditions: see each. -/
import Derived.Test.YtgmodehldmahiaaGreatDoorB01
import Derived.Test.YtgmodehldmahiaaGreatDoorRows
import Derived.Test.YtgmodehldmahiaaGreatDoorB02
set_option linter.unusedVariables false
set_option linter.unusedSimpArgs false
set_option maxRecDepth 8192
set_option maxHeartbeats 40000000
section
namespace Go.Proofs.YtgmodehldmahiaaGreatDoor.Pipe
open Go Go.RowKit Go.Tm
theorem Tk(d:ByteArray)(r wr:Int)(s:ByteArray)(w:World)(hd:d.size≤9223372036854775807)(hs:s.toList=[]):
  Calls Tryz.prog 202 #[.agg #[.string d,.int .i64 r,.int .i64 wr],.string s] w
   fun e w'=>e=.returned (.tuple #[.agg #[.string d,.int .i64 r,.int .i64 wr],.int .i64 0,.int .i64 0])∧Below w.heap.size w w':=by
 have hs2:s.toList.isEmpty=true:=by rw[hs];rfl
 clear hs
 go_enter Tryz.func202,Tryz.ntmps202
 go_wp2_with fail
 refine bodyPost_ret (v:= .tuple #[.agg #[.string d,.int .i64 r,.int .i64 wr],.int .i64 0,.int .i64 0]) Jo rfl ⟨rfl,?_⟩
 exact bl
theorem ZB(d:ByteArray)(r wr:Int)(s:ByteArray)(w:World)(hd:d.size≤9223372036854775807)(hs2:s.toList.isEmpty=false)(hr:r≤0):
  Calls Tryz.prog 202 #[.agg #[.string d,.int .i64 r,.int .i64 wr],.string s] w
   fun e w'=>e=.returned (.tuple #[.agg #[.string d,.int .i64 r,.int .i64 wr],.int .i64 0,.int .i64 14])∧Below w.heap.size w w':=by
 go_enter Tryz.func202,Tryz.ntmps202
 go_wp2_with fail
 refine bodyPost_ret (v:= .tuple #[.agg #[.string d,.int .i64 r,.int .i64 wr],.int .i64 0,.int .i64 14]) Jo rfl ⟨rfl,?_⟩
 exact bl
theorem Tn(d:ByteArray)(r wr:Int)(s:ByteArray)(w:World)(hd:d.size≤9223372036854775807)(hs2:s.toList.isEmpty=false)(hr:1≤r)(h8:8≤d.size):
  Calls Tryz.prog 202 #[.agg #[.string d,.int .i64 r,.int .i64 wr],.string s] w
   fun e w'=>e=.returned (.tuple #[.agg #[.string d,.int .i64 r,.int .i64 wr],.int .i64 0,.int .i64 6])∧Below w.heap.size w w':=by
 go_enter Tryz.func202,Tryz.ntmps202
 go_wp2_with fail
 refine bodyPost_ret (v:= .tuple #[.agg #[.string d,.int .i64 r,.int .i64 wr],.int .i64 0,.int .i64 6]) Jo rfl ⟨rfl,?_⟩
 exact bl
theorem ZE(d:ByteArray)(r wr:Int)(s:ByteArray)(w:World)(hd:d.size<8)(hs2:s.toList.isEmpty=false)(hr:1≤r)(hs:s.size+d.size<8):
  Calls Tryz.prog 202 #[.agg #[.string d,.int .i64 r,.int .i64 wr],.string s] w
   fun e w'=>e=.returned (.tuple #[.agg #[.string (d++s),.int .i64 r,.int .i64 wr],.int .i64 s.size,.int .i64 0])∧Below w.heap.size w w':=by
 go_enter Tryz.func202,Tryz.ntmps202
 go_wp2_with fail
 all_goals go_region
 all_goals go_wp2_with fail
 all_goals
  refine bodyPost_ret (v:= .tuple #[.agg #[.string (d++s),.int .i64 r,.int .i64 wr],.int .i64 s.size,.int .i64 0]) Jo rfl ⟨rfl,?_⟩
  exact bl
theorem V4(d:ByteArray)(r wr:Int)(s:ByteArray)(w:World)(hd:d.size<8)(hs2:s.toList.isEmpty=false)(hr:1≤r)(hs:8≤s.size+d.size):
  Calls Tryz.prog 202 #[.agg #[.string d,.int .i64 r,.int .i64 wr],.string s] w
   fun e w'=>e=.returned (.tuple #[.agg #[.string (d++s.extract 0 (8-(d.size:Int)).toNat),.int .i64 r,.int .i64 wr],.int .i64 (8-d.size),.int .i64 0])∧Below w.heap.size w w':=by
 go_enter Tryz.func202,Tryz.ntmps202
 go_wp2_with fail
 all_goals go_region
 all_goals go_wp2_with fail
 all_goals
  refine bodyPost_ret (v:= .tuple #[.agg #[.string (d++s.extract 0 (8-(d.size:Int)).toNat),.int .i64 r,.int .i64 wr],.int .i64 (8-d.size),.int .i64 0]) Jo rfl ⟨rfl,?_⟩
  exact bl
theorem aeQ(d:ByteArray)(r wr n:Int)(w:World)(hd:d.size≤9223372036854775807)(hn:n<0):
  Calls Tryz.prog 203 #[.agg #[.string d,.int .i64 r,.int .i64 wr],.int .i64 n] w
   fun e w'=>e=.returned (.tuple #[.agg #[.string d,.int .i64 r,.int .i64 wr],.string ⟨#[]⟩,.int .i64 1])∧Below w.heap.size w w':=by
 go_enter Tryz.func203,Tryz.ntmps203
 go_wp2_with fail
 refine bodyPost_ret (v:= .tuple #[.agg #[.string d,.int .i64 r,.int .i64 wr],.string ⟨#[]⟩,.int .i64 1]) EP rfl ⟨rfl,?_⟩
 exact bl
theorem aai(d:ByteArray)(r wr:Int)(w:World)(hd:d.size≤9223372036854775807):
  Calls Tryz.prog 203 #[.agg #[.string d,.int .i64 r,.int .i64 wr],.int .i64 0] w
   fun e w'=>e=.returned (.tuple #[.agg #[.string d,.int .i64 r,.int .i64 wr],.string ⟨#[]⟩,.int .i64 0])∧Below w.heap.size w w':=by
 go_enter Tryz.func203,Tryz.ntmps203
 go_wp2_with fail
 refine bodyPost_ret (v:= .tuple #[.agg #[.string d,.int .i64 r,.int .i64 wr],.string ⟨#[]⟩,.int .i64 0]) EP rfl ⟨rfl,?_⟩
 exact bl
theorem Wy(d:ByteArray)(r wr n:Int)(w:World)(hd:d.size≤9223372036854775807)(hn:1≤n)(he:d.toList.isEmpty=true)(hw:1≤wr):
  Calls Tryz.prog 203 #[.agg #[.string d,.int .i64 r,.int .i64 wr],.int .i64 n] w
   fun e w'=>e=.returned (.tuple #[.agg #[.string d,.int .i64 r,.int .i64 wr],.string ⟨#[]⟩,.int .i64 6])∧Below w.heap.size w w':=by
 go_enter Tryz.func203,Tryz.ntmps203
 go_wp2_with fail
 refine bodyPost_ret (v:= .tuple #[.agg #[.string d,.int .i64 r,.int .i64 wr],.string ⟨#[]⟩,.int .i64 6]) EP rfl ⟨rfl,?_⟩
 exact bl
theorem aak(d:ByteArray)(r wr n:Int)(w:World)(hd:d.size≤9223372036854775807)(hn:1≤n)(he:d.toList.isEmpty=true)(hw:wr≤0):
  Calls Tryz.prog 203 #[.agg #[.string d,.int .i64 r,.int .i64 wr],.int .i64 n] w
   fun e w'=>e=.returned (.tuple #[.agg #[.string d,.int .i64 r,.int .i64 wr],.string ⟨#[]⟩,.int .i64 0])∧Below w.heap.size w w':=by
 go_enter Tryz.func203,Tryz.ntmps203
 go_wp2_with fail
 refine bodyPost_ret (v:= .tuple #[.agg #[.string d,.int .i64 r,.int .i64 wr],.string ⟨#[]⟩,.int .i64 0]) EP rfl ⟨rfl,?_⟩
 exact bl
theorem aaj(d:ByteArray)(r wr n:Int)(w:World)(hd:d.size≤9223372036854775807)(hn:1≤n)(he:d.toList.isEmpty=false)(hle:n≤d.size):
  Calls Tryz.prog 203 #[.agg #[.string d,.int .i64 r,.int .i64 wr],.int .i64 n] w
   fun e w'=>e=.returned (.tuple #[.agg #[.string (d.extract n.toNat d.size),.int .i64 r,.int .i64 wr],.string (d.extract 0 n.toNat),.int .i64 0])∧Below w.heap.size w w':=by
 go_enter Tryz.func203,Tryz.ntmps203
 go_wp2_with fail
 refine bodyPost_ret (v:= .tuple #[.agg #[.string (d.extract n.toNat d.size),.int .i64 r,.int .i64 wr],.string (d.extract 0 n.toNat),.int .i64 0]) EP rfl ⟨rfl,?_⟩
 exact bl
theorem aeT(d:ByteArray)(r wr n:Int)(w:World)(hd:d.size≤9223372036854775807)(hn:1≤n)(he:d.toList.isEmpty=false)(hle:d.size<n):
  Calls Tryz.prog 203 #[.agg #[.string d,.int .i64 r,.int .i64 wr],.int .i64 n] w
   fun e w'=>e=.returned (.tuple #[.agg #[.string (d.extract d.size d.size),.int .i64 r,.int .i64 wr],.string (d.extract 0 d.size),.int .i64 0])∧Below w.heap.size w w':=by
 go_enter Tryz.func203,Tryz.ntmps203
 go_wp2_with fail
 refine bodyPost_ret (v:= .tuple #[.agg #[.string (d.extract d.size d.size),.int .i64 r,.int .i64 wr],.string (d.extract 0 d.size),.int .i64 0]) EP rfl ⟨rfl,?_⟩
 exact bl
end Go.Proofs.YtgmodehldmahiaaGreatDoor.Pipe
namespace Go.Proofs.YtgmodehldmahiaaGreatDoor.Pipe
open Go Go.RowKit Go.Tm
theorem E_{s:ByteArray}(h:s.size=0):s.toList.isEmpty=true:=by
 rw[ByteArray.toList_eq]
 have:s.data.toList.length=0:=BU
 rw[List.length_eq_zero_iff.1 this];rfl
theorem JM{s:ByteArray}(h:s.size≠0):s.toList.isEmpty=false:=by
 rw[ByteArray.toList_eq,List.isEmpty_eq_false_iff]
 intro h0
 exact h (by have:s.data.toList.length=0:=by rw[h0];rfl
             simpa using this)
end Go.Proofs.YtgmodehldmahiaaGreatDoor.Pipe
namespace Go.Proofs.YtgmodehldmahiaaGreatDoor.Pipe
open Go Go.RowKit Go.Tm
def uW(d:ByteArray)(r:Int)(s:ByteArray):ByteArray×Int×Int:=
 if s.size=0 then(d,0,0) else if r≤0 then(d,0,14) else if 8≤d.size then(d,0,6) else(d++s.extract 0 (min (8-d.size) s.size),((min (8-d.size) s.size:Nat):Int),0)
def xB(d:ByteArray)(wr:Int)(n:Int):ByteArray×ByteArray×Int:=
 if n<0 then(d,⟨#[]⟩,1) else if n=0 then(d,⟨#[]⟩,0) else if d.size=0 then(d,⟨#[]⟩,if 1≤wr then 6 else 0) else
  (d.extract (min n.toNat d.size) d.size,d.extract 0 (min n.toNat d.size),0)
theorem ZC(d:ByteArray)(r wr:Int)(s:ByteArray)(w:World)(hd:d.size≤9223372036854775807)(hs:s.size≤9223372036854775807):
  Calls Tryz.prog 202 #[.agg #[.string d,.int .i64 r,.int .i64 wr],.string s] w
   fun e w'=>e=.returned (.tuple #[.agg #[.string (uW d r s).1,.int .i64 r,.int .i64 wr],.int .i64 (uW d r s).2.1,.int .i64 (uW d r s).2.2])∧Below w.heap.size w w':=by
 unfold uW
 by_cases h0:s.size=0
 ·rw[if_pos h0]
  refine Tk d r wr s w hd ?_
  have:=E_ h0
  simpa using this
 ·rw[if_neg h0]
  have h1:=JM h0
  by_cases h2:r≤0
  ·rw[if_pos h2];exact ZB d r wr s w hd h1 h2
  ·rw[if_neg h2]
   by_cases h3:8≤d.size
   ·rw[if_pos h3];exact Tn d r wr s w hd h1 aj h3
   ·rw[if_neg h3]
    by_cases h4:s.size+d.size<8
    ·rw[show min (8-d.size) s.size=s.size by omega]
     refine(ZE d r wr s w aj h1 aj h4).mono ?_
     rintro e w' ⟨rfl,hb⟩
     exact⟨aI,hb⟩
    ·rw[show min (8-d.size) s.size=8-d.size by omega]
     refine(V4 d r wr s w aj h1 aj aj).mono ?_
     rintro e w' ⟨rfl,hb⟩
     refine⟨?_,hb⟩
     rw[show(8-(d.size:Int)).toNat=8-d.size by omega,show(8-(d.size:Int))=((8-d.size:Nat):Int) by omega]
theorem aeS(d:ByteArray)(r wr:Int)(n:Int)(w:World)(hd:d.size≤9223372036854775807):
  Calls Tryz.prog 203 #[.agg #[.string d,.int .i64 r,.int .i64 wr],.int .i64 n] w
   fun e w'=>e=.returned (.tuple #[.agg #[.string (xB d wr n).1,.int .i64 r,.int .i64 wr],.string (xB d wr n).2.1,.int .i64 (xB d wr n).2.2])∧Below w.heap.size w w':=by
 unfold xB
 by_cases h0:n<0
 ·rw[if_pos h0];exact aeQ d r wr n w hd h0
 ·rw[if_neg h0]
  by_cases h1:n=0
  ·rw[if_pos h1];subst h1;exact aai d r wr w hd
  ·rw[if_neg h1]
   by_cases h2:d.size=0
   ·rw[if_pos h2]
    by_cases h3:1≤wr
    ·rw[if_pos h3];exact Wy d r wr n w hd aj (E_ h2) h3
    ·rw[if_neg h3];exact aak d r wr n w hd aj (E_ h2) aj
   ·rw[if_neg h2]
    by_cases h4:n≤d.size
    ·rw[show min n.toNat d.size=n.toNat by omega];exact aaj d r wr n w hd aj (JM h2) h4
    ·rw[show min n.toNat d.size=d.size by omega];exact aeT d r wr n w hd aj (JM h2) aj
end Go.Proofs.YtgmodehldmahiaaGreatDoor.Pipe
namespace Go.Proofs.YtgmodehldmahiaaGreatDoor.Pipe
open Go Go.RowKit Go.Tm
theorem Kl(d:ByteArray)(r q:Int)(hd:d.size≤maxLen)(hr:(Lit.int .i64 r).wf=true)(hq:(Lit.int .i64 q).wf=true):
  Plain Tryz.prog 131 #[.string d,.int .i64 r,.int .i64 q] [.string d.data.toList,.int .i64 r,.int .i64 q]:=by
 refine⟨ay,5,?_⟩
 have h1:Tryz.prog.cellsOf 131=3:=ay
 have h2:Tryz.prog.cellsOf 9=1:=ay
 have h3:Tryz.prog.cellsOf 3=1:=ay
 simp[Program.keyLits,Tryz.underlying131,Tryz.underlying9,Tryz.underlying3,h1,h2,h3,hd,hr,hq]
theorem afl(d d':ByteArray)(r q r' q':Int)(hd:d.size≤maxLen)(hr:(Lit.int .i64 r).wf=true)(hq:(Lit.int .i64 q).wf=true)(hd':d'.size≤maxLen)(hr':(Lit.int .i64 r').wf=true)(hq':(Lit.int .i64 q').wf=true)
  (b:Bool)(hb:b=true↔d=d'∧r=r'∧q=q'):
  ∀w,(Op.equalIn 10000 131 (.agg #[.string d,.int .i64 r,.int .i64 q]) (.agg #[.string d',.int .i64 r',.int .i64 q'])).run Tryz.prog w=.ok b w:=by
 refine j_ (m:=5) aj ay ay (Kl d r q hd hr hq) (Kl d' r' q' hd' hr' hq') b ?_
 rw[hb]
 constructor
 ·rintro⟨rfl,rfl,rfl⟩;rfl
 ·intro h
  simp only[List.cons.injEq,Lit.string.injEq,Lit.int.injEq,and_true,true_and] at h
  refine⟨?_,h.2.1,h.2.2⟩
  have:=h.1
  cases d;cases d'
  simp only[ByteArray.mk.injEq]
  exact Array.ext' this
end Go.Proofs.YtgmodehldmahiaaGreatDoor.Pipe
namespace Go.Proofs.YtgmodehldmahiaaGreatDoor.Pipe
open Go Go.RowKit Go.Tm
theorem uo:Ty Tryz.prog 131 3 true:=⟨ay,ay,aC,ay⟩
theorem Lr(v:Value)(xs:List Value)(mG:FuncId)(gI:Array Value)(p:Value→Bool)(w:World)(hsl:Sl w true 3 v xs)(hp:Pred Tryz.prog w none mG gI p xs):
  Calls Tryz.prog 211 #[v,.func (.func mG) #[] gI] w fun e w'=>e=.returned (.int .i64 (idx p xs))∧Below w.heap.size w w':=by
 obtain⟨hsz,a,cap,rfl,hl,hm,dL⟩:=hsl
 unfold maxLen at hm
 have hlen:xs.length≤9223372036854775807:=aj
 go_enter Tryz.func211,Tryz.ntmps211
 go_wp2_with fail
 go_loopw [8] (fun t wr=>∃i:Nat,i≤xs.length∧t=.int .i64 i∧Below w.heap.size w wr∧∀j y,j<i→xs[j]?=some y→p y=false) (fun t _=>xs.length-(intOf t).toNat)
 case atStart=>exact⟨0,Nat.zero_le _,rfl,Below.refl _ _,wR⟩
 case round=>
  obtain⟨i,hi,rfl,bZ,iq⟩:=hrel
  have HP:=ah iq
  clear iq
  by_cases hlt:i<xs.length
  ·obtain⟨x,hx⟩:∃x,xs[i]?=some x:=⟨_,List.getElem?_eq_getElem hlt⟩
   have jW:x∈xs:=List.mem_of_getElem? hx
   have HV:=ah (hsz _ jW)
   obtain⟨b,off,rfl,hb,hcell⟩:∃b off,a=some ⟨b,off,none⟩∧b<w.heap.size∧Cells wr b (off+i*3) x.cells.toList:=Br
   have HX:=ah hx
   have qP:=ah hcell
   clear hx hcell dL hsz
   have jS:=hp.asks wr (aA bZ none) _ jW
   have fJ:=hp.body
   unfold Body at fJ
   have HC:=ah jS
   clear jS hp
   cases jJ:p x
   ·have xS:=ah jJ
    rw[jJ] at HC
    clear jJ
    go_wp2_with(first|(refine aN rfl 131 _ rfl b (off+i*3) dw x uo HV.out qP.out ?_)|fail)
    exact L_
   ·have xS:=ah jJ
    rw[jJ] at HC
    clear jJ
    go_wp2_with(first|(refine aN rfl 131 _ rfl b (off+i*3) dw x uo HV.out qP.out ?_)|fail)
    exact Bt
  ·exact Bu
theorem NM:(Tryz.prog.info? 131).map (fun i=>(i.zero,i.size,i.bytes))=some (some (.agg #[.string ⟨#[]⟩,.int .i64 0,.int .i64 0]),3,32):=by kernel_rfl
theorem yN(v:Value)(xs:List Value)(w:World)(hsl:Sl w true 3 v xs)(hbytes:xs.length*32≤140737488355328):
  Calls Tryz.prog 100 #[v] w fun e w'=>∃v',e=.returned v'∧bI w' w.heap.size 131 true 3 v' xs∧Below w.heap.size w w':=by
 have rF:=ah hsl
 obtain⟨hsz,a,cap,rfl,hl,hm,dL⟩:=hsl
 have hlen:xs.length≤maxLen:=aj
 cases a with
 |none=>
  have h0:xs=[]:=Bp
  subst h0
  have hnil:=fun(n c:Nat) (w:World)=>fE Tryz.prog (t:=48) (n:=n) (c:=c) Tryz.underlying48 w
  clear dL hsz hl hm hlen
  go_enter Tryz.func100,Tryz.ntmps100
  exact Bq
 |some a=>
  have hnil:=fun(n c:Nat) (w:World)=>fD Tryz.prog (t:=48) (a:=a) (n:=n) (c:=c) Tryz.underlying48 w
  obtain⟨i0,hi,hz0,hz1,hz2⟩:=info_parts NM
  have HI:=ah hi
  have HZ:=ah (And.intro hz0 (And.intro hz1 hz2))
  have HS:=ah hsz
  clear hi hz0 hz1 hz2 dL hl hm hsz
  go_enter Tryz.func100,Tryz.ntmps100
  go_wp2_with(first|(refine wpList_append_own _ rfl _ _ 48 rfl w.heap.size 131 i0 (.agg #[.string ⟨#[]⟩,.int .i64 0,.int .i64 0]) 3 32 Tryz.underlying48 HI.out HZ.out.1 HZ.out.2.1 HZ.out.2.2 rfl aC (.slice (some ⟨w.heap.size,0,none⟩) 0 0) 0 [] dw (World.ownsRow_made w #[] 0 (Nat.le_refl _) (Nat.zero_le _) rfl) a xs.length cap (flat xs) dw ?c1 ?c2 ?c3 ?c4 ?c5 ?c6 ?_)|fail)
  case c1=>exact fA HS.out
  case c2=>exact(rF.out.below ((Below.refl _ _).alloc (Nat.le_refl _) _)).news
  case c3=>exact jq HS.out
  case c4=>omega
  case c5=>omega
  case c6=>simp
  exact L9
def nL(x:Value):Prop:=∃(d:ByteArray) (r q:Int),x=.agg #[.string d,.int .i64 r,.int .i64 q]∧d.size≤9223372036854775807∧(Lit.int .i64 r).wf=true∧(Lit.int .i64 q).wf=true
def Oj:Value:= .agg #[.string ⟨#[]⟩,.int .i64 1,.int .i64 1]
def zm:Value→Bool
 |.agg a=>(match a.toList with|[_,.int _ r,.int _ q]=>decide (r≤0)&&decide (q≤0)|_=>false)
 |_=>false
theorem AB:nL Oj:=⟨⟨#[]⟩,1,1,rfl,aC,rfl,rfl⟩
theorem nL.val{x:Value}(h:nL x):Val true 3 x:=by
 obtain⟨d,r,q,rfl,_⟩:=h
 exact⟨_,rfl,rfl,M7⟩
theorem WM:Body Tryz.prog 212:=gq Tryz.func212 ay ay
theorem aaA(d:ByteArray)(r q:Int)(w:World):Calls Tryz.prog 212 #[.agg #[.string d,.int .i64 r,.int .i64 q]] w fun e w'=>e=.returned (.bool (zm (.agg #[.string d,.int .i64 r,.int .i64 q])))∧Below w.heap.size w w':=by
 have hf:zm (.agg #[.string d,.int .i64 r,.int .i64 q])=(decide (r≤0)&&decide (q≤0)):=rfl
 rw[hf]
 clear hf
 by_cases hr:r≤0<;>by_cases hq:q≤0
 all_goals
  go_enter Tryz.func212,Tryz.ntmps212
  go_wp2_with fail
  go_ret
  exact⟨by simp[hr,hq],aG⟩
theorem aa6(xs:List Value)(hx:∀x∈xs,nL x)(w:World):Pred Tryz.prog w none 212 #[] zm xs:=
 ⟨WM,fun w' _ x hm=>by
  obtain⟨d,r,q,rfl,_⟩:=hx x hm
  exact aaA d r q w'⟩
def mI(xs:List Value):List Value×Int×Int:=
 if idx zm xs<0 then(if 4≤xs.length then(xs,0,5) else(xs++[Oj],xs.length+1,0)) else(xs.set (idx zm xs).toNat Oj,idx zm xs+1,0)
end Go.Proofs.YtgmodehldmahiaaGreatDoor.Pipe
namespace Go.Proofs.YtgmodehldmahiaaGreatDoor.Pipe
open Go Go.RowKit Go.Tm
end Go.Proofs.YtgmodehldmahiaaGreatDoor.Pipe
namespace Go.Proofs.YtgmodehldmahiaaGreatDoor.Pipe
open Go Go.RowKit Go.Tm
abbrev yh(p0 p1 p2 p3:Int)(b0 b1 b2 b3:Bool):Array Value:=#[.int .i64 p0,.bool b0,.int .i64 p1,.bool b1,.int .i64 p2,.bool b2,.int .i64 p3,.bool b3]
def xk(p0 p1 p2 p3:Int)(b0 b1 b2 b3:Bool)(p:Int)(b:Bool):Array Value×Int×Int:=
 if p0=0 then(yh p p1 p2 p3 b b1 b2 b3,0,0) else if p1=0 then(yh p0 p p2 p3 b0 b b2 b3,1,0) else if p2=0 then(yh p0 p1 p p3 b0 b1 b b3,2,0)
 else if p3=0 then(yh p0 p1 p2 p b0 b1 b2 b,3,0) else(yh p0 p1 p2 p3 b0 b1 b2 b3,0,5)
theorem agR(p0 p1 p2 p3 p:Int)(b0 b1 b2 b3 b:Bool)(w:World):
  Calls Tryz.prog 199 #[.agg (yh p0 p1 p2 p3 b0 b1 b2 b3),.agg #[.int .i64 p,.bool b]] w fun e w'=>e=.returned (.tuple #[.agg (xk p0 p1 p2 p3 b0 b1 b2 b3 p b).1,.int .i64 (xk p0 p1 p2 p3 b0 b1 b2 b3 p b).2.1,.int .i64 (xk p0 p1 p2 p3 b0 b1 b2 b3 p b).2.2])∧Below w.heap.size w w':=by
 go_enter Tryz.func199,Tryz.ntmps199
 go_wp2_with fail
 go_loopw [8] (fun t W=>∃i:Nat,i≤4∧t=.int .i64 i∧Below w.heap.size w W∧W.heap.size=w.heap.size+3∧aD W w.heap.size (yh p0 p1 p2 p3 b0 b1 b2 b3) 122∧aD W (w.heap.size+1) #[.int .i64 p,.bool b] 121∧aD W (w.heap.size+1+1) (yh 0 0 0 0 false false false false) 122∧
  (0<i→p0≠0)∧(1<i→p1≠0)∧(2<i→p2≠0)∧(3<i→p3≠0)) (fun t _=>4-(intOf t).toNat)
 case atStart=>exact⟨0,aj,rfl,aG,aI,by exact bx,by exact bx,by exact bx,aj,aj,aj,aj⟩
 case round=>
  obtain⟨i,hi,rfl,bZ,hsz,bx0,bx1,tu,yP,FM,N8,hp3⟩:=hrel
  obtain⟨c0,f0,l0,n0,m0⟩:=bx0.rules
  obtain⟨c1,f1,l1,n1,m1⟩:=bx1.rules
  obtain⟨c2,f2,l2,n2,m2⟩:=tu.rules
  have K0:=ah bx0
  have K1:=ah bx1
  have K2:=ah tu
  clear bx0 bx1 tu
  obtain rfl|rfl|rfl|rfl|rfl:i=0∨i=1∨i=2∨i=3∨i=4:=by omega
  ·by_cases h:p0=0
   ·have hS:xk p0 p1 p2 p3 b0 b1 b2 b3 p b=(yh p p1 p2 p3 b b1 b2 b3,0,0):=by unfold xk;rw[if_pos h]
    have HS:=ah hS
    clear hS yP FM N8 hp3
    go_wp2_with fail
    exact bodyPost_ret (v:= .tuple #[.agg (yh p p1 p2 p3 b b1 b2 b3),.int .i64 0,.int .i64 0]) XG rfl ⟨by rw[HS.out],aG⟩
   ·clear yP FM N8 hp3
    go_wp2_with fail
    go_roundw
    case rel=>exact⟨0+1,aj,dn,bZ,hsz,K0.out,K1.out,K2.out,fun _=>h,aj,aj,aj⟩
    case measure=>simp[intOf]
  ·by_cases h:p1=0
   ·have hS:xk p0 p1 p2 p3 b0 b1 b2 b3 p b=(yh p0 p p2 p3 b0 b b2 b3,1,0):=by unfold xk;rw[if_neg (yP aj),if_pos h]
    have HS:=ah hS
    clear hS yP FM N8 hp3
    go_wp2_with fail
    exact bodyPost_ret (v:= .tuple #[.agg (yh p0 p p2 p3 b0 b b2 b3),.int .i64 1,.int .i64 0]) XG rfl ⟨by rw[HS.out],aG⟩
   ·clear FM N8 hp3
    go_wp2_with fail
    go_roundw
    case rel=>exact⟨1+1,aj,dn,bZ,hsz,K0.out,K1.out,K2.out,fun _=>yP aj,fun _=>h,aj,aj⟩
    case measure=>simp[intOf]
  ·by_cases h:p2=0
   ·have hS:xk p0 p1 p2 p3 b0 b1 b2 b3 p b=(yh p0 p1 p p3 b0 b1 b b3,2,0):=by unfold xk;rw[if_neg (yP aj),if_neg (FM aj),if_pos h]
    have HS:=ah hS
    clear hS yP FM N8 hp3
    go_wp2_with fail
    exact bodyPost_ret (v:= .tuple #[.agg (yh p0 p1 p p3 b0 b1 b b3),.int .i64 2,.int .i64 0]) XG rfl ⟨by rw[HS.out],aG⟩
   ·clear N8 hp3
    go_wp2_with fail
    go_roundw
    case rel=>exact⟨2+1,aj,dn,bZ,hsz,K0.out,K1.out,K2.out,fun _=>yP aj,fun _=>FM aj,fun _=>h,aj⟩
    case measure=>simp[intOf]
  ·by_cases h:p3=0
   ·have hS:xk p0 p1 p2 p3 b0 b1 b2 b3 p b=(yh p0 p1 p2 p b0 b1 b2 b,3,0):=by unfold xk;rw[if_neg (yP aj),if_neg (FM aj),if_neg (N8 aj),if_pos h]
    have HS:=ah hS
    clear hS yP FM N8 hp3
    go_wp2_with fail
    exact bodyPost_ret (v:= .tuple #[.agg (yh p0 p1 p2 p b0 b1 b2 b),.int .i64 3,.int .i64 0]) XG rfl ⟨by rw[HS.out],aG⟩
   ·clear hp3
    go_wp2_with fail
    go_roundw
    case rel=>exact⟨3+1,aj,dn,bZ,hsz,K0.out,K1.out,K2.out,fun _=>yP aj,fun _=>FM aj,fun _=>N8 aj,fun _=>h⟩
    case measure=>simp[intOf]
  ·have hS:xk p0 p1 p2 p3 b0 b1 b2 b3 p b=(yh p0 p1 p2 p3 b0 b1 b2 b3,0,5):=by unfold xk;rw[if_neg (yP aj),if_neg (FM aj),if_neg (N8 aj),if_neg (hp3 aj)]
   have HS:=ah hS
   clear hS yP FM N8 hp3
   go_wp2_with fail
   exact bodyPost_ret (v:= .tuple #[.agg (yh p0 p1 p2 p3 b0 b1 b2 b3),.int .i64 0,.int .i64 5]) (by simp[results,Tryz.results199,go_sem,c2,c0]) rfl ⟨by rw[HS.out],aG⟩
end Go.Proofs.YtgmodehldmahiaaGreatDoor.Pipe
namespace Go.Proofs.YtgmodehldmahiaaGreatDoor.Pipe
open Go Go.RowKit Go.Tm
theorem Fe(v u:Value)(xs:List Value)(w:World)(hv:Sl w true 3 v xs)(hu:Sl w true 3 u xs)(hx:∀x∈xs,nL x):
  Calls Tryz.prog 27 #[v,u] w fun e w'=>e=.returned (.bool true)∧Below w.heap.size w w':=by
 obtain⟨hsz,a,cap,rfl,hl,hm,dL⟩:=hv
 obtain⟨_,a2,jl,rfl,hl2,nS,JE⟩:=hu
 unfold maxLen at hm
 go_enter Tryz.func27,Tryz.ntmps27
 go_wp2_with fail
 go_loopw [5] (fun t W=>∃i:Nat,i≤xs.length∧t=.int .i64 i∧Below w.heap.size w W) (fun t _=>xs.length-(intOf t).toNat)
 case atStart=>exact⟨0,Nat.zero_le _,rfl,Below.refl _ _⟩
 case round=>
  obtain⟨i,hi,rfl,bZ⟩:=hrel
  have Bj:=bZ.size
  by_cases hlt:i<xs.length
  ·obtain⟨x,hxi⟩:∃x,xs[i]?=some x:=⟨_,List.getElem?_eq_getElem hlt⟩
   have jW:x∈xs:=List.mem_of_getElem? hxi
   obtain⟨d,r,q,rfl,hd,hr,hq⟩:=hx x jW
   obtain⟨b,off,rfl,hb,hcell⟩:∃b off,a=some ⟨b,off,none⟩∧b<w.heap.size∧Cells wr b (off+i*3) (Value.agg #[.string d,.int .i64 r,.int .i64 q]).cells.toList:=by
    rcases dL with h0|⟨b,off,ha,hb,hc⟩
    ·subst h0;simp at hlt
    ·exact⟨b,off,ha,hb,(hc i _ hxi).below bZ hb⟩
   obtain⟨b2,nU,rfl,hb2,Pw⟩:∃b off,a2=some ⟨b,off,none⟩∧b<w.heap.size∧Cells wr b (off+i*3) (Value.agg #[.string d,.int .i64 r,.int .i64 q]).cells.toList:=by
    rcases JE with h0|⟨b,off,ha,hb,hc⟩
    ·subst h0;simp at hlt
    ·exact⟨b,off,ha,hb,(hc i _ hxi).below bZ hb⟩
   have c0:wr.cell? ⟨b,off+i*3,none⟩=some (.string d):=hcell 0 _ rfl
   have c1:wr.cell? ⟨b,off+i*3+1,none⟩=some (.int .i64 r):=hcell 1 _ rfl
   have c2:wr.cell? ⟨b,off+i*3+2,none⟩=some (.int .i64 q):=hcell 2 _ rfl
   have e0:wr.cell? ⟨b2,nU+i*3,none⟩=some (.string d):=Pw 0 _ rfl
   have e1:wr.cell? ⟨b2,nU+i*3+1,none⟩=some (.int .i64 r):=Pw 1 _ rfl
   have e2:wr.cell? ⟨b2,nU+i*3+2,none⟩=some (.int .i64 q):=Pw 2 _ rfl
   have heq:=afl d d r q r q yA hr hq yA hr hq true aI
   have hwr:IntKind.i64.wrap ((i:Int)+1)=i+1:=IntWalk.i64_in _ aj
   clear hcell Pw hxi jW dL JE hsz hx hd hr hq
   exact ai5
  ·clear dL JE hsz hx
   exact Dm
def VY(wr:Bool)(n:Int):Value→Value
 |.agg a=>(match a.toList with|[d,.int _ r,.int _ q]=>(if wr=true then .agg #[d,.int .i64 r,.int .i64 (wrap64 (q+n))] else .agg #[d,.int .i64 (wrap64 (r+n)),.int .i64 q])|_=> .agg a)
 |v=>v
def rW(xs:List Value)(p:Int)(wr:Bool)(n:Int):List Value:=if p<1 then xs else xs.modify (p-1).toNat (VY wr n)
theorem KE{xs:List Value}{p:Int}{wr:Bool}{n:Int}(h:p<1∨(xs.length:Int)<p):rW xs p wr n=xs:=by
 unfold rW
 split
 ·rfl
 ·rw[List.modify_eq_self];omega
theorem abg{xs:List Value}{i:Nat}{x:Value}{wr:Bool}{n:Int}(h:xs[i]?=some x):rW xs (i+1) wr n=xs.set i (VY wr n x):=by
 unfold rW
 rw[if_neg aj,show((i:Int)+1-1).toNat=i by omega]
 obtain⟨hi,rfl⟩:=List.getElem?_eq_some_iff.1 h
 apply List.ext_getElem?
 intro j
 rw[List.getElem?_modify,List.getElem?_set]
 by_cases hj:i=j
 ·subst hj;simp[hi]
 ·simp[hj]
end Go.Proofs.YtgmodehldmahiaaGreatDoor.Pipe
end
section
namespace Go.Proofs.YtgmodehldmahiaaGreatDoor.Pipe
open Go Go.RowKit Go.Tm
theorem TQ(b:Bool)(n:Int){x:Value}(h:nL x):nL (VY b n x):=by
 obtain⟨d,r,q,rfl,hd,hr,hq⟩:=h
 cases b
 ·exact⟨d,_,q,rfl,hd,wrap64_wf _,hq⟩
 ·exact⟨d,r,_,rfl,hd,hr,wrap64_wf _⟩
theorem CG(xs:List Value)(p:Int)(b:Bool)(n:Int):(rW xs p b n).length=xs.length:=by
 unfold rW;split<;>simp
theorem tq{xs:List Value}(hx:∀x∈xs,nL x)(p:Int)(b:Bool)(n:Int):∀x∈rW xs p b n,nL x:=by
 unfold rW
 split
 ·exact hx
 ·intro y hy
  obtain⟨i,hi,rfl⟩:=List.getElem_of_mem hy
  rw[List.getElem_modify]
  split
  ·exact TQ _ _ (hx _ (List.getElem_mem _))
  ·exact hx _ (List.getElem_mem _)
theorem WK{xs:List Value}(hx:∀x∈xs,nL x):∀x∈(mI xs).1,nL x:=by
 unfold mI
 split
 ·split
  ·exact hx
  ·intro y hy
   rcases List.mem_append.1 hy with hy|hy
   ·exact hx y hy
   ·rw[List.mem_singleton.1 hy];exact AB
 ·intro y hy
  rcases List.mem_or_eq_of_mem_set hy with hy|rfl
  ·exact hx y hy
  ·exact AB
theorem aaz(xs:List Value):(mI xs).1.length≤xs.length+1:=by
 unfold mI
 split
 ·split<;>simp
 ·simp
theorem R8{xs:List Value}(hx:∀x∈xs,nL x){i:Nat}{y:Value}(hy:nL y):∀x∈xs.set i y,nL x:=by
 intro x h
 rcases List.mem_or_eq_of_mem_set h with h|rfl
 ·exact hx x h
 ·exact hy
theorem Tp(d:ByteArray)(r:Int)(s:ByteArray)(hd:d.size≤9223372036854775807):(uW d r s).1.size≤9223372036854775807:=by
 unfold uW
 split;·exact hd
 split;·exact hd
 split;·exact hd
 simp only[ByteArray.size_append,ByteArray.size_extract]
 omega
theorem Wz(d:ByteArray)(wr n:Int)(hd:d.size≤9223372036854775807):(xB d wr n).1.size≤9223372036854775807∧(xB d wr n).2.1.size≤9223372036854775807:=by
 unfold xB
 split;·exact⟨hd,Nat.zero_le _⟩
 split;·exact⟨hd,Nat.zero_le _⟩
 split;·exact⟨hd,Nat.zero_le _⟩
 simp only[ByteArray.size_extract]
 omega
end Go.Proofs.YtgmodehldmahiaaGreatDoor.Pipe
end
section
namespace Go.Proofs.YtgmodehldmahiaaGreatDoor.Call
open Go Go.RowKit Go.Tm
def tF(e v:Int):Int:=if e=0 then v else-(e%4294967296)%4294967296
theorem RV(e v:Int)(w:World):Calls Tryz.prog 138 #[.int .i64 e,.int .u32 v] w fun en w'=>en=.returned (.int .u32 (tF e v))∧w=w':=by
 by_cases h:e=0
 ·subst h
  go_enter Tryz.func138,Tryz.ntmps138
  go_wp2_with fail
  go_ret
  exact⟨by simp[tF],rfl⟩
 ·have h':(e==0)=false:=by simpa using h
  go_enter Tryz.func138,Tryz.ntmps138
  go_wp2_with fail
  go_ret
  exact⟨by simp[tF,h],rfl⟩
theorem ZI(e v:Int)(w:World):Calls Tryz.prog 138 #[.int .i64 e,.int .u32 v] w fun en w'=>en=.returned (.int .u32 (tF e v))∧Below w.heap.size w w':=
 (RV e v w).mono fun e w' h=>⟨h.1,h.2▸Below.refl _ _⟩
abbrev agm(a b c d e f g h pc:Int):Value:= .agg #[.int .u32 a,.int .u32 b,.int .u32 c,.int .u32 d,.int .u32 e,.int .u32 f,.int .u32 g,.int .u32 h,.int .u32 pc]
theorem afj(a b c d e f g h pc:Int)(w:World):Calls Tryz.prog 115 #[agm a b c d e f g h pc] w fun en w'=>en=.returned (.agg #[.int .u32 a,.int .u32 b,.int .u32 c,.int .u32 d])∧Below w.heap.size w w':=by
 go_enter Tryz.func115,Tryz.ntmps115
 go_wp2_with fail
 exact bodyPost_ret (v:= .agg #[.int .u32 a,.int .u32 b,.int .u32 c,.int .u32 d]) (by simp[results,Tryz.results115,go_sem]) rfl ⟨rfl,aG⟩
theorem afC(a b c d e f g h pc k v:Int)(w:World):Calls Tryz.prog 136 #[agm a b c d e f g h pc,.int .i64 k,.int .u32 v] w fun en w'=>en=.returned (agm (tF k v) b c d e f g h pc)∧Below w.heap.size w w':=by
 have HV:=ah (fun W=>RV k v W)
 generalize tF k v=r at*
 go_enter Tryz.func136,Tryz.ntmps136
 go_wp2_with fail
 with_reducible refine(HV.out _).mono ?_
 rintro en w1 ⟨rfl,rfl⟩
 go_wp2_with fail
 exact bodyPost_ret (v:=agm r b c d e f g h pc) (by simp[results,Tryz.results136,go_sem]) rfl ⟨rfl,aG⟩
end Go.Proofs.YtgmodehldmahiaaGreatDoor.Call
end
