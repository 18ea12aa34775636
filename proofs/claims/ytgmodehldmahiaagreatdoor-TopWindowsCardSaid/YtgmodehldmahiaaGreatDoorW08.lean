/- Part 8 of 50 of the proof of topWindows_holds. Conditions: see each. -/
import Derived.Test.YtgmodehldmahiaaGreatDoorW01
import Derived.Test.YtgmodehldmahiaaGreatDoorW02
set_option linter.unusedVariables false
set_option linter.unusedSimpArgs false
set_option maxRecDepth 8192
set_option maxHeartbeats 40000000
section
namespace Go.Proofs.YtgmodehldmahiaaGreatDoor.Pipe
open Go Go.RowKit Go.Tm
theorem ND(d:ByteArray)(r wr:Int)(s:ByteArray)(w:World)(hd:d.size≤9223372036854775807)(hs:s.toList=[]):
  Calls Tryz.prog 202 #[.agg #[.string d,.int .i64 r,.int .i64 wr],.string s] w
   fun e w'=>e=.returned (.tuple #[.agg #[.string d,.int .i64 r,.int .i64 wr],.int .i64 0,.int .i64 0])∧Below w.heap.size w w':=by
 have hs2:s.toList.isEmpty=true:=by rw[hs];rfl
 clear hs
 go_enter Tryz.func202,Tryz.ntmps202
 go_wp2_with fail
 refine bodyPost_ret (v:= .tuple #[.agg #[.string d,.int .i64 r,.int .i64 wr],.int .i64 0,.int .i64 0]) Fg rfl ⟨rfl,?_⟩
 exact bl
theorem UA(d:ByteArray)(r wr:Int)(s:ByteArray)(w:World)(hd:d.size≤9223372036854775807)(hs2:s.toList.isEmpty=false)(hr:r≤0):
  Calls Tryz.prog 202 #[.agg #[.string d,.int .i64 r,.int .i64 wr],.string s] w
   fun e w'=>e=.returned (.tuple #[.agg #[.string d,.int .i64 r,.int .i64 wr],.int .i64 0,.int .i64 14])∧Below w.heap.size w w':=by
 go_enter Tryz.func202,Tryz.ntmps202
 go_wp2_with fail
 refine bodyPost_ret (v:= .tuple #[.agg #[.string d,.int .i64 r,.int .i64 wr],.int .i64 0,.int .i64 14]) Fg rfl ⟨rfl,?_⟩
 exact bl
theorem NG(d:ByteArray)(r wr:Int)(s:ByteArray)(w:World)(hd:d.size≤9223372036854775807)(hs2:s.toList.isEmpty=false)(hr:1≤r)(h8:8≤d.size):
  Calls Tryz.prog 202 #[.agg #[.string d,.int .i64 r,.int .i64 wr],.string s] w
   fun e w'=>e=.returned (.tuple #[.agg #[.string d,.int .i64 r,.int .i64 wr],.int .i64 0,.int .i64 6])∧Below w.heap.size w w':=by
 go_enter Tryz.func202,Tryz.ntmps202
 go_wp2_with fail
 refine bodyPost_ret (v:= .tuple #[.agg #[.string d,.int .i64 r,.int .i64 wr],.int .i64 0,.int .i64 6]) Fg rfl ⟨rfl,?_⟩
 exact bl
theorem UD(d:ByteArray)(r wr:Int)(s:ByteArray)(w:World)(hd:d.size<8)(hs2:s.toList.isEmpty=false)(hr:1≤r)(hs:s.size+d.size<8):
  Calls Tryz.prog 202 #[.agg #[.string d,.int .i64 r,.int .i64 wr],.string s] w
   fun e w'=>e=.returned (.tuple #[.agg #[.string (d++s),.int .i64 r,.int .i64 wr],.int .i64 s.size,.int .i64 0])∧Below w.heap.size w w':=by
 go_enter Tryz.func202,Tryz.ntmps202
 go_wp2_with fail
 all_goals go_region
 all_goals go_wp2_with fail
 all_goals
  refine bodyPost_ret (v:= .tuple #[.agg #[.string (d++s),.int .i64 r,.int .i64 wr],.int .i64 s.size,.int .i64 0]) Fg rfl ⟨rfl,?_⟩
  exact bl
theorem Qz(d:ByteArray)(r wr:Int)(s:ByteArray)(w:World)(hd:d.size<8)(hs2:s.toList.isEmpty=false)(hr:1≤r)(hs:8≤s.size+d.size):
  Calls Tryz.prog 202 #[.agg #[.string d,.int .i64 r,.int .i64 wr],.string s] w
   fun e w'=>e=.returned (.tuple #[.agg #[.string (d++s.extract 0 (8-(d.size:Int)).toNat),.int .i64 r,.int .i64 wr],.int .i64 (8-d.size),.int .i64 0])∧Below w.heap.size w w':=by
 go_enter Tryz.func202,Tryz.ntmps202
 go_wp2_with fail
 all_goals go_region
 all_goals go_wp2_with fail
 all_goals
  refine bodyPost_ret (v:= .tuple #[.agg #[.string (d++s.extract 0 (8-(d.size:Int)).toNat),.int .i64 r,.int .i64 wr],.int .i64 (8-d.size),.int .i64 0]) Fg rfl ⟨rfl,?_⟩
  exact bl
theorem aaj(d:ByteArray)(r wr n:Int)(w:World)(hd:d.size≤9223372036854775807)(hn:n<0):
  Calls Tryz.prog 203 #[.agg #[.string d,.int .i64 r,.int .i64 wr],.int .i64 n] w
   fun e w'=>e=.returned (.tuple #[.agg #[.string d,.int .i64 r,.int .i64 wr],.string ⟨#[]⟩,.int .i64 1])∧Below w.heap.size w w':=by
 go_enter Tryz.func203,Tryz.ntmps203
 go_wp2_with fail
 refine bodyPost_ret (v:= .tuple #[.agg #[.string d,.int .i64 r,.int .i64 wr],.string ⟨#[]⟩,.int .i64 1]) BP rfl ⟨rfl,?_⟩
 exact bl
theorem Vh(d:ByteArray)(r wr:Int)(w:World)(hd:d.size≤9223372036854775807):
  Calls Tryz.prog 203 #[.agg #[.string d,.int .i64 r,.int .i64 wr],.int .i64 0] w
   fun e w'=>e=.returned (.tuple #[.agg #[.string d,.int .i64 r,.int .i64 wr],.string ⟨#[]⟩,.int .i64 0])∧Below w.heap.size w w':=by
 go_enter Tryz.func203,Tryz.ntmps203
 go_wp2_with fail
 refine bodyPost_ret (v:= .tuple #[.agg #[.string d,.int .i64 r,.int .i64 wr],.string ⟨#[]⟩,.int .i64 0]) BP rfl ⟨rfl,?_⟩
 exact bl
theorem Q5(d:ByteArray)(r wr n:Int)(w:World)(hd:d.size≤9223372036854775807)(hn:1≤n)(he:d.toList.isEmpty=true)(hw:1≤wr):
  Calls Tryz.prog 203 #[.agg #[.string d,.int .i64 r,.int .i64 wr],.int .i64 n] w
   fun e w'=>e=.returned (.tuple #[.agg #[.string d,.int .i64 r,.int .i64 wr],.string ⟨#[]⟩,.int .i64 6])∧Below w.heap.size w w':=by
 go_enter Tryz.func203,Tryz.ntmps203
 go_wp2_with fail
 refine bodyPost_ret (v:= .tuple #[.agg #[.string d,.int .i64 r,.int .i64 wr],.string ⟨#[]⟩,.int .i64 6]) BP rfl ⟨rfl,?_⟩
 exact bl
theorem Vj(d:ByteArray)(r wr n:Int)(w:World)(hd:d.size≤9223372036854775807)(hn:1≤n)(he:d.toList.isEmpty=true)(hw:wr≤0):
  Calls Tryz.prog 203 #[.agg #[.string d,.int .i64 r,.int .i64 wr],.int .i64 n] w
   fun e w'=>e=.returned (.tuple #[.agg #[.string d,.int .i64 r,.int .i64 wr],.string ⟨#[]⟩,.int .i64 0])∧Below w.heap.size w w':=by
 go_enter Tryz.func203,Tryz.ntmps203
 go_wp2_with fail
 refine bodyPost_ret (v:= .tuple #[.agg #[.string d,.int .i64 r,.int .i64 wr],.string ⟨#[]⟩,.int .i64 0]) BP rfl ⟨rfl,?_⟩
 exact bl
theorem Vi(d:ByteArray)(r wr n:Int)(w:World)(hd:d.size≤9223372036854775807)(hn:1≤n)(he:d.toList.isEmpty=false)(hle:n≤d.size):
  Calls Tryz.prog 203 #[.agg #[.string d,.int .i64 r,.int .i64 wr],.int .i64 n] w
   fun e w'=>e=.returned (.tuple #[.agg #[.string (d.extract n.toNat d.size),.int .i64 r,.int .i64 wr],.string (d.extract 0 n.toNat),.int .i64 0])∧Below w.heap.size w w':=by
 go_enter Tryz.func203,Tryz.ntmps203
 go_wp2_with fail
 refine bodyPost_ret (v:= .tuple #[.agg #[.string (d.extract n.toNat d.size),.int .i64 r,.int .i64 wr],.string (d.extract 0 n.toNat),.int .i64 0]) BP rfl ⟨rfl,?_⟩
 exact bl
theorem aam(d:ByteArray)(r wr n:Int)(w:World)(hd:d.size≤9223372036854775807)(hn:1≤n)(he:d.toList.isEmpty=false)(hle:d.size<n):
  Calls Tryz.prog 203 #[.agg #[.string d,.int .i64 r,.int .i64 wr],.int .i64 n] w
   fun e w'=>e=.returned (.tuple #[.agg #[.string (d.extract d.size d.size),.int .i64 r,.int .i64 wr],.string (d.extract 0 d.size),.int .i64 0])∧Below w.heap.size w w':=by
 go_enter Tryz.func203,Tryz.ntmps203
 go_wp2_with fail
 refine bodyPost_ret (v:= .tuple #[.agg #[.string (d.extract d.size d.size),.int .i64 r,.int .i64 wr],.string (d.extract 0 d.size),.int .i64 0]) BP rfl ⟨rfl,?_⟩
 exact bl
end Go.Proofs.YtgmodehldmahiaaGreatDoor.Pipe
namespace Go.Proofs.YtgmodehldmahiaaGreatDoor.Pipe
open Go Go.RowKit Go.Tm
theorem Cc{s:ByteArray}(h:s.size=0):s.toList.isEmpty=true:=by
 rw[ByteArray.toList_eq]
 have:s.data.toList.length=0:=ES
 rw[List.length_eq_zero_iff.1 this];rfl
theorem FN{s:ByteArray}(h:s.size≠0):s.toList.isEmpty=false:=by
 rw[ByteArray.toList_eq,List.isEmpty_eq_false_iff]
 intro h0
 exact h (by have:s.data.toList.length=0:=by rw[h0];rfl
             simpa using this)
end Go.Proofs.YtgmodehldmahiaaGreatDoor.Pipe
namespace Go.Proofs.YtgmodehldmahiaaGreatDoor.Pipe
open Go Go.RowKit Go.Tm
def rO(d:ByteArray)(r:Int)(s:ByteArray):ByteArray×Int×Int:=
 if s.size=0 then(d,0,0) else if r≤0 then(d,0,14) else if 8≤d.size then(d,0,6) else(d++s.extract 0 (min (8-d.size) s.size),((min (8-d.size) s.size:Nat):Int),0)
def t_(d:ByteArray)(wr:Int)(n:Int):ByteArray×ByteArray×Int:=
 if n<0 then(d,⟨#[]⟩,1) else if n=0 then(d,⟨#[]⟩,0) else if d.size=0 then(d,⟨#[]⟩,if 1≤wr then 6 else 0) else
  (d.extract (min n.toNat d.size) d.size,d.extract 0 (min n.toNat d.size),0)
theorem UC(d:ByteArray)(r wr:Int)(s:ByteArray)(w:World)(hd:d.size≤9223372036854775807)(hs:s.size≤9223372036854775807):
  Calls Tryz.prog 202 #[.agg #[.string d,.int .i64 r,.int .i64 wr],.string s] w
   fun e w'=>e=.returned (.tuple #[.agg #[.string (rO d r s).1,.int .i64 r,.int .i64 wr],.int .i64 (rO d r s).2.1,.int .i64 (rO d r s).2.2])∧Below w.heap.size w w':=by
 unfold rO
 by_cases h0:s.size=0
 ·rw[if_pos h0]
  refine ND d r wr s w hd ?_
  have:=Cc h0
  simpa using this
 ·rw[if_neg h0]
  have h1:=FN h0
  by_cases h2:r≤0
  ·rw[if_pos h2];exact UA d r wr s w hd h1 h2
  ·rw[if_neg h2]
   by_cases h3:8≤d.size
   ·rw[if_pos h3];exact NG d r wr s w hd h1 ah h3
   ·rw[if_neg h3]
    by_cases h4:s.size+d.size<8
    ·rw[show min (8-d.size) s.size=s.size by omega]
     refine(UD d r wr s w ah h1 ah h4).mono ?_
     rintro e w' ⟨rfl,hb⟩
     exact⟨aI,hb⟩
    ·rw[show min (8-d.size) s.size=8-d.size by omega]
     refine(Qz d r wr s w ah h1 ah ah).mono ?_
     rintro e w' ⟨rfl,hb⟩
     refine⟨?_,hb⟩
     rw[show(8-(d.size:Int)).toNat=8-d.size by omega,show(8-(d.size:Int))=((8-d.size:Nat):Int) by omega]
theorem aal(d:ByteArray)(r wr:Int)(n:Int)(w:World)(hd:d.size≤9223372036854775807):
  Calls Tryz.prog 203 #[.agg #[.string d,.int .i64 r,.int .i64 wr],.int .i64 n] w
   fun e w'=>e=.returned (.tuple #[.agg #[.string (t_ d wr n).1,.int .i64 r,.int .i64 wr],.string (t_ d wr n).2.1,.int .i64 (t_ d wr n).2.2])∧Below w.heap.size w w':=by
 unfold t_
 by_cases h0:n<0
 ·rw[if_pos h0];exact aaj d r wr n w hd h0
 ·rw[if_neg h0]
  by_cases h1:n=0
  ·rw[if_pos h1];subst h1;exact Vh d r wr w hd
  ·rw[if_neg h1]
   by_cases h2:d.size=0
   ·rw[if_pos h2]
    by_cases h3:1≤wr
    ·rw[if_pos h3];exact Q5 d r wr n w hd ah (Cc h2) h3
    ·rw[if_neg h3];exact Vj d r wr n w hd ah (Cc h2) ah
   ·rw[if_neg h2]
    by_cases h4:n≤d.size
    ·rw[show min n.toNat d.size=n.toNat by omega];exact Vi d r wr n w hd ah (FN h2) h4
    ·rw[show min n.toNat d.size=d.size by omega];exact aam d r wr n w hd ah (FN h2) ah
end Go.Proofs.YtgmodehldmahiaaGreatDoor.Pipe
namespace Go.Proofs.YtgmodehldmahiaaGreatDoor.Pipe
open Go Go.RowKit Go.Tm
end Go.Proofs.YtgmodehldmahiaaGreatDoor.Pipe
namespace Go.Proofs.YtgmodehldmahiaaGreatDoor.Pipe
open Go Go.RowKit Go.Tm
theorem qJ:Ty Tryz.prog 131 3 true:=⟨aj,aj,aB,aj⟩
theorem GK(v:Value)(xs:List Value)(fid:FuncId)(caps:Array Value)(p:Value→Bool)(w:World)(hsl:Sl w true 3 v xs)(hp:Pred Tryz.prog w none fid caps p xs):
  Calls Tryz.prog 211 #[v,.func (.func fid) #[] caps] w fun e w'=>e=.returned (.int .i64 (idx p xs))∧Below w.heap.size w w':=by
 obtain⟨hsz,a,cap,rfl,hl,hm,hform⟩:=hsl
 unfold maxLen at hm
 have hlen:xs.length≤9223372036854775807:=ah
 go_enter Tryz.func211,Tryz.ntmps211
 go_wp2_with fail
 go_loopw [8] (fun t wr=>∃i:Nat,i≤xs.length∧t=.int .i64 i∧Below w.heap.size w wr∧∀j y,j<i→xs[j]?=some y→p y=false) (fun t _=>xs.length-(intOf t).toNat)
 case atStart=>exact⟨0,Nat.zero_le _,rfl,Below.refl _ _,tF⟩
 case round=>
  obtain⟨i,hi,rfl,hbw,fG⟩:=hrel
  have HP:=Lib.hid fG
  clear fG
  by_cases hlt:i<xs.length
  ·obtain⟨x,hx⟩:∃x,xs[i]?=some x:=⟨_,List.getElem?_eq_getElem hlt⟩
   have hmem:x∈xs:=List.mem_of_getElem? hx
   have HV:=Lib.hid (hsz _ hmem)
   obtain⟨b,off,rfl,hb,hcell⟩:∃b off,a=some ⟨b,off,none⟩∧b<w.heap.size∧Cells wr b (off+i*3) x.cells.toList:=yx
   have HX:=Lib.hid hx
   have nu:=Lib.hid hcell
   clear hx hcell hform hsz
   have hcall:=hp.asks wr (ay hbw none) _ hmem
   have hbody:=hp.body
   unfold Body at hbody
   have HC:=Lib.hid hcall
   clear hcall hp
   cases hpx:p x
   ·have uG:=Lib.hid hpx
    rw[hpx] at HC
    clear hpx
    go_wp2_with(first|(refine aO rfl 131 _ rfl b (off+i*3) bT x qJ HV.out nu.out ?_)|fail)
    exact Hr
   ·have uG:=Lib.hid hpx
    rw[hpx] at HC
    clear hpx
    go_wp2_with(first|(refine aO rfl 131 _ rfl b (off+i*3) bT x qJ HV.out nu.out ?_)|fail)
    exact yA
  ·exact yB
theorem Ji:(Tryz.prog.info? 131).map (fun i=>(i.zero,i.size,i.bytes))=some (some (.agg #[.string ⟨#[]⟩,.int .i64 0,.int .i64 0]),3,32):=by kernel_rfl
theorem vB(v:Value)(xs:List Value)(w:World)(hsl:Sl w true 3 v xs)(hbytes:xs.length*32≤140737488355328):
  Calls Tryz.prog 100 #[v] w fun e w'=>∃v',e=.returned v'∧bB w' w.heap.size 131 true 3 v' xs∧Below w.heap.size w w':=by
 have hsl0:=Lib.hid hsl
 obtain⟨hsz,a,cap,rfl,hl,hm,hform⟩:=hsl
 have hlen:xs.length≤maxLen:=ah
 cases a with
 |none=>
  have h0:xs=[]:=yu
  subst h0
  have hnil:=fun(n c:Nat) (w:World)=>eD Tryz.prog (t:=48) (n:=n) (c:=c) Tryz.underlying48 w
  clear hform hsz hl hm hlen
  go_enter Tryz.func100,Tryz.ntmps100
  exact yw
 |some a=>
  have hnil:=fun(n c:Nat) (w:World)=>eB Tryz.prog (t:=48) (a:=a) (n:=n) (c:=c) Tryz.underlying48 w
  obtain⟨i0,hi,hz0,hz1,hz2⟩:=info_parts Ji
  have HI:=Lib.hid hi
  have HZ:=Lib.hid (And.intro hz0 (And.intro hz1 hz2))
  have HS:=Lib.hid hsz
  clear hi hz0 hz1 hz2 hform hl hm hsz
  go_enter Tryz.func100,Tryz.ntmps100
  go_wp2_with(first|(refine wpList_append_own _ rfl _ _ 48 rfl w.heap.size 131 i0 (.agg #[.string ⟨#[]⟩,.int .i64 0,.int .i64 0]) 3 32 Tryz.underlying48 HI.out HZ.out.1 HZ.out.2.1 HZ.out.2.2 rfl aB (.slice (some ⟨w.heap.size,0,none⟩) 0 0) 0 [] bT (World.ownsRow_made w #[] 0 (Nat.le_refl _) (Nat.zero_le _) rfl) a xs.length cap (flat xs) bT ?c1 ?c2 ?c3 ?c4 ?c5 ?c6 ?_)|fail)
  case c1=>exact dX HS.out
  case c2=>exact(hsl0.out.below ((Below.refl _ _).alloc (Nat.le_refl _) _)).news
  case c3=>exact iD HS.out
  case c4=>omega
  case c5=>omega
  case c6=>simp
  exact yC
def lI(x:Value):Prop:=∃(d:ByteArray) (r q:Int),x=.agg #[.string d,.int .i64 r,.int .i64 q]∧d.size≤9223372036854775807∧(Lit.int .i64 r).wf=true∧(Lit.int .i64 q).wf=true
def newV:Value:= .agg #[.string ⟨#[]⟩,.int .i64 1,.int .i64 1]
def vJ:Value→Bool
 |.agg a=>(match a.toList with|[_,.int _ r,.int _ q]=>decide (r≤0)&&decide (q≤0)|_=>false)
 |_=>false
theorem xG:lI newV:=⟨⟨#[]⟩,1,1,rfl,aB,rfl,rfl⟩
theorem lI.val{x:Value}(h:lI x):Val true 3 x:=by
 obtain⟨d,r,q,rfl,_⟩:=h
 exact⟨_,rfl,rfl,IB⟩
theorem Ri:Body Tryz.prog 212:=eZ Tryz.func212 aj aj
theorem Vw(d:ByteArray)(r q:Int)(w:World):Calls Tryz.prog 212 #[.agg #[.string d,.int .i64 r,.int .i64 q]] w fun e w'=>e=.returned (.bool (vJ (.agg #[.string d,.int .i64 r,.int .i64 q])))∧Below w.heap.size w w':=by
 have hf:vJ (.agg #[.string d,.int .i64 r,.int .i64 q])=(decide (r≤0)&&decide (q≤0)):=rfl
 rw[hf]
 clear hf
 by_cases hr:r≤0<;>by_cases hq:q≤0
 all_goals
  go_enter Tryz.func212,Tryz.ntmps212
  go_wp2_with fail
  go_ret
  exact⟨by simp[hr,hq],aD⟩
theorem V6(xs:List Value)(hx:∀x∈xs,lI x)(w:World):Pred Tryz.prog w none 212 #[] vJ xs:=
 ⟨Ri,fun w' _ x hm=>by
  obtain⟨d,r,q,rfl,_⟩:=hx x hm
  exact Vw d r q w'⟩
def kH(xs:List Value):List Value×Int×Int:=
 if idx vJ xs<0 then(if 4≤xs.length then(xs,0,5) else(xs++[newV],xs.length+1,0)) else(xs.set (idx vJ xs).toNat newV,idx vJ xs+1,0)
end Go.Proofs.YtgmodehldmahiaaGreatDoor.Pipe
namespace Go.Proofs.YtgmodehldmahiaaGreatDoor.Pipe
open Go Go.RowKit Go.Tm
end Go.Proofs.YtgmodehldmahiaaGreatDoor.Pipe
namespace Go.Proofs.YtgmodehldmahiaaGreatDoor.Pipe
open Go Go.RowKit Go.Tm
abbrev uM(p0 p1 p2 p3:Int)(b0 b1 b2 b3:Bool):Array Value:=#[.int .i64 p0,.bool b0,.int .i64 p1,.bool b1,.int .i64 p2,.bool b2,.int .i64 p3,.bool b3]
def tT(p0 p1 p2 p3:Int)(b0 b1 b2 b3:Bool)(p:Int)(b:Bool):Array Value×Int×Int:=
 if p0=0 then(uM p p1 p2 p3 b b1 b2 b3,0,0) else if p1=0 then(uM p0 p p2 p3 b0 b b2 b3,1,0) else if p2=0 then(uM p0 p1 p p3 b0 b1 b b3,2,0)
 else if p3=0 then(uM p0 p1 p2 p b0 b1 b2 b,3,0) else(uM p0 p1 p2 p3 b0 b1 b2 b3,0,5)
theorem ab_(p0 p1 p2 p3 p:Int)(b0 b1 b2 b3 b:Bool)(w:World):
  Calls Tryz.prog 199 #[.agg (uM p0 p1 p2 p3 b0 b1 b2 b3),.agg #[.int .i64 p,.bool b]] w fun e w'=>e=.returned (.tuple #[.agg (tT p0 p1 p2 p3 b0 b1 b2 b3 p b).1,.int .i64 (tT p0 p1 p2 p3 b0 b1 b2 b3 p b).2.1,.int .i64 (tT p0 p1 p2 p3 b0 b1 b2 b3 p b).2.2])∧Below w.heap.size w w':=by
 go_enter Tryz.func199,Tryz.ntmps199
 go_wp2_with fail
 go_loopw [8] (fun t W=>∃i:Nat,i≤4∧t=.int .i64 i∧Below w.heap.size w W∧W.heap.size=w.heap.size+3∧aC W w.heap.size (uM p0 p1 p2 p3 b0 b1 b2 b3) 122∧aC W (w.heap.size+1) #[.int .i64 p,.bool b] 121∧aC W (w.heap.size+1+1) (uM 0 0 0 0 false false false false) 122∧
  (0<i→p0≠0)∧(1<i→p1≠0)∧(2<i→p2≠0)∧(3<i→p3≠0)) (fun t _=>4-(intOf t).toNat)
 case atStart=>exact⟨0,ah,rfl,aD,aI,by exact bx,by exact bx,by exact bx,ah,ah,ah,ah⟩
 case round=>
  obtain⟨i,hi,rfl,hbw,hsz,bx0,bx1,qU,hp0,hp1,hp2,hp3⟩:=hrel
  obtain⟨c0,f0,l0,n0,m0⟩:=bx0.rules
  obtain⟨c1,f1,l1,n1,m1⟩:=bx1.rules
  obtain⟨c2,f2,l2,n2,m2⟩:=qU.rules
  have K0:=Lib.hid bx0
  have K1:=Lib.hid bx1
  have K2:=Lib.hid qU
  clear bx0 bx1 qU
  obtain rfl|rfl|rfl|rfl|rfl:i=0∨i=1∨i=2∨i=3∨i=4:=by omega
  ·by_cases h:p0=0
   ·have hS:tT p0 p1 p2 p3 b0 b1 b2 b3 p b=(uM p p1 p2 p3 b b1 b2 b3,0,0):=by unfold tT;rw[if_pos h]
    have HS:=Lib.hid hS
    clear hS hp0 hp1 hp2 hp3
    go_wp2_with fail
    exact bodyPost_ret (v:= .tuple #[.agg (uM p p1 p2 p3 b b1 b2 b3),.int .i64 0,.int .i64 0]) Ka rfl ⟨by rw[HS.out],aD⟩
   ·clear hp0 hp1 hp2 hp3
    go_wp2_with fail
    go_roundw
    case rel=>exact⟨0+1,ah,bI,hbw,hsz,K0.out,K1.out,K2.out,fun _=>h,ah,ah,ah⟩
    case measure=>simp[intOf]
  ·by_cases h:p1=0
   ·have hS:tT p0 p1 p2 p3 b0 b1 b2 b3 p b=(uM p0 p p2 p3 b0 b b2 b3,1,0):=by unfold tT;rw[if_neg (hp0 ah),if_pos h]
    have HS:=Lib.hid hS
    clear hS hp0 hp1 hp2 hp3
    go_wp2_with fail
    exact bodyPost_ret (v:= .tuple #[.agg (uM p0 p p2 p3 b0 b b2 b3),.int .i64 1,.int .i64 0]) Ka rfl ⟨by rw[HS.out],aD⟩
   ·clear hp1 hp2 hp3
    go_wp2_with fail
    go_roundw
    case rel=>exact⟨1+1,ah,bI,hbw,hsz,K0.out,K1.out,K2.out,fun _=>hp0 ah,fun _=>h,ah,ah⟩
    case measure=>simp[intOf]
  ·by_cases h:p2=0
   ·have hS:tT p0 p1 p2 p3 b0 b1 b2 b3 p b=(uM p0 p1 p p3 b0 b1 b b3,2,0):=by unfold tT;rw[if_neg (hp0 ah),if_neg (hp1 ah),if_pos h]
    have HS:=Lib.hid hS
    clear hS hp0 hp1 hp2 hp3
    go_wp2_with fail
    exact bodyPost_ret (v:= .tuple #[.agg (uM p0 p1 p p3 b0 b1 b b3),.int .i64 2,.int .i64 0]) Ka rfl ⟨by rw[HS.out],aD⟩
   ·clear hp2 hp3
    go_wp2_with fail
    go_roundw
    case rel=>exact⟨2+1,ah,bI,hbw,hsz,K0.out,K1.out,K2.out,fun _=>hp0 ah,fun _=>hp1 ah,fun _=>h,ah⟩
    case measure=>simp[intOf]
  ·by_cases h:p3=0
   ·have hS:tT p0 p1 p2 p3 b0 b1 b2 b3 p b=(uM p0 p1 p2 p b0 b1 b2 b,3,0):=by unfold tT;rw[if_neg (hp0 ah),if_neg (hp1 ah),if_neg (hp2 ah),if_pos h]
    have HS:=Lib.hid hS
    clear hS hp0 hp1 hp2 hp3
    go_wp2_with fail
    exact bodyPost_ret (v:= .tuple #[.agg (uM p0 p1 p2 p b0 b1 b2 b),.int .i64 3,.int .i64 0]) Ka rfl ⟨by rw[HS.out],aD⟩
   ·clear hp3
    go_wp2_with fail
    go_roundw
    case rel=>exact⟨3+1,ah,bI,hbw,hsz,K0.out,K1.out,K2.out,fun _=>hp0 ah,fun _=>hp1 ah,fun _=>hp2 ah,fun _=>h⟩
    case measure=>simp[intOf]
  ·have hS:tT p0 p1 p2 p3 b0 b1 b2 b3 p b=(uM p0 p1 p2 p3 b0 b1 b2 b3,0,5):=by unfold tT;rw[if_neg (hp0 ah),if_neg (hp1 ah),if_neg (hp2 ah),if_neg (hp3 ah)]
   have HS:=Lib.hid hS
   clear hS hp0 hp1 hp2 hp3
   go_wp2_with fail
   exact bodyPost_ret (v:= .tuple #[.agg (uM p0 p1 p2 p3 b0 b1 b2 b3),.int .i64 0,.int .i64 5]) (by simp[results,Tryz.results199,go_sem,c2,c0]) rfl ⟨by rw[HS.out],aD⟩
end Go.Proofs.YtgmodehldmahiaaGreatDoor.Pipe
namespace Go.Proofs.YtgmodehldmahiaaGreatDoor.Pipe
open Go Go.RowKit Go.Tm
def Qu(wr:Bool)(n:Int):Value→Value
 |.agg a=>(match a.toList with|[d,.int _ r,.int _ q]=>(if wr=true then .agg #[d,.int .i64 r,.int .i64 (wrap64 (q+n))] else .agg #[d,.int .i64 (wrap64 (r+n)),.int .i64 q])|_=> .agg a)
 |v=>v
def pz(xs:List Value)(p:Int)(wr:Bool)(n:Int):List Value:=if p<1 then xs else xs.modify (p-1).toNat (Qu wr n)
theorem Gr{xs:List Value}{p:Int}{wr:Bool}{n:Int}(h:p<1∨(xs.length:Int)<p):pz xs p wr n=xs:=by
 unfold pz
 split
 ·rfl
 ·rw[List.modify_eq_self];omega
theorem Wp{xs:List Value}{i:Nat}{x:Value}{wr:Bool}{n:Int}(h:xs[i]?=some x):pz xs (i+1) wr n=xs.set i (Qu wr n x):=by
 unfold pz
 rw[if_neg ah,show((i:Int)+1-1).toNat=i by omega]
 obtain⟨hi,rfl⟩:=List.getElem?_eq_some_iff.1 h
 apply List.ext_getElem?
 intro j
 rw[List.getElem?_modify,List.getElem?_set]
 by_cases hj:i=j
 ·subst hj;simp[hi]
 ·simp[hj]
end Go.Proofs.YtgmodehldmahiaaGreatDoor.Pipe
end
section
namespace Go.Proofs.YtgmodehldmahiaaGreatDoor.Pipe
open Go Go.RowKit Go.Tm
theorem Ob(b:Bool)(n:Int){x:Value}(h:lI x):lI (Qu b n x):=by
 obtain⟨d,r,q,rfl,hd,hr,hq⟩:=h
 cases b
 ·exact⟨d,_,q,rfl,hd,wrap64_wf _,hq⟩
 ·exact⟨d,r,_,rfl,hd,hr,wrap64_wf _⟩
theorem zC(xs:List Value)(p:Int)(b:Bool)(n:Int):(pz xs p b n).length=xs.length:=by
 unfold pz;split<;>simp
theorem qd{xs:List Value}(hx:∀x∈xs,lI x)(p:Int)(b:Bool)(n:Int):∀x∈pz xs p b n,lI x:=by
 unfold pz
 split
 ·exact hx
 ·intro y hy
  obtain⟨i,hi,rfl⟩:=List.getElem_of_mem hy
  rw[List.getElem_modify]
  split
  ·exact Ob _ _ (hx _ (List.getElem_mem _))
  ·exact hx _ (List.getElem_mem _)
theorem Rf{xs:List Value}(hx:∀x∈xs,lI x):∀x∈(kH xs).1,lI x:=by
 unfold kH
 split
 ·split
  ·exact hx
  ·intro y hy
   rcases List.mem_append.1 hy with hy|hy
   ·exact hx y hy
   ·rw[List.mem_singleton.1 hy];exact xG
 ·intro y hy
  rcases List.mem_or_eq_of_mem_set hy with hy|rfl
  ·exact hx y hy
  ·exact xG
theorem Vv(xs:List Value):(kH xs).1.length≤xs.length+1:=by
 unfold kH
 split
 ·split<;>simp
 ·simp
theorem MV{xs:List Value}(hx:∀x∈xs,lI x){i:Nat}{y:Value}(hy:lI y):∀x∈xs.set i y,lI x:=by
 intro x h
 rcases List.mem_or_eq_of_mem_set h with h|rfl
 ·exact hx x h
 ·exact hy
theorem NH(d:ByteArray)(r:Int)(s:ByteArray)(hd:d.size≤9223372036854775807):(rO d r s).1.size≤9223372036854775807:=by
 unfold rO
 split;·exact hd
 split;·exact hd
 split;·exact hd
 simp only[ByteArray.size_append,ByteArray.size_extract]
 omega
theorem Q6(d:ByteArray)(wr n:Int)(hd:d.size≤9223372036854775807):(t_ d wr n).1.size≤9223372036854775807∧(t_ d wr n).2.1.size≤9223372036854775807:=by
 unfold t_
 split;·exact⟨hd,Nat.zero_le _⟩
 split;·exact⟨hd,Nat.zero_le _⟩
 split;·exact⟨hd,Nat.zero_le _⟩
 simp only[ByteArray.size_extract]
 omega
end Go.Proofs.YtgmodehldmahiaaGreatDoor.Pipe
end
section
namespace Go.Proofs.YtgmodehldmahiaaGreatDoor.Call
open Go Go.RowKit Go.Tm
def qj(e v:Int):Int:=if e=0 then v else-(e%4294967296)%4294967296
theorem MK(e v:Int)(w:World):Calls Tryz.prog 138 #[.int .i64 e,.int .u32 v] w fun en w'=>en=.returned (.int .u32 (qj e v))∧w=w':=by
 by_cases h:e=0
 ·subst h
  go_enter Tryz.func138,Tryz.ntmps138
  go_wp2_with fail
  go_ret
  exact⟨by simp[qj],rfl⟩
 ·have h':(e==0)=false:=by simpa using h
  go_enter Tryz.func138,Tryz.ntmps138
  go_wp2_with fail
  go_ret
  exact⟨by simp[qj,h],rfl⟩
theorem UL(e v:Int)(w:World):Calls Tryz.prog 138 #[.int .i64 e,.int .u32 v] w fun en w'=>en=.returned (.int .u32 (qj e v))∧Below w.heap.size w w':=
 (MK e v w).mono fun e w' h=>⟨h.1,h.2▸Below.refl _ _⟩
abbrev abG(a b c d e f g h pc:Int):Value:= .agg #[.int .u32 a,.int .u32 b,.int .u32 c,.int .u32 d,.int .u32 e,.int .u32 f,.int .u32 g,.int .u32 h,.int .u32 pc]
theorem aaS(a b c d e f g h pc:Int)(w:World):Calls Tryz.prog 115 #[abG a b c d e f g h pc] w fun en w'=>en=.returned (.agg #[.int .u32 a,.int .u32 b,.int .u32 c,.int .u32 d])∧Below w.heap.size w w':=by
 go_enter Tryz.func115,Tryz.ntmps115
 go_wp2_with fail
 exact bodyPost_ret (v:= .agg #[.int .u32 a,.int .u32 b,.int .u32 c,.int .u32 d]) (by simp[results,Tryz.results115,go_sem]) rfl ⟨rfl,aD⟩
theorem aa9(a b c d e f g h pc k v:Int)(w:World):Calls Tryz.prog 136 #[abG a b c d e f g h pc,.int .i64 k,.int .u32 v] w fun en w'=>en=.returned (abG (qj k v) b c d e f g h pc)∧Below w.heap.size w w':=by
 have HV:=Lib.hid (fun W=>MK k v W)
 generalize qj k v=r at*
 go_enter Tryz.func136,Tryz.ntmps136
 go_wp2_with fail
 with_reducible refine(HV.out _).mono ?_
 rintro en w1 ⟨rfl,rfl⟩
 go_wp2_with fail
 exact bodyPost_ret (v:=abG r b c d e f g h pc) (by simp[results,Tryz.results136,go_sem]) rfl ⟨rfl,aD⟩
end Go.Proofs.YtgmodehldmahiaaGreatDoor.Call
end
