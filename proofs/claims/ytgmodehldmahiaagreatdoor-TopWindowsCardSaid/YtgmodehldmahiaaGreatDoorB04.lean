/- Part 4 of 53 of the proof of topAlone_and_topApart. Conditions: see each. -/
import Derived.Test.YtgmodehldmahiaaGreatDoorB01
import Derived.Test.YtgmodehldmahiaaGreatDoorRows
import Derived.Test.YtgmodehldmahiaaGreatDoorB02
set_option linter.unusedVariables false
set_option linter.unusedSimpArgs false
set_option maxRecDepth 8192
set_option maxHeartbeats 40000000
namespace Go.Proofs.YtgmodehldmahiaaGreatDoor.Heap
abbrev Sp:=Int×Int×Int
def jX(size:Int):Int→List Sp→Prop
 |_,[]=>True
 |a,s::r=>a≤s.1∧1≤s.2.1∧s.2.1≤size∧s.1≤size-s.2.1∧jX size (s.1+s.2.1) r
def oQ:Int→List Sp→Int
 |a,[]=>a
 |_,s::r=>oQ (s.1+s.2.1) r
def hole(a:Int)(s:Sp):List Sp:=if a<s.1 then[(a,s.1-a,0)] else[]
def kH:Int→List Sp→List Sp
 |_,[]=>[]
 |a,s::r=>hole a s++kH (s.1+s.2.1) r
def tQ(size:Int)(l:List Sp):Prop:=jX size 0 l∧0≤size
def zY(size:Int)(l:List Sp):List Sp:=kH 0 (l++[(size,0,0)])
theorem abd(a:Int)(l:List Sp)(s:Sp):oQ a (l++[s])=s.1+s.2.1:=by
 induction l generalizing a with
 |nil=>rfl
 |cons x r ih=>exact ih _
theorem TI(a:Int)(l:List Sp)(s:Sp):kH a (l++[s])=kH a l++hole (oQ a l) s:=by
 induction l generalizing a with
 |nil=>simp[kH,oQ]
 |cons x r ih=>simp[kH,oQ,ih]
theorem MJ(a:Int)(l m:List Sp):kH a (l++m)=kH a l++kH (oQ a l) m:=by
 induction l generalizing a with
 |nil=>rfl
 |cons x r ih=>simp[kH,oQ,ih]
theorem Gx{size a:Int}{l:List Sp}{s:Sp}:jX size a (l++[s])↔jX size a l∧oQ a l≤s.1∧1≤s.2.1∧s.2.1≤size∧s.1≤size-s.2.1:=aiQ
theorem pV{size a:Int}{l m:List Sp}:jX size a (l++m)↔jX size a l∧jX size (oQ a l) m:=aiQ
theorem Gw{size a:Int}{l:List Sp}(h:jX size a l)(k:Nat):jX size a (l.take k):=by
 rw[←List.take_append_drop k l,pV] at h;exact h.1
theorem qo{size a:Int}{l:List Sp}(h:jX size a l)(ha:a≤size):a≤oQ a l∧oQ a l≤size:=by
 induction l generalizing a with
 |nil=>simp only[oQ];omega
 |cons x r ih=>
  obtain⟨h1,h2,h3,h4,h5⟩:=h
  have:=ih h5 aj
  simp only[oQ];omega
theorem Cw{size a:Int}{l:List Sp}(h:jX size a l){s:Sp}(hs:s∈l):a≤s.1∧1≤s.2.1∧s.1+s.2.1≤oQ a l:=by
 induction l generalizing a with
 |nil=>cases hs
 |cons x r ih=>
  obtain⟨h1,h2,h3,h4,h5⟩:=h
  rcases List.mem_cons.1 hs with rfl|hs
  ·refine⟨h1,h2,?_⟩
   exact(qo h5 aj).1
  ·have:=ih h5 hs
   simp only[oQ];omega
theorem aaf{size a b:Int}{l:List Sp}(h:jX size a l)(hb:b≤a):jX size b l:=by
 cases l with
 |nil=>trivial
 |cons x r=>obtain⟨h1,h⟩:=h;exact⟨aj,h⟩
theorem SF{a:Int}{s x:Sp}(h:x∈hole a s):x.1=a∧1≤x.2.1∧x.1+x.2.1=s.1∧x.2.2=0:=by
 unfold hole at h
 split at h
 ·simp at h;subst h;simp;omega
 ·cases h
theorem aa0(a:Int)(l:List Sp):(kH a l).length≤l.length:=by
 induction l generalizing a with
 |nil=>simp[kH]
 |cons s r ih=>
  have:=ih (s.1+s.2.1)
  rw[kH,List.length_append,List.length_cons]
  have:(hole a s).length≤1:=by unfold hole;split<;>simp
  omega
theorem GD{size a:Int}{l:List Sp}(h:jX size a l)(ha:a≤size){x:Sp}(hx:x∈kH a (l++[(size,0,0)])):
  ∃l1 l2,l=l1++l2∧x.1=oQ a l1∧1≤x.2.1∧x.1+x.2.1≤size∧jX size (x.1+x.2.1) l2∧(∀s∈l1,s.1<x.1)∧(∀s∈l2,x.1<s.1)∧x.2.2=0:=by
 induction l generalizing a with
 |nil=>
  simp only[List.nil_append,kH,List.append_nil] at hx
  have:=SF hx
  exact⟨[],[],rfl,by simp only[oQ];omega,aj,by simp only at this;omega,trivial,aI,aI,this.2.2.2⟩
 |cons s r ih=>
  obtain⟨h1,h2,h3,h4,h5⟩:=h
  rw[List.cons_append,kH] at hx
  rcases List.mem_append.1 hx with hx|hx
  ·have hm:=SF hx
   refine⟨[],s::r,rfl,by simp only[oQ];omega,aj,aj,⟨aj,h2,h3,h4,h5⟩,aI,?_,hm.2.2.2⟩
   intro t ht
   rcases List.mem_cons.1 ht with rfl|ht
   ·omega
   ·have:=(Cw h5 ht).1
    omega
  ·obtain⟨l1,l2,e,g1,g2,g3,g4,g5,g6,g7⟩:=ih h5 aj hx
   refine⟨s::l1,l2,by rw[e];rfl,g1,g2,g3,g4,?_,g6,g7⟩
   intro t ht
   rcases List.mem_cons.1 ht with rfl|ht
   ·have:jX size (t.1+t.2.1) l1:=by rw[e,pV] at h5;exact h5.1
    have:=(qo this aj).1
    omega
   ·exact g5 t ht
def ins(l:List Sp)(s:Sp):List Sp:=l.takeWhile (fun x=>decide (x.1<s.1))++s::l.dropWhile (fun x=>decide (x.1<s.1))
theorem aem{α:Type}{p:α→Bool}{l1 l2:List α}(h1:∀x∈l1,p x=true)(h2:∀x∈l2,p x=false):(l1++l2).takeWhile p=l1∧(l1++l2).dropWhile p=l2:=by
 induction l1 with
 |nil=>
  cases l2 with
  |nil=>simp
  |cons y r=>simp[h2 y aI]
 |cons x r ih=>
  have:=ih (fun y hy=>h1 y zQ)
  simp only[List.cons_append]
  rw[List.takeWhile_cons,List.dropWhile_cons,if_pos (h1 x aI),if_pos (h1 x aI),this.1,this.2]
  exact⟨rfl,rfl⟩
theorem aaT{l1 l2:List Sp}{s:Sp}(h1:∀x∈l1,x.1<s.1)(h2:∀x∈l2,s.1<x.1):ins (l1++l2) s=l1++s::l2:=by
 have:=aem (p:=fun x:Sp=>decide (x.1<s.1)) (l1:=l1) (l2:=l2) (fun x hx=>by simpa using h1 x hx) (fun x hx=>by have:=h2 x hx;simp;omega)
 unfold ins
 rw[this.1,this.2]
theorem aaU{size:Int}{l:List Sp}(h:tQ size l){x:Sp}(hx:x∈zY size l){n who:Int}(hn:1≤n)(iY:n≤x.2.1):
  ∃l1 l2,l=l1++l2∧ins l (x.1,n,who)=l1++(x.1,n,who)::l2∧tQ size (l1++(x.1,n,who)::l2)∧0≤x.1∧x.1+x.2.1≤size∧(∀s∈l1,s.1<x.1)∧(∀s∈l2,x.1<s.1)∧(∀s∈l,s.1+s.2.1≤x.1∨x.1+x.2.1≤s.1):=by
 obtain⟨l1,l2,e,g1,g2,g3,g4,g5,g6,g7⟩:=GD h.1 h.2 hx
 have jO:jX size 0 l1:=by have:=h.1;rw[e,pV] at this;exact this.1
 have he:=qo jO h.2
 refine⟨l1,l2,e,by rw[e];exact aaT g5 g6,⟨?_,h.2⟩,aj,g3,g5,g6,?_⟩
 ·rw[pV]
  refine⟨jO,nG,hn,nG,nG,aaf g4 nG⟩
 ·intro s hs
  rw[e] at hs
  rcases List.mem_append.1 hs with hs|hs
  ·left
   have:=(Cw jO hs).2.2
   omega
  ·right
   exact(Cw g4 hs).1
end Go.Proofs.YtgmodehldmahiaaGreatDoor.Heap
namespace Go.Proofs.YtgmodehldmahiaaGreatDoor.Heap
open Go Go.RowKit Go.Tm
abbrev LB(a:Sp):Value:= .agg #[.int .i64 a.1,.int .i64 a.2.1,.int .i64 a.2.2]
abbrev pW(l:List Sp):List Value:=l.map LB
theorem Jy(a:Sp):Val true 3 (LB a):=⟨_,rfl,rfl,M7⟩
theorem lI(l:List Sp):(pW l).length=l.length:=by simp
theorem agP{l:List Sp}{i:Nat}{a:Sp}(h:l[i]?=some a):(pW l)[i]?=some (LB a):=by simp[h]
theorem Sl.sp{w:World}{a:Option Addr}{n cap:Nat}{l:List Sp}(h:Sl w true 3 (.slice a n cap) (pW l)){i:Nat}{x:Sp}(hx:l[i]?=some x):
  ∃b off,a=some ⟨b,off,none⟩∧b<w.heap.size∧w.cell? ⟨b,off+i*3,none⟩=some (.int .i64 x.1)∧w.cell? ⟨b,off+i*3+1,none⟩=some (.int .i64 x.2.1)∧w.cell? ⟨b,off+i*3+2,none⟩=some (.int .i64 x.2.2):=by
 obtain⟨b,off,ha,hb,hcell⟩:=h.at (agP hx)
 exact⟨b,off,ha,hb,hcell 0 _ rfl,hcell 1 _ rfl,hcell 2 _ rfl⟩
def Dj(x:Sp):Prop:=(Lit.int .i64 x.1).wf=true∧(Lit.int .i64 x.2.1).wf=true∧(Lit.int .i64 x.2.2).wf=true
theorem kJ:Ty Tryz.prog 164 3 true:=⟨ay,ay,aC,ay⟩
theorem AL:(Tryz.prog.info? 164).map (fun i=>(i.zero,i.size,i.bytes))=some (some (.agg #[.int .i64 0,.int .i64 0,.int .i64 0]),3,24):=by kernel_rfl
theorem yM(v:Value)(xs:List Value)(w:World)(hsl:Sl w true 3 v xs)(hbytes:xs.length*24≤140737488355328):
  Calls Tryz.prog 99 #[v] w fun e w'=>∃v',e=.returned v'∧bI w' w.heap.size 164 true 3 v' xs∧Below w.heap.size w w':=by
 have rF:=ah hsl
 obtain⟨hsz,a,cap,rfl,hl,hm,dL⟩:=hsl
 have hlen:xs.length≤maxLen:=aj
 cases a with
 |none=>
  have h0:xs=[]:=Bp
  subst h0
  have hnil:=fun(n c:Nat) (w:World)=>fE Tryz.prog (t:=49) (n:=n) (c:=c) Tryz.underlying49 w
  clear dL hsz hl hm hlen
  go_enter Tryz.func99,Tryz.ntmps99
  exact Bq
 |some a=>
  have hnil:=fun(n c:Nat) (w:World)=>fD Tryz.prog (t:=49) (a:=a) (n:=n) (c:=c) Tryz.underlying49 w
  obtain⟨i0,hi,hz0,hz1,hz2⟩:=info_parts AL
  have HI:=ah hi
  have HZ:=ah (And.intro hz0 (And.intro hz1 hz2))
  have HS:=ah hsz
  clear hi hz0 hz1 hz2 dL hl hm hsz
  go_enter Tryz.func99,Tryz.ntmps99
  go_wp2_with(first|(refine wpList_append_own _ rfl _ _ 49 rfl w.heap.size 164 i0 (.agg #[.int .i64 0,.int .i64 0,.int .i64 0]) 3 24 Tryz.underlying49 HI.out HZ.out.1 HZ.out.2.1 HZ.out.2.2 rfl aC (.slice (some ⟨w.heap.size,0,none⟩) 0 0) 0 [] dw (World.ownsRow_made w #[] 0 (Nat.le_refl _) (Nat.zero_le _) rfl) a xs.length cap (flat xs) dw ?c1 ?c2 ?c3 ?c4 ?c5 ?c6 ?_)|fail)
  case c1=>exact fA HS.out
  case c2=>exact(rF.out.below ((Below.refl _ _).alloc (Nat.le_refl _) _)).news
  case c3=>exact jq HS.out
  case c4=>omega
  case c5=>omega
  case c6=>simp
  exact L9
theorem Ns:Val true 3 (.agg #[.int .i64 0,.int .i64 0,.int .i64 0]):=Jy (0,0,0)
theorem Af(v:Value)(xs:List Value)(i:Nat)(x:Value)(U:Nat)(w:World)(base:Nat)(ho:bI w base 164 true 3 v xs)(hi:i≤xs.length)(hx:Val true 3 x)(jo:aD w U x.cells 164)
  (hU:∀b,v.ownBlock=some b→b≠U)(hbase:base≤w.heap.size)(hby:(xs.length+1)*24≤140737488355328):
  Calls Tryz.prog 98 #[v,.int .i64 i,.slice (some ⟨U,0,none⟩) 1 1] w fun e w'=>∃v',e=.returned v'∧bI w' base 164 true 3 v' (xs.take i++x::xs.drop i)∧w.grownBy w' v.ownBlock:=by
 obtain⟨i0,qN,oq,gD,mh⟩:=info_parts AL
 have HI:=ah (And.intro qN (And.intro oq (And.intro gD mh)))
 clear qN oq gD mh
 have HU:=ah (Sl.Nn (ag:=true) (k:=3) hx jo)
 have HO:=ah ho
 have ad6:xs.length+1≤9223372036854775807:=aj
 by_cases CW:i=xs.length
 ·subst CW
  obtain⟨_,a,cap,rfl,hlc,hcm,_⟩:=ho.sl
  have HL:=ah (show xs.take xs.length++x::xs.drop xs.length=xs++[x] by simp)
  clear ho jo hU
  by_cases hce:cap=xs.length
  ·subst hce
   go_enter Tryz.func98,Tryz.ntmps98
   go_wp2_with(first|(refine dJ (v:= .slice a xs.length xs.length) (xs:=xs) (base:=base) rfl _ _ 49 rfl kJ i0 (.agg #[.int .i64 0,.int .i64 0,.int .i64 0]) 24 Tryz.underlying49 HI.out.1 HI.out.2.1 HI.out.2.2.1 HI.out.2.2.2 rfl ?_ ?_ (.slice (some ⟨U,0,none⟩) 1 1) ([x]) ?_ ?_ ?_ ?_ ?_ ?_;(exact aM);(focus(exact HO.out));(exact aM);(focus(exact HU.out));(exact vV);(exact vU);(exact vW);(intro v4 w4 qz hg4 xQ;have sD:=ah qz;have M6:=ah hg4;clear qz hg4 xQ))|fail)
   exact Ni
  ·go_enter Tryz.func98,Tryz.ntmps98
   go_wp2_with(first|(refine dJ (v:= .slice a xs.length cap) (xs:=xs) (base:=base) rfl _ _ 49 rfl kJ i0 (.agg #[.int .i64 0,.int .i64 0,.int .i64 0]) 24 Tryz.underlying49 HI.out.1 HI.out.2.1 HI.out.2.2.1 HI.out.2.2.2 rfl ?_ ?_ (.slice (some ⟨U,0,none⟩) 1 1) ([x]) ?_ ?_ ?_ ?_ ?_ ?_;(exact aM);(focus(exact HO.out));(exact aM);(focus(exact HU.out));(exact vV);(exact vU);(exact vW);(intro v4 w4 qz hg4 xQ;have sD:=ah qz;have M6:=ah hg4;clear qz hg4 xQ))|fail)
   exact Ni
 have hlt:i<xs.length:=aj
 obtain⟨g,cap,rfl,hlc,hcm,hbg,qI,_,_⟩:=ho.form aj
 unfold maxLen at hcm
 have MO:(Value.slice (some ⟨g,0,none⟩) xs.length cap).ownBlock=some g:=rfl
 rw[MO]
 have hgU:g≠U:=hU g rfl
 have amU:(i:Int)<xs.length:=aj
 have amT:((i:Int)==xs.length)=false:=qW
 have hwn:IntKind.i64.wrap ((xs.length:Int)+1)=xs.length+1:=IntWalk.i64_in _ aj
 have hwi:IntKind.i64.wrap ((i:Int)+1)=i+1:=IntWalk.i64_in _ aj
 have LV:¬cap=i:=aj
 have xq:=fun n W (h:n≤cap) (h':i≤n)=>rz (P:=Tryz.prog) (t:=49) kJ Tryz.underlying49 g 0 n cap i i rfl h' h aj W
 by_cases hroom:xs.length+1≤cap
 ·
  have JD:¬(cap:Int)<(xs.length:Int)+1:=aj
  have ad5:(xs.length:Int)+1≤cap:=aj
  have am3:¬cap=i+1:=aj
  obtain⟨cur,hg,hcs,wK⟩:∃cur,w.heap[g]?=some (.cells cur 164 (0,0))∧cur.size=cap*3∧cur.toList.take (xs.length*3)=flat xs:=acJ
  have hgb:aD w g cur 164:=hg
  have hsz:∀w,(Go.sizeOf 164).run Tryz.prog w=.ok 3 w:=fun w=>by simp[sizeOf,typeInfo,HI.out.1,HI.out.2.2.1]
  have hov:∀lb cb,(callFunc 128 #[.slice (some ⟨U,0,none⟩) 1 1,.slice (some ⟨g,(i+1)*3,none⟩) lb cb]).run Tryz.prog w=.ok (.value (.bool false)) w:=fun lb cb=>by
   rw[run_callFunc_extern Tryz.func128 ay ay ay (e:=Extern.SlicesOverlaps.overlaps #[49,49] #[4]) ay,
    Lib.run_overlaps_apart w 49 4 164 Tryz.underlying49 3 hsz ⟨U,0,none⟩ ⟨g,(i+1)*3,none⟩ 1 1 lb cb (Ne.symm hgU) _ _ _ _ jo.shape hgb.shape (by rw[hcs];omega) (jo.rules.2.1 0) (jo.rules.2.1 _)]
   rfl
  have Iw:=fun W=>rz (P:=Tryz.prog) (t:=49) kJ Tryz.underlying49 g 0 (xs.length+1) cap ((i:Int)+1) (i+1) aj aj hroom aj W
  have xq:=fun W=>xq (xs.length+1) W hroom aj
  have hval:=ho.val
  have hDl:(flat (xs.drop i)).length=(xs.length-i)*3:=acn
  have hD1:∀u∈flat (xs.drop i),u.oneCell'=true:=jq (fun y hy=>hval y (List.mem_of_mem_drop hy))
  have hDn:=(HO.out.sl.EX (m:=i) aj).news
  simp only[Nat.zero_add] at Iw xq hDn
  have HDN:=ah hDn
  have HD1:=ah hD1
  have XF:=ah jo
  have HGB:=ah hgb
  have L6:=ah wK
  have ak0:=ah hval
  clear ho hU hg hgb hsz hDn hD1 hval wK jo
  go_enter Tryz.func98,Tryz.ntmps98
  go_wp2_with fail
  clear hov
  ((refine gX 8 ay ay ?_);simp only[List.take_succ_cons,List.take_zero,List.drop_succ_cons,List.drop_zero];(repeat(go_big_quiet_step (fail)));(refine wpQuiet_nil ?_);intro _ hw';obtain⟨⟨dq,osq⟩,hw''⟩:=hw';subst hw'';have hq:=below_regrown w dq osq;generalize Go.Sort.grow (redrawn w dq) osq=w3 at*;have hz3:=hq.size)
  have hb3:aD w3 g cur 164:=HGB.out.below hq HGB.out.lt
  have QE:=ah hb3
  have IJ:∀j u,(flat (xs.drop i))[j]?=some u→w3.cell? ((⟨g,i*3,none⟩:Addr).add j)=some u:=fun j u hu=>by
   have:=HDN.out j u hu
   rw[addr_add] at this⊢
   exact(hq.cell (p:=⟨g,i*3+j,none⟩) HGB.out.lt).trans this
  have anP:=ah IJ
  have vP:(i+1)*3+(flat (xs.drop i)).length≤cur.size:=by
   have e3:(xs.length+1)*3≤cap*3:=Nat.mul_le_mul_right _ hroom
   rw[hDl,hcs];omega
  have Oz:min (xs.length+1-i) (xs.length-i)=xs.length-i:=aj
  have fF:=fun ty=>oh (P:=Tryz.prog) (t:=49) (ty:=ty) (k:=3) (ag:=true) (c:=cap-(i+1)) (cs:=cap-i) (n:=xs.length+1-i) (m:=xs.length-i) (o:=(i+1)*3) kJ Tryz.underlying49 hb3 Vb IJ HD1.out vP
  obtain⟨C1,hC1⟩:∃C1,C1=(cur.toList.take ((i+1)*3)++flat (xs.drop i)++cur.toList.drop ((i+1)*3+(flat (xs.drop i)).length)).toArray:=⟨_,rfl⟩
  rw[←hC1] at fF
  have Ra:C1.size=cur.size:=acD
  have ac3:i*3+3≤C1.size:=by rw[Ra];omega
  have HC1:=ah hC1
  have HCP:=ah fF
  clear hb3 IJ fF hC1 Ra
  go_wp2_with(first|(refine wpList_copy_run rfl _ _ 49 49 rfl _ _ ?_ ?_ (HCP.out _) ?_;(focus(simp[Act.eval]));(focus(simp[Act.eval]));generalize XB:w3.setRow g C1=w4;((have hg4:aD w4 g C1 164:=by rw[←XB];exact setRow_heap w3 g cur _ _ (0,0) QE.out);(have hu4:aD w4 U x.cells 164:=by rw[←XB];exact((XF.out.below hq XF.out.lt).row g _ (Ne.symm hgU)));(have Q5:w3.grownBy w4 (some g):=by rw[←XB];exact⟨rfl,rfl,rfl,yx,fun b hb hne=>setRow_other w3 g b _ yB⟩);have M6:=ah hg4;have HU4:=ah (Sl.Nn (ag:=true) (k:=3) hx hu4);have ak5:=ah Q5;clear hg4 hu4 Q5 XB))|((have hl4:x.cells.toList.length=min 1 (xs.length+1-i)*3:=by rw[show min 1 (xs.length+1-i)=1 by omega,hx.len]);(have GR:∀j u,x.cells.toList[j]?=some u→w4.cell? ((⟨U,0,none⟩:Addr).add j)=some u:=by(have hnw:=HU4.out.news);simpa[flat] using hnw);(refine wpList_copy_run rfl _ _ 49 49 rfl (.slice (some ⟨g,i*3,none⟩) (xs.length+1-i) (cap-i)) (.slice (some ⟨U,0,none⟩) 1 1) ?_ ?_ (oh kJ Tryz.underlying49 M6.out hl4 GR hx.one Vg) ?_);(focus(simp[Act.eval]));(focus(simp[Act.eval]));clear hl4 GR;generalize QA:w4.setRow g (C1.toList.take (i*3)++x.cells.toList++C1.toList.drop (i*3+x.cells.toList.length)).toArray=w5;have Y1:=ah QA;clear QA)|fail)
  go_ret
  have QA:=Y1.out
  subst QA
  have hC2:C1.toList.take (i*3)++x.cells.toList++C1.toList.drop (i*3+x.cells.toList.length)=cur.toList.take (i*3)++x.cells.toList++flat (xs.drop i)++cur.toList.drop (i*3+3+(flat (xs.drop i)).length):=by
   have h:=Cv cur.toList (flat (xs.drop i)) x.cells.toList (i*3) 3 hx.len Jh
   rw[HC1.out,show(i+1)*3=i*3+3 from Nat.succ_mul _ _]
   exact h
  exact acL
 ·
  obtain⟨m,hm⟩:∃m,i+m=xs.length+1:=⟨xs.length+1-i,aj⟩
  have JD:(cap:Int)<(xs.length:Int)+1:=aj
  have hwm:IntKind.i64.wrap ((xs.length:Int)+1-i)=m:=Jk
  have xq:=fun W=>xq xs.length W hlc aj
  simp only[Nat.zero_add] at xq
  have HDA:=ah (HO.out.sl.EX (m:=i) aj)
  have Qs:Val true 3 (.agg #[.int .i64 0,.int .i64 0,.int .i64 0]):=Ns
  clear ho jo hU
  go_enter Tryz.func98,Tryz.ntmps98
  go_wp2_with(first|(refine ny (base:=base) rfl _ _ 49 3 rfl kJ i0 (.agg #[.int .i64 0,.int .i64 0,.int .i64 0]) .i64 24 Tryz.underlying49 Tryz.underlying3 HI.out.1 HI.out.2.1 HI.out.2.2.1 HI.out.2.2.2 Qs g xs.length cap HO.out i m aj aj aj yA (by rw[hm];exact hby) hbase ?_ ?_ ?_;(focus(simp[Act.eval]));(focus(simp[Act.eval]));(intro jl w2 hc2 o7 hg2;have hb2:Below w.heap.size w w2:=bJ hg2;(have akg:¬jl=i:=by omega);have nR:=ah o7;have HU2:=ah (HU.out.below hb2);clear o7 hg2))|(refine wpList_copy_own (base:=base) rfl _ _ 49 rfl kJ Tryz.underlying49 w.heap.size (i+m) jl (xs.take i++List.replicate m (.agg #[.int .i64 0,.int .i64 0,.int .i64 0])) [x] nR.out i (xs.length+1-i) (jl-i) ⟨U,0,none⟩ 1 HU2.out ?_ ?_ ?_ ?_ ?_;(focus(simp;omega));(focus(simp;omega));(focus(simp[Act.eval]));(focus(simp[Act.eval]));(intro w3 pz hg3;have uH:=ah pz;have hb3:Below w.heap.size w w3:=hb2.grown hg3 hb2.size ER;clear pz hg3))|fail)
  have Iw:=fun W=>rz (P:=Tryz.prog) (t:=49) kJ Tryz.underlying49 w.heap.size 0 (xs.length+1) jl ((i:Int)+1) (i+1) aj aj aj aj W
  simp only[Nat.zero_add] at Iw
  simp only[Act.put,List.setIfInBounds_toArray,List.set_cons_succ,List.set_cons_zero,goInt,List.length_cons,List.length_nil]
  ((refine gX 8 ay ay ?_);simp only[List.take_succ_cons,List.take_zero,List.drop_succ_cons,List.drop_zero];(repeat(go_big_quiet_step (fail)));(refine wpQuiet_nil ?_);intro _ hw';obtain⟨⟨dq,osq⟩,hw''⟩:=hw';subst hw'';have hq:=below_regrown w3 dq osq;generalize Go.Sort.grow (redrawn w3 dq) osq=w4 at*;have xU:=hq.size)
  have hb4:Below w.heap.size w w4:=hb3.trans (hq.mono hb3.size)
  have sD:=ah (uH.out.kept hq)
  have ab7:=ah (HDA.out.below hb4)
  go_wp2_with(first|(refine wpList_copy_own (base:=base) rfl _ _ 49 rfl kJ Tryz.underlying49 w.heap.size (i+m) jl _ (xs.drop i) sD.out (i+1) (xs.length-i) (jl-(i+1)) ⟨g,0+i*3,none⟩ (cap-i) ab7.out ?_ ?_ ?_ ?_ ?_;(focus(simp));(focus(simp;omega));(focus(simp[Act.eval]));(focus(simp[Act.eval]));(intro w5 MP nK;have Ht:=ah MP;have kV:Below w.heap.size w w5:=hb4.grown nK hb4.size ER;clear MP nK))|fail)
  go_ret
  refine⟨_,rfl,?_,aA kV _⟩
  have h:=Ht.out
  rw[hm] at h
  rw[←JY (z:= .agg #[.int .i64 0,.int .i64 0,.int .i64 0]) (x:=x) hlt hm]
  exact h
theorem Lp(v:Value)(xs:List Value)(mG:FuncId)(gI:Array Value)(p:Value→Bool)(w:World)(hsl:Sl w true 3 v xs)(hp:Pred Tryz.prog w none mG gI p xs):
  Calls Tryz.prog 215 #[v,.func (.func mG) #[] gI] w fun e w'=>e=.returned (.int .i64 (idx p xs))∧Below w.heap.size w w':=by
 obtain⟨hsz,a,cap,rfl,hl,hm,dL⟩:=hsl
 unfold maxLen at hm
 have hlen:xs.length≤9223372036854775807:=aj
 go_enter Tryz.func215,Tryz.ntmps215
 go_wp2_with fail
 go_loopw [8] (fun t wr=>∃i:Nat,i≤xs.length∧t=.int .i64 i∧Below w.heap.size w wr∧∀j y,j<i→xs[j]?=some y→p y=false) (fun t _=>xs.length-(intOf t).toNat)
 case atStart=>exact⟨0,Nat.zero_le _,rfl,Below.refl _ _,wR⟩
 case round=>
  obtain⟨i,hi,rfl,bZ,iq⟩:=hrel
  have HP:=ah iq
  clear iq
  by_cases hlt:i<xs.length
  ·obtain⟨x,hx⟩:∃x,xs[i]?=some x:=⟨_,List.getElem?_eq_getElem hlt⟩
   have jW:x∈xs:=List.mem_of_getElem? hx
   have HV:=ah (hsz _ jW)
   obtain⟨b,off,rfl,hb,hcell⟩:∃b off,a=some ⟨b,off,none⟩∧b<w.heap.size∧Cells wr b (off+i*3) x.cells.toList:=Br
   have HX:=ah hx
   have qP:=ah hcell
   clear hx hcell dL hsz
   have jS:=hp.asks wr (aA bZ none) _ jW
   have fJ:=hp.body
   unfold Body at fJ
   have HC:=ah jS
   clear jS hp
   cases jJ:p x
   ·have xS:=ah jJ
    rw[jJ] at HC
    clear jJ
    go_wp2_with(first|(refine aN rfl 164 _ rfl b (off+i*3) dw x kJ HV.out qP.out ?_)|fail)
    exact L_
   ·have xS:=ah jJ
    rw[jJ] at HC
    clear jJ
    go_wp2_with(first|(refine aN rfl 164 _ rfl b (off+i*3) dw x kJ HV.out qP.out ?_)|fail)
    exact Bt
  ·exact Bu
def amf(x:Value):Prop:=∃(fa fb fc:Int),x=.agg #[.int .i64 fa,.int .i64 fb,.int .i64 fc]
theorem Hg(v:Value)(xs:List Value)(mG:FuncId)(gI:Array Value)(p:Value→Bool)(w:World)(base:Nat)(dL:∀x∈xs,amf x)(ho:bI w base 164 true 3 v xs)(hp:Pred Tryz.prog w v.ownBlock mG gI p xs):
  Calls Tryz.prog 209 #[v,.func (.func mG) #[] gI] w fun e w'=>∃v',e=.returned v'∧Sl w' true 3 v' (xs.filter fun x=>!p x)∧v'.ownBlock=v.ownBlock∧w.grownBy w' v.ownBlock:=by
 have hI:=Lp v xs mG gI p w ho.sl ⟨hp.body,fun w' hg x hx=>hp.asks w' ⟨hg.os,hg.tape,hg.output,hg.size,fun b hb _=>hg.block b hb aI⟩ x hx⟩
 rcases kU p xs with⟨hi,hall⟩|⟨i0,x0,hi,hx0,Mc,iq⟩
 ·rw[hi] at hI
  have HF:=ah (show xs.filter (fun x=>!p x)=xs from List.filter_eq_self.2 (fun x hx=>Je))
  have HO:=ah ho
  clear hp ho hall
  go_enter Tryz.func209,Tryz.ntmps209
  exact Rq
 ·rw[hi] at hI
  have af6:i0<xs.length:=(List.getElem?_eq_some_iff.1 hx0).1
  obtain⟨g,cap,rfl,hlc,hcm,hbg,qI,Hr,_⟩:=ho.form aj
  have hlen:xs.length≤9223372036854775807:=Jg
  have MO:(Value.slice (some ⟨g,0,none⟩) xs.length cap).ownBlock=some g:=rfl
  rw[MO] at hp⊢
  obtain⟨i1,qN,oq,gD,mh⟩:=info_parts AL
  have GL:∀w,(zeroValue 164).run Tryz.prog w=.ok (.agg #[.int .i64 0,.int .i64 0,.int .i64 0]) w:=fun w=>by simp[zeroValue,typeInfo,qN,oq]
  have HZV:=ah GL
  clear qN oq gD mh GL Hr
  have Y6:=ah ho
  have HPR:=ah hp
  have fJ:=hp.body
  unfold Body at fJ
  have Da:xs.take i0=(xs.take (i0+1)).filter (fun x=>!p x):=Rs
  have EH:=ah Da
  have afY:IntKind.i64.wrap ((i0:Int)+1)=i0+1:=IntWalk.i64_in _ aj
  have abH:((i0:Int)==-1)=false:=qW
  clear ho hp iq Da hx0 Mc
  go_enter Tryz.func209,Tryz.ntmps209
  go_wp2_with fail
  with_reducible refine hI.mono ?_
  rintro e w1 ⟨rfl,hb1⟩
  have hz1:=hb1.size
  go_wp2_with fail
  go_loopw [5,6] (fun u t W=>∃(i j:Nat) (zs:List Value),i<j∧j≤xs.length∧u=.int .i64 i∧t=.int .i64 j∧zs.length=xs.length∧bI W base 164 true 3 (.slice (some ⟨g,0,none⟩) xs.length cap) zs∧w.grownBy W (some g)∧
   zs.take i=(xs.take j).filter (fun x=>!p x)∧∀r,j≤r→zs[r]?=xs[r]?) (fun _ t _=>xs.length-(intOf t).toNat)
  case atStart=>exact⟨i0,i0+1,xs,aj,aj,rfl,dn,rfl,Y6.out.kept hb1,aA hb1 _,EH.out,fun _ _=>rfl⟩
  case round=>
   obtain⟨i,j,zs,hij,hj,rfl,rfl,hzl,how,qI,wK,hdr⟩:=hrel
   have HO:=ah how
   have HZL:=ah hzl
   have L6:=ah wK
   have UJ:=ah hdr
   have HG:=ah qI
   clear how hzl wK hdr qI
   by_cases hlt:j<xs.length
   ·obtain⟨x,hx⟩:∃x,xs[j]?=some x:=⟨_,List.getElem?_eq_getElem hlt⟩
    have Bh:zs[j]?=some x:=(UJ.out j (Nat.le_refl _)).trans hx
    obtain⟨b',off',FN,agf,hcell⟩:=HO.out.sl.at Bh
    simp only[Option.some.injEq,Addr.mk.injEq,and_true] at FN
    obtain⟨rfl,rfl⟩:=FN
    rw[Nat.zero_add] at hcell
    have qP:=ah hcell
    have HV:=ah (HO.out.val x (List.mem_of_getElem? Bh))
    have HC:=ah (fun W h=>HPR.out.asks W h x (List.mem_of_getElem? hx))
    obtain⟨fa,fb,fc,rfl⟩:=dL x (List.mem_of_getElem? hx)
    have HX:=ah hx
    have hwj:IntKind.i64.wrap ((j:Int)+1)=j+1:=IntWalk.i64_in _ aj
    have hwi:IntKind.i64.wrap ((i:Int)+1)=i+1:=IntWalk.i64_in _ aj
    clear hx Bh hcell
    cases jJ:p (.agg #[.int .i64 fa,.int .i64 fb,.int .i64 fc])
    ·have xS:=ah jJ
     rw[jJ] at HC
     clear jJ
     have xu:i<zs.length:=wS
     go_wp2_with(first|(refine aN rfl 164 _ rfl g (j*3) dw (.agg #[.int .i64 fa,.int .i64 fb,.int .i64 fc]) kJ HV.out qP.out ?_)|((with_reducible refine(HC.out _ ?_).mono ?_);(focus exact aB HG.out (World.grownBy_alloc _ _ _));rintro e w2 ⟨rfl,hb2⟩;have hz2:=hb2.size;simp only[World.size_alloc] at hz2;have xw:Below wr.heap.size wr w2:=((Below.refl wr.heap.size wr).alloc (Nat.le_refl _) _).trans (hb2.mono dF);have nR:=ah (HO.out.kept xw);have tu:aD w2 wr.heap.size #[.int .i64 fa,.int .i64 fb,.int .i64 fc] 164:=aD.below (aD.new wr _ _) hb2 dF;obtain⟨gL,iZ,hlx,iY,hmx⟩:=tu.rules;clear tu)|(refine eB (base:=base) rfl _ _ rfl kJ g xs.length cap nR.out i xu ?_ (.agg #[.int .i64 fa,.int .i64 fb,.int .i64 fc]) ?_ HV.out ?_;(focus(simp[Act.eval]));(focus(simp[Act.eval]));(intro w3 pz hg3;have uH:=ah pz;have hg3':=aB HG.out (aB (aA xw (some g)) hg3);have CZ:=ah hg3';clear pz hg3 hg3'))|fail)
     go_roundw
     case rel=>
      refine⟨i+1,j+1,_,aj,aj,dn,dn,?_,uH.out,CZ.out,?_,?_⟩
      ·exact Jr
      ·rw[eO HX.out,List.filter_append,←L6.out,eO (i:=i) (x:= .agg #[.int .i64 fa,.int .i64 fb,.int .i64 fc]) Ji,List.take_set_of_le (Nat.le_refl _)]
       simp[xS.out]
      ·exact Ro
     case measure=>simp[intOf];omega
    ·have xS:=ah jJ
     rw[jJ] at HC
     clear jJ
     go_wp2_with(first|(refine aN rfl 164 _ rfl g (j*3) dw (.agg #[.int .i64 fa,.int .i64 fb,.int .i64 fc]) kJ HV.out qP.out ?_)|((with_reducible refine(HC.out _ ?_).mono ?_);(focus exact aB HG.out (World.grownBy_alloc _ _ _));rintro e w2 ⟨rfl,hb2⟩;have hz2:=hb2.size;simp only[World.size_alloc] at hz2;have xw:Below wr.heap.size wr w2:=((Below.refl wr.heap.size wr).alloc (Nat.le_refl _) _).trans (hb2.mono dF);have nR:=ah (HO.out.kept xw);have tu:aD w2 wr.heap.size #[.int .i64 fa,.int .i64 fb,.int .i64 fc] 164:=aD.below (aD.new wr _ _) hb2 dF;obtain⟨gL,iZ,hlx,iY,hmx⟩:=tu.rules;clear tu)|fail)
     exact XO
   ·have YO:j=xs.length:=by omega
    subst YO
    have xu:i<zs.length:=wS
    have zC:zs.length-i=xs.length-i:=I_
    go_wp2_with(first|(refine l5 (base:=base) rfl _ 49 rfl kJ Tryz.underlying49 HZV.out Ns g xs.length cap (cap-i) HO.out i xu ?_ ?_;(focus(rw[zC];simp[Act.eval]));(intro w3 pz hg3;have uH:=ah pz;have CZ:=ah (aB HG.out hg3);clear pz hg3))|fail)
    exact Rp
end Go.Proofs.YtgmodehldmahiaaGreatDoor.Heap
namespace Go.Proofs.YtgmodehldmahiaaGreatDoor.Heap
open Go Go.RowKit Go.Tm
open Classical in
noncomputable def Ck(size:Int)(l:List Sp):Bool:=decide (tQ size l)
theorem wI{size:Int}{l:List Sp}(h:tQ size l):Ck size l=true:=by unfold Ck;simp[h]
theorem lq{size:Int}{l:List Sp}(h:¬tQ size l):Ck size l=false:=by unfold Ck;simp[h]
theorem Sd{size a:Int}{l:List Sp}(h:jX size a l){i:Nat}{x:Sp}(hx:l[i]?=some x):oQ a (l.take i)≤x.1∧1≤x.2.1∧x.2.1≤size∧x.1≤size-x.2.1:=by
 have h1:=Gw h (i+1)
 rw[eO hx,Gx] at h1
 exact h1.2
theorem Wx{size a:Int}{l:List Sp}{i:Nat}{x:Sp}(hx:l[i]?=some x)(h:jX size a (l.take i))(h1:oQ a (l.take i)≤x.1)(h2:1≤x.2.1)(h3:x.2.1≤size)(h4:x.1≤size-x.2.1):jX size a (l.take (i+1)):=by
 rw[eO hx,Gx]
 exact⟨h,h1,h2,h3,h4⟩
theorem SQ{a:Int}{l:List Sp}{i:Nat}{x:Sp}(hx:l[i]?=some x):oQ a (l.take (i+1))=x.1+x.2.1:=by
 rw[eO hx,abd]
theorem aae(size:Int)(v:Value)(l:List Sp)(w:World)(hv:Sl w true 3 v (pW l))(hs:(Lit.int .i64 size).wf=true)(hw:∀x∈l,Dj x):
  Calls Tryz.prog 96 #[.agg #[.int .i64 size,v]] w fun e w'=>e=.returned (.bool (Ck size l))∧Below w.heap.size w w':=by
 have HV:=ah hv
 have HW:=ah hw
 have hsz:-9223372036854775808≤size∧size≤9223372036854775807:=ah2
 obtain⟨a,cap,rfl,hl⟩:=hv.shape
 rw[lI] at hl HV⊢
 clear hv hw hs
 go_enter Tryz.func96,Tryz.ntmps96
 go_wp2_with fail
 go_loopw [3,9] (fun m t W=>∃i:Nat,i≤l.length∧t=.int .i64 i∧m=.int .i64 (oQ 0 (l.take i))∧Below w.heap.size w W∧aD W w.heap.size #[.int .i64 size,.slice a l.length cap] 51∧jX size 0 (l.take i)∧(0<i→0≤size)) (fun _ t _=>l.length-(intOf t).toNat)
 case atStart=>exact⟨0,Nat.zero_le _,rfl,rfl,aG,aD.new _ _ _,trivial,aj⟩
 case round=>
  obtain⟨i,hi,rfl,rfl,bZ,jo,hrt,hnn⟩:=hrel
  have Bj:=bZ.size
  obtain⟨hc1,mF,jO,mE,oz⟩:=jo.rules
  have KB:=ah jo
  have HR:=ah hrt
  clear jo hrt
  by_cases hlt:i<l.length
  ·obtain⟨x,hx⟩:∃x,l[i]?=some x:=⟨_,List.getElem?_eq_getElem hlt⟩
   have hwx:=HW.out x (List.mem_of_getElem? hx)
   obtain⟨b,off,rfl,hb,c0,c1,c2⟩:=Sl.sp (HV.out.below bZ) hx
   have hwr:IntKind.i64.wrap ((i:Int)+1)=i+1:=IntWalk.i64_in _ aj
   have HX:=ah hx
   have HE:=ah (SQ (a:=0) hx)
   have hle:0≤oQ 0 (l.take i):=by
    by_cases h0:0<i
    ·exact(qo HR.out (hnn h0)).1
    ·have:i=0:=by omega
     subst this;simp[oQ]
   clear hx
   obtain⟨p,n,u⟩:=x
   simp only[Dj,Lit.wf,IntKind.min,IntKind.max,IntKind.bits,IntKind.signed] at hwx
   have N8:-9223372036854775808≤p∧p≤9223372036854775807∧-9223372036854775808≤n∧n≤9223372036854775807:=by
    simp at hwx;omega
   dsimp only at c0 c1 c2
   clear hwx
   generalize hat:oQ 0 (l.take i)=at0 at*
   have aor:p<at0∨(¬p<at0∧n<1)∨(¬p<at0∧¬n<1∧size<n)∨(¬p<at0∧¬n<1∧¬size<n∧size-n<p)∨(¬p<at0∧¬n<1∧¬size<n∧¬size-n<p):=aj
   have Hw:=ah hat
   clear hat
   rcases aor with h1|⟨h1,h2⟩|⟨h1,h2,h3⟩|⟨h1,h2,h3,h4⟩|⟨h1,h2,h3,h4⟩
   ·
    have HN:=ah (lq (size:=size) (l:=l) (fun h=>XJ))
    go_wp2_with fail
    go_ret
    exact⟨zR,aG⟩
   ·
    have HN:=ah (lq (size:=size) (l:=l) (fun h=>XJ))
    go_wp2_with fail
    go_ret
    exact⟨zR,aG⟩
   ·
    have HN:=ah (lq (size:=size) (l:=l) (fun h=>XJ))
    go_wp2_with fail
    go_ret
    exact⟨zR,aG⟩
   ·have zC:IntKind.i64.wrap (size-n)=size-n:=IntWalk.i64_in _ aj
    have HN:=ah (lq (size:=size) (l:=l) (fun h=>XJ))
    go_wp2_with fail
    go_ret
    exact⟨zR,aG⟩
   ·have zC:IntKind.i64.wrap (size-n)=size-n:=IntWalk.i64_in _ aj
    have af0:IntKind.i64.wrap (p+n)=p+n:=IntWalk.i64_in _ aj
    have HRN:=ah (Wx HX.out HR.out (by rw[Hw.out];dsimp only;omega) nG nG nG)
    go_wp2_with fail
    go_roundw
    case rel=>exact⟨i+1,aj,dn,by rw[HE.out],aG,KB.out.alloc _,HRN.out,aj⟩
    case measure=>simp[intOf];omega
  ·obtain rfl:i=l.length:=by omega
   rw[List.take_length] at HR
   have MN:Ck size l=decide (0≤size):=by
    by_cases h0:0≤size
    ·rw[wI ⟨HR.out,h0⟩];simp[h0]
    ·rw[lq (fun h=>h0 h.2)];simp[h0]
   have HSB:=ah MN
   clear MN
   go_wp2_with fail
   go_ret
   exact⟨by rw[HSB.out];simp,bZ⟩
end Go.Proofs.YtgmodehldmahiaaGreatDoor.Heap
namespace Go.Proofs.YtgmodehldmahiaaGreatDoor.Heap
open Go Go.RowKit Go.Tm
theorem ag1(size:Int)(w:World):Calls Tryz.prog 72 #[.int .i64 size] w fun e w'=>
  e=.returned (.tuple #[.agg #[.int .i64 (if size<0 then 0 else size),.slice none 0 0],.int .i64 (if size<0 then 1 else 0)])∧Below w.heap.size w w':=by
 by_cases h:size<0
 ·rw[if_pos h,if_pos h]
  go_enter Tryz.func72,Tryz.ntmps72
  go_wp2_with fail
  exact bodyPost_ret (v:= .tuple #[.agg #[.int .i64 0,.slice none 0 0],.int .i64 1]) (by simp[results,Tryz.results72,go_sem]) rfl ⟨rfl,aG⟩
 ·rw[if_neg h,if_neg h]
  go_enter Tryz.func72,Tryz.ntmps72
  go_wp2_with fail
  exact bodyPost_ret (v:= .tuple #[.agg #[.int .i64 size,.slice none 0 0],.int .i64 0]) (by simp[results,Tryz.results72,go_sem]) rfl ⟨rfl,aG⟩
def Iq(who:Int):Value→Bool:=fun v=>match v with|.agg cs=>(match cs.toList with|[_,_,.int _ n]=>decide (n=who)|_=>false)|_=>false
theorem X6(who:Int)(x:Sp):Iq who (LB x)=decide (x.2.2=who):=rfl
theorem r_:Body Tryz.prog 183:=gq Tryz.func183 ay ay
theorem uF(x:Sp)(who:Int)(B:Nat)(w:World)(hB:B<w.heap.size)(hc0:w.cell? ⟨B,0,none⟩=some (.int .i64 who)):
  Calls Tryz.prog 183 #[LB x,.pointer (some ⟨B,0,none⟩)] w fun e w'=>e=.returned (.bool (Iq who (LB x)))∧Below w.heap.size w w':=by
 rw[X6]
 have hne:¬B=w.heap.size:=aj
 obtain⟨p,n,u⟩:=x
 dsimp only
 by_cases h:u=who
 ·have hb:(u==who)=true:=by simpa using h
  go_enter Tryz.func183,Tryz.ntmps183
  exact rO
 ·have hb:(u==who)=false:=by simpa using h
  go_enter Tryz.func183,Tryz.ntmps183
  exact rO
theorem xJ{f:FuncId}{q:Value→Bool}(fJ:Body Tryz.prog f)(n:Int)(l:List Sp)(B:Nat)(w:World)(hB:B<w.heap.size)(hc0:w.cell? ⟨B,0,none⟩=some (.int .i64 n))(g:Option Nat)(hg:some B≠g)
  (h:∀(x:Sp) (w':World),B<w'.heap.size→w'.cell? ⟨B,0,none⟩=some (.int .i64 n)→Calls Tryz.prog f #[LB x,.pointer (some ⟨B,0,none⟩)] w' fun e w''=>e=.returned (.bool (q (LB x)))∧Below w'.heap.size w' w''):
  Pred Tryz.prog w g f #[.pointer (some ⟨B,0,none⟩)] q (pW l):=
 ⟨fJ,fun w' hw x hm=>by
  obtain⟨n,_,rfl⟩:=List.mem_map.1 hm
  exact h n w' (Nat.lt_of_lt_of_le hB hw.size) ((World.cell?_of_block (a:=⟨B,0,none⟩) (hw.block B hB hg)).trans hc0)⟩
def iX(l:List Sp)(who:Int):List Sp:=l.filter fun x=>!decide (x.2.2=who)
theorem NR(l:List Sp)(who:Int):(pW l).filter (fun x=>!Iq who x)=pW (iX l who):=by
 unfold iX
 induction l with
 |nil=>rfl
 |cons x r ih=>
  rw[pW,List.map_cons,List.filter_cons,List.filter_cons,X6]
  rw[pW] at ih
  split
  ·rw[ih];rfl
  ·rw[ih]
theorem Gt(v:Value)(l:List Sp)(mG:FuncId)(B:Nat)(n:Int)(q:Value→Bool)(w:World)(hv:Sl w true 3 v (pW l))(hby:l.length*24≤140737488355328)(fJ:Body Tryz.prog mG)(hB:B<w.heap.size)(hc0:w.cell? ⟨B,0,none⟩=some (.int .i64 n))
  (h:∀(x:Sp) (w':World),B<w'.heap.size→w'.cell? ⟨B,0,none⟩=some (.int .i64 n)→Calls Tryz.prog mG #[LB x,.pointer (some ⟨B,0,none⟩)] w' fun e w''=>e=.returned (.bool (q (LB x)))∧Below w'.heap.size w' w''):
  Calls Tryz.prog 182 #[v,.func (.func mG) #[] #[.pointer (some ⟨B,0,none⟩)]] w fun e w'=>∃v',e=.returned v'∧Sl w' true 3 v' ((pW l).filter fun x=>!q x)∧(∀b,v'.ownBlock=some b→w.heap.size≤b)∧Below w.heap.size w w':=by
 have HV:=ah hv
 have HH:=ah h
 clear hv h
 go_enter Tryz.func182,Tryz.ntmps182
 go_wp2_with fail
 with_reducible refine(yM v (pW l) _ HV.out (by rw[lI];exact hby)).mono ?_
 rintro e w2 ⟨v2,rfl,o7,hb2⟩
 have hz2:=hb2.size
 have uh:some B≠v2.ownBlock:=fun h=>by have:=o7.iy _ h.symm;omega
 have HD:=ah (Hg v2 (pW l) mG #[.pointer (some ⟨B,0,none⟩)] q w2 w.heap.size (fun x hx=>by obtain⟨a,_,rfl⟩:=List.mem_map.1 hx;exact⟨_,_,_,rfl⟩) o7 (xJ fJ n l B w2 aj ((hb2.cell (p:=⟨B,0,none⟩) hB).trans hc0) v2.ownBlock uh HH.out))
 have nR:=ah o7
 clear o7 hc0
 go_wp2_with fail
 with_reducible refine HD.out.mono ?_
 rintro e w4 ⟨v4,rfl,mg,hv4,hg4⟩
 have LJ:=ah mg
 have HV4:=ah hv4
 have hb4:Below w.heap.size w w4:=nR.out.below hg4 hb2 (Nat.le_refl _) aj
 clear mg hg4 hv4
 go_wp2_with fail
 go_ret
 exact⟨_,rfl,LJ.out,fun b hb=>nR.out.iy b (HV4.out▸hb),hb4⟩
theorem Eb(size:Int)(v:Value)(l:List Sp)(who:Int)(w:World)(hv:Sl w true 3 v (pW l))(hby:l.length*24≤140737488355328):
  Calls Tryz.prog 150 #[.agg #[.int .i64 size,v],.int .i64 who] w fun e w'=>∃v',e=.returned (.agg #[.int .i64 size,v'])∧Sl w' true 3 v' (pW (iX l who))∧Below w.heap.size w w':=by
 have HV:=ah hv
 have HE:=ah (NR l who)
 have HWO:=ah (fun W h hB hc=>Gt v l 183 (w.heap.size+1) who (Iq who) W h hby r_ hB hc (fun x w'=>uF x who (w.heap.size+1) w'))
 clear hv
 go_enter Tryz.func150,Tryz.ntmps150
 go_wp2_with fail
 with_reducible refine(HWO.out _ (HV.out.below ?_) ?_ ?_).mono ?_
 focus exact bl
 focus(simp only[World.size_alloc];omega)
 focus exact((aD.p9 (w.alloc (.cells #[.int .i64 size,v] 51)) #[.int .i64 who] 3 (n:=w.heap.size+1) aI).alloc _).rules.1 0
 rintro e w4 ⟨v4,rfl,mg,hg4,hb4⟩
 simp only[World.size_alloc] at hg4
 have M6:=ah hg4
 have xU:=hb4.size
 simp only[World.size_alloc] at xU
 have bx1:aD w4 w.heap.size #[.int .i64 size,v] 51:=(((aD.new _ _ _).alloc _).alloc _).below hb4 dF
 have UD:aD w4 (w.heap.size+1+1) #[.int .i64 0,.slice none 0 0] 51:=aD.below (aD.p9 _ _ _ aI) hb4 dF
 have bZ:Below w.heap.size w w4:=aG
 rw[HE.out] at mg
 obtain⟨c1,f1,l1,n1,m1⟩:=bx1.rules
 obtain⟨c3,f3,l3,n3,m3⟩:=UD.rules
 have LJ:=ah mg
 obtain⟨a4,EF,rfl,_⟩:=mg.shape
 rw[lI] at LJ M6⊢
 clear mg bx1 UD hb4 hg4
 go_wp2_with fail
 refine bodyPost_ret (v:= .agg #[.int .i64 size,.slice a4 (iX l who).length EF]) adz rfl ⟨_,rfl,?_,aG⟩
 exact(((LJ.out.setOther (.inr fun b hb=>BX) _ _).setOther (.inr fun b hb=>BX) _ _).setOther (.inr fun b hb=>BX) _ _)
end Go.Proofs.YtgmodehldmahiaaGreatDoor.Heap
namespace Go.Proofs.YtgmodehldmahiaaGreatDoor.Heap
open Go Go.RowKit Go.Tm
def yj(B b:Nat)(X:World):Prop:=b=B∨∃v,X.cell? ⟨B,0,none⟩=some v∧v.ownBlock=some b
def jk(B:Nat)(X Y:World):Prop:=Below B X Y∧B<X.heap.size∧(∀b o,X.heap[b]?=some o→o.isCells=true→¬yj B b X→Y.heap[b]?=some o∧¬yj B b Y)∧((∀b,yj B b X→b<X.heap.size)→∀b,yj B b Y→b<Y.heap.size)
theorem jk.trans{B:Nat}{X Y Z:World}(h:jk B X Y)(k:jk B Y Z):jk B X Z:=
 ⟨h.1.trans k.1,h.2.1,fun b o h1 h2 h3=>by
  obtain⟨h4,h5⟩:=h.2.2.1 b o h1 h2 h3
  exact k.2.2.1 b o h4 h2 h5,fun h1=>k.2.2.2 (h.2.2.2 h1)⟩
theorem yj.same{B b:Nat}{X Y:World}(h:Y.heap[B]?=X.heap[B]?)(k:yj B b Y):yj B b X:=by
 rcases k with rfl|⟨v,hv,ho⟩
 ·exact .inl rfl
 ·exact .inr ⟨v,by rw[←hv];exact(World.cell?_of_block h).symm,ho⟩
theorem jk.of{B:Nat}{X Y:World}(h:Below X.heap.size X Y)(hB:B<X.heap.size):jk B X Y:=
 ⟨h.mono (Nat.le_of_lt hB),hB,fun b o h1 h2 h3=>⟨(h.block b (Array.getElem?_eq_some_iff.1 h1).1).trans h1,fun k=>h3 (k.same (h.block B hB))⟩,fun h1 b k=>Nat.lt_of_lt_of_le (h1 b (k.same (h.block B hB))) h.size⟩
theorem jk.refl{B:Nat}{X:World}(hB:B<X.heap.size):jk B X X:= .of (Below.refl _ _) hB
theorem jk.size{B:Nat}{X Y:World}(h:jk B X Y):X.heap.size≤Y.heap.size:=by
 exact h.1.size
theorem jk.putObj{B:Nat}{n:Nat}(hB:B<n)(W:World)(l:Nat)(o o':Obj)(hl:n≤l)(h:W.heap[l]?=some o)(hc:o.isCells=false)(_:o.isWalk=false):jk B W (W.putObj l o'):=by
 have hlt:=(Array.getElem?_eq_some_iff.1 h).1
 have hne:∀b,b≠l→(W.putObj l o').heap[b]?=W.heap[b]?:=fun b hb=>World.putObj_heap_other (by first|exact hb|exact Ne.symm hb|omega)
 refine⟨(Below.refl B W).grown (grownBy_putObj' W l o') aj (fun k e=>by cases e;omega),aj,fun b ob h1 h2 h3=>?_,fun h1 b k=>Nat.lt_of_lt_of_le (h1 b (k.same (hne B aj))) (grownBy_putObj' W l o').size⟩
 have hbl:b≠l:=by
  rintro rfl
  rw[h] at h1
  cases h1
  rw[hc] at h2
  cases h2
 exact⟨(hne b hbl).trans h1,fun k=>h3 (k.same (hne B aj))⟩
theorem jk.box{B b:Nat}{X Y:World}{cs:Array Value}{t:TypeId}(h:jk B X Y)(hb:aD X b cs t)(hn:¬yj B b X):aD Y b cs t:=(h.2.2.1 b _ hb rfl hn).1
theorem yj.lt{B b:Nat}{X:World}{cs:Array Value}{t:TypeId}(hb:aD X B cs t){v:Value}(hv:cs[0]?=some v)(ho:v.ownBlock=none)(h:yj B b X):b=B:=by
 rcases h with rfl|⟨u,hu,ho'⟩
 ·rfl
 ·have:=hb.rules.1 0
  rw[hu,hv] at this
  cases this
  rw[ho] at ho'
  cases ho'
theorem jk.set{B:Nat}{X:World}{cs:Array Value}{t:TypeId}(hb:aD X B cs t)(h0:0<cs.size)(v:Value)(ho:v.ownBlock=none):jk B X (X.setCell ⟨B,0,none⟩ v):=by
 refine⟨(Below.refl B X).setCell (p:=⟨B,0,none⟩) (Nat.le_refl _) _,hb.lt,fun b o h1 h2 h3=>?_,fun _ b k=>?_⟩
 ·have GU:¬b=B:=fun e=>h3 (.inl e)
  refine⟨(heap_setCell_other _ _ _ _ (by exact GU)).trans h1,fun k=>h3 (.inl ?_)⟩
  have hs:=hb.set 0 v
  refine yj.lt hs (v:=v) ?_ ho k
  simp[h0]
 ·have hs:=hb.set 0 v
  have:=yj.lt hs (v:=v) yu ho k
  subst this
  exact hs.lt
theorem Sl.kept{w X Y:World}{B:Nat}{ag:Bool}{k:Nat}{v:Value}{xs:List Value}(h:Sl w ag k v xs)(hB:w.heap.size≤B)(hX:Below w.heap.size w X)(hK:jk B X Y):Sl Y ag k v xs:=h.below (hX.trans (hK.1.mono hB))
end Go.Proofs.YtgmodehldmahiaaGreatDoor.Heap
namespace Go.Proofs.YtgmodehldmahiaaGreatDoor.Heap
open Go Go.RowKit Go.Tm
theorem TV{N:Nat}{w X:World}(h:Below N w X):Below N w.drew X:=⟨h.os,h.tape,h.output,h.size,h.block⟩
theorem SY(v:Value)(xs:List Value)(w:World)(hv:Sl w true 3 v xs):Calls Tryz.prog 127 #[v] w fun e w'=>(∃ao,e=.returned (.slice ao xs.length xs.length)∧Sl w true 3 (.slice ao xs.length xs.length) xs)∧w=w':=by
 obtain⟨ao,hr,hs⟩:=Sl.xI (m:=xs.length) kJ Tryz.underlying49 hv (xs.length:Int) rfl (Nat.le_refl _)
 rw[List.take_length] at hs
 obtain⟨a,cap,rfl,hl⟩:=hv.shape
 have HS:=ah hs
 clear hs hv
 go_enter Tryz.func127,Tryz.ntmps127
 exact XL
attribute [local go_sem] Oper.semAt_some
theorem aa1(size:Int)(v:Value)(w:World):Calls Tryz.prog 97 #[.agg #[.int .i64 size,v]] w fun e w'=>
  e=.returned (.func (.func 126) #[] #[.pointer (some ⟨w.heap.size,0,none⟩)])∧w'=w.alloc (.cells #[.int .i64 size,v] 51):=by
 go_enter Tryz.func97,Tryz.ntmps97
 go_wp2_with fail
 go_ret
 exact⟨rfl,rfl⟩
theorem afg{size:Int}{l:List Sp}(h:tQ size l){k:Nat}{x:Sp}(hx:(l++[(size,0,0)])[k]?=some x):
  0≤oQ 0 ((l++[(size,0,0)]).take k)∧oQ 0 ((l++[(size,0,0)]).take k)≤x.1∧0≤x.2.1∧x.2.1≤size∧x.1+x.2.1≤size:=by
 have hk:=(List.getElem?_eq_some_iff.1 hx).1
 simp only[List.length_append,List.length_cons,List.length_nil] at hk
 have hs:=h.2
 by_cases hlt:k<l.length
 ·rw[List.getElem?_append_left hlt] at hx
  rw[List.take_append_of_le_length aj]
  have h1:=Sd h.1 hx
  have h2:=qo (Gw h.1 k) h.2
  exact⟨h2.1,h1.1,aj,aj,aj⟩
 ·obtain rfl:k=l.length:=by omega
  simp only[List.getElem?_concat_length,Option.some.injEq] at hx
  subst hx
  rw[List.take_left]
  have h2:=qo h.1 h.2
  exact⟨h2.1,h2.2,aI,h.2,aI⟩
theorem Qi(a:Int)(m:List Sp)(k:Nat):kH a (m.take k)<+:kH a m:=by
 conv=>rhs;rw[←List.take_append_drop k m]
 rw[MJ]
 exact List.prefix_append _ _
theorem WR{a:Int}{m:List Sp}{k:Nat}{x:Sp}(hx:m[k]?=some x):kH a (m.take (k+1))=kH a (m.take k)++hole (oQ a (m.take k)) x:=by
 rw[eO hx,TI]
theorem aat{w:World}{base:Nat}{E:TypeId}{ag:Bool}{k g n cap:Nat}{xs:List Value}(h:bI w base E ag k (.slice (some ⟨g,0,none⟩) n cap) xs)(hne:0<xs.length):∃o,w.heap[g]?=some o∧o.isCells=true:=by
 obtain⟨hr,hv⟩:=h
 obtain⟨hlen,hr⟩:=hr
 rcases hr with⟨h0,_⟩|⟨g',cap',cur,he,hb,hg,h1⟩
 ·cases h0
 ·cases he
  exact⟨_,hg,rfl⟩
set_option maxRecDepth 100000 in
set_option maxHeartbeats 4000000 in
theorem TH(n B B1:Nat)(v:Value)(size:Int)(l:List Sp)(w:World)(hn:1≤n)(hBlt:B<w.heap.size)(RG:∀b,yj B b w→b=B)(hr:tQ size l)(hs:(Lit.int .i64 size).wf=true)(hby:(l.length+1)*24≤140737488355328)(hv:∀W,jk B w W→Sl W true 3 v (pW l))
  (h1:∀W,jk B w W→aD W B1 #[.int .i64 size,v] 51):
  SeqStopsK Fence.wide n Tryz.prog 126 #[.pointer (some ⟨B1,0,none⟩)] (fun x:Sp=>#[LB x]) (jk B) (fun ys=>ys=zY size l) (fun ys=>ys<+:zY size l) (l.length+1) w:=by
 intro l' J Jx W hW0 hJ hJx hY h0
 have hW:jk B w W:= .of hW0 hBlt
 have HV:=ah hv
 have FW:=ah h1
 obtain⟨i0,qN,oq,gD,mh⟩:=info_parts AL
 have hsz:-9223372036854775808≤size∧size≤9223372036854775807:=ah2
 have HI:=ah (And.intro qN (And.intro oq (And.intro gD mh)))
 clear qN oq gD mh
 have HJ:=ah hJ
 have HY:=ah hY
 obtain⟨a,cap,rfl,hl⟩:=(hv W hW).shape
 rw[lI] at hl HV FW
 clear hv hJ hY
 have hx1:aD W B1 #[.int .i64 size,.slice a l.length cap] 51:=FW.out W hW
 obtain⟨c1,f1,l1,n1,m1⟩:=hx1.rules
 have e0:=c1 0
 have e1:=c1 1
 clear h1
 ((refine callsIn_of_wp Tryz.func126 rfl trivial ?_ rfl);simp only[Tryz.ntmps126,List.size_toArray,List.length_cons,List.length_nil,Nat.reduceAdd,Nat.reduceSub,Array.replicate_succ,Array.replicate_zero,List.push_toArray,List.append_toArray,List.nil_append,List.cons_append])
 gi_wp2
 refine wpIn_wide.2 ?_
 have e0':=e0
 have e1':=e1
 simp only[List.getElem?_toArray,List.getElem?_cons_zero,List.getElem?_cons_succ] at e0' e1'
 have HE:=ah (And.intro e0' e1')
 have ajE:∀W',Below W.heap.size W W'→W'.cell? ⟨B1,0,none⟩=some (.int .i64 size)∧W'.cell? ⟨B1,1,none⟩=some (.slice a l.length cap)∧Below W.heap.size W W':=fun W' hb=>⟨(hb.cell (p:=⟨B1,0,none⟩) l1).trans HE.out.1,(hb.cell (p:=⟨B1,1,none⟩) l1).trans HE.out.2,hb⟩
 have HKP:=ah ajE
 clear ajE e0 e1 e0' e1' c1 f1
 refine wp_region_held_drew (S:=fun W'=>W'.cell? ⟨B1,0,none⟩=some (.int .i64 size)∧W'.cell? ⟨B1,1,none⟩=some (.slice a l.length cap)∧Below W.heap.size W W') ay (HKP.out _ (Below.refl _ _).drew) (fun hHeld=>?_)
 ((refine wpAnyH_take (i:=0) (oi:=⟨some 6,_,_,_,_,_⟩) (v:=?_) rfl ay ay ay (fun _ _ _ h=>h) (Or.inl ⟨aF,?_⟩) bq ?_);rotate_left;(focus(intro w hSw;(try dsimp only at hSw);go_simp;(try with_reducible rfl)));(try simp only[pt]))
 ((refine wpAnyH_take (i:=1) (oi:=⟨some 7,_,_,_,_,_⟩) (v:=?_) rfl ay ay ay (fun _ _ _ h=>h) (Or.inl ⟨aF,?_⟩) bq ?_);rotate_left;(focus(intro w hSw;(try dsimp only at hSw);go_simp;(try with_reducible rfl)));(try simp only[pt]))
 ((refine wpAnyH_take (i:=3) (oi:=⟨some 9,_,_,_,_,_⟩) (v:=?_) rfl ay ay ay (fun _ _ _ h=>h) (Or.inl ⟨aF,?_⟩) bq ?_);rotate_left;(focus(intro w hSw;(try dsimp only at hSw);go_simp;(try with_reducible rfl)));(try simp only[pt]))
 ((refine wpAnyH_take (i:=4) (oi:=⟨some 10,_,_,_,_,_⟩) (v:=?_) rfl ay ay ay (fun _ _ _ h=>h) (Or.inl ⟨aF,?_⟩) bq ?_);rotate_left;(focus(intro w hSw;(try dsimp only at hSw);go_simp;(try with_reducible rfl)));(try simp only[pt]))
 ((refine wpAnyH_take (i:=5) (oi:=⟨some 11,_,_,_,_,_⟩) (v:=?_) rfl ay ay ay (fun _ _ _ h=>h) (Or.inl ⟨aF,?_⟩) bq ?_);rotate_left;(focus(intro w hSw;(try dsimp only at hSw);go_simp;(try with_reducible rfl)));(try simp only[pt]))
 ((refine wpAnyH_take (i:=9) (oi:=⟨some 15,_,_,_,_,_⟩) (v:=?_) rfl ay ay ay (fun _ _ _ h=>h) (Or.inl ⟨aF,?_⟩) bq ?_);rotate_left;(focus(intro w hSw;(try dsimp only at hSw);go_simp;(try with_reducible rfl)));(try simp only[pt]))
 refine wpAnyH_ready (rs:=[2,6]) ay aI ?_
 refine AllReadyH.cons (o:=⟨some 8,_,_,_,_,_⟩) rfl (fun K hK=>?_) (AllReadyH.cons (o:=⟨some 12,_,_,_,_,_⟩) rfl (fun K hK=>?_) AllReadyH.nil)
 ·go_simp
  with_reducible refine(SY _ (pW l) _ ((HV.out W hW).below (Below.refl _ _).drew)).mono ?_
  rintro en w2 ⟨⟨ao,rfl,GN⟩,rfl⟩
  have HC0:=ah GN
  clear GN
  dsimp only
  refine hK.out _ _ (HKP.out _ (Below.refl _ _).drew) (fun hHeld=>?_)
  clear hK K
  (try simp only[pt])
  refine wpAnyH_ready (rs:=[6]) ay aI ?_
  refine AllReadyH.cons (o:=⟨some 12,_,_,_,_,_⟩) rfl (fun K hK=>?_) AllReadyH.nil
  go_simp
  refine hK.out _ _ (HKP.out _ ((Below.refl _ _).alloc (Nat.le_refl _) _).drew) (fun hHeld=>?_)
  clear hK K
  (try simp only[pt])
  have HC:=ah (show Sl (W.alloc (.cells #[.int .i64 size,.int .i64 0,.int .i64 0] 164)).drew true 3 (.slice ao (pW l).length (pW l).length) (pW l) from HC0.out.below (show Below W.heap.size W.drew _ from TV ((Below.refl W.heap.size W).alloc (Nat.le_refl _) _).drew))
  exact amj
 ·go_simp
  refine hK.out _ _ (HKP.out _ ((Below.refl W.heap.size W).alloc (Nat.le_refl _) _).drew) (fun hHeld=>?_)
  clear hK K
  (try simp only[pt])
  refine wpAnyH_ready (rs:=[2]) ay aI ?_
  refine AllReadyH.cons (o:=⟨some 8,_,_,_,_,_⟩) rfl (fun K hK=>?_) AllReadyH.nil
  go_simp
  with_reducible refine(SY _ (pW l) _ ((HV.out W hW).below ((Below.refl W.heap.size W).alloc (Nat.le_refl _) _).drew)).mono ?_
  rintro en w2 ⟨⟨ao,rfl,GN⟩,rfl⟩
  have HC:=ah GN
  clear GN
  dsimp only
  refine hK.out _ _ (HKP.out _ ((Below.refl W.heap.size W).alloc (Nat.le_refl _) _).drew) (fun hHeld=>?_)
  clear hK K
  (try simp only[pt])
  exact amj
end Go.Proofs.YtgmodehldmahiaaGreatDoor.Heap
namespace Go.Proofs.YtgmodehldmahiaaGreatDoor.Heap
open Go Go.RowKit Go.Tm
attribute [local go_sem] Oper.semAt_some
theorem gN{β:Type}(B:Nat)(t:TypeId)(f:β→Array Value):Own (fun s W=>aD W B (f s) t):=fun s X Y row hs hg hrow=>
 hs.grown hg (fun e'=>acp)
end Go.Proofs.YtgmodehldmahiaaGreatDoor.Heap
namespace Go.Proofs.YtgmodehldmahiaaGreatDoor.Heap
open Go Go.RowKit Go.Tm
attribute [local go_sem] Oper.semAt_some
theorem TJ:Body Tryz.prog 126:=gq Tryz.func126 ay ay
end Go.Proofs.YtgmodehldmahiaaGreatDoor.Heap
namespace Go.Proofs.YtgmodehldmahiaaGreatDoor.Heap
open Go Go.RowKit Go.Tm
attribute [local go_sem] Oper.semAt_some
def G8(n:Int)(x:Sp):Bool:=decide (n≤x.2.1)
noncomputable def ig(size:Int)(l:List Sp)(n who:Int):List Sp×Int×Int:=
 if n<1∨Ck size l=false then(l,0,1) else match(zY size l).find? (G8 n) with|some x=>(ins l (x.1,n,who),x.1,0)|none=>(l,0,5)
theorem NA{size:Int}{l:List Sp}{n who:Int}(h:n<1∨¬tQ size l):ig size l n who=(l,0,1):=by
 unfold ig;rw[if_pos (h.imp id lq)]
theorem Wi{size:Int}{l:List Sp}{n who:Int}(h:¬n<1)(hr:tQ size l)(hf:(zY size l).find? (G8 n)=none):ig size l n who=(l,0,5):=by
 unfold ig;rw[if_neg (by rw[wI hr];simp[h]),hf]
theorem Wh{size:Int}{l:List Sp}{n who:Int}(h:¬n<1)(hr:tQ size l){x:Sp}(hf:(zY size l).find? (G8 n)=some x):ig size l n who=(ins l (x.1,n,who),x.1,0):=by
 unfold ig;rw[if_neg (by rw[wI hr];simp[h]),hf]
def DI(n:Int)(pre:List Sp):Prop:=∀x∈pre,G8 n x=false
theorem DI.snoc{n:Int}{pre:List Sp}{x:Sp}(h:DI n pre)(hx:G8 n x=false):DI n (pre++[x]):=adJ
theorem DI.none{n:Int}{za:List Sp}(h:DI n za):za.find? (G8 n)=none:=by
 rw[List.find?_eq_none];intro x hx;rw[h x hx];simp
theorem DI.some{n:Int}{ys:List Sp}{x:Sp}{za:List Sp}(h:DI n ys)(hx:G8 n x=true)(hp:ys++[x]<+:za):za.find? (G8 n)=some x:=by
 obtain⟨r,rfl⟩:=hp
 rw[List.append_assoc,List.find?_append,h.none]
 simp[hx]
def ajQ(n:Int)(B:Nat)(w2:World)(pre:List Sp)(W:World):Prop:=
 ∃(x:Sp) (ys:List Sp),pre=ys++[x]∧DI n ys∧G8 n x=true∧aD W B #[.int .i64 x.1] 3∧jk B w2 W
theorem jk.own{β:Type}{B n:Nat}{w2:World}(hB:B<n):OwnFrom n (fun(_:β) W=>jk B w2 W):=by
 intro s X Y row hs hg hr
 have hBX:B<X.heap.size:=Nat.lt_of_lt_of_le hs.2.1 hs.size
 have hrow:∀b (o:Obj),X.heap[b]?=some o→o.isCells=true→Y.heap[b]?=some o:=fun b o h1 h2=>by
  rw[hg.block b (Array.getElem?_eq_some_iff.1 h1).1 (fun e=>by obtain⟨_,o',h3,h4⟩:=hr b e.symm;rw[h1] at h3;cases h3;rw[h2] at h4;cases h4)]
  exact h1
 have hne:Y.heap[B]?=X.heap[B]?:=hg.block B hBX (fun e=>by have:=(hr B e.symm).1;omega)
 refine hs.trans ⟨(Below.refl B X).grown hg aj (fun k e=>Nat.le_of_lt (Nat.lt_of_lt_of_le hB (hr k e).1)),hBX,fun b o h1 h2 h3=>⟨hrow b o h1 h2,fun k=>h3 (k.same hne)⟩,fun h1 b k=>Nat.lt_of_lt_of_le (h1 b (k.same hne)) hg.size⟩
theorem aa9{n:Int}{B m:Nat}{w2:World}(hB:B<m):OwnFrom m (ajQ n B w2):=by
 intro pre X Y row hs hg hr
 obtain⟨x,ys,h1,h2,h3,h4,h5⟩:=hs
 exact⟨x,ys,h1,h2,h3,Own.from (gN (β:=Unit) _ 3 (fun _=>#[.int .i64 x.1])) _ () X Y row h4 hg hr,jk.own (β:=Unit) hB () X Y row h5 hg hr⟩
theorem aeF(x:Sp):(LB x).cells=#[.int .i64 x.1,.int .i64 x.2.1,.int .i64 x.2.2]:=rfl
def SK(X0:World)(h b1 b2:Nat)(n p:Int)(W':World):Prop:=W'.cell? ⟨b1,0,none⟩=some (.int .i64 n)∧W'.cell? ⟨b2,0,none⟩=some (.int .i64 p)∧∃X,Below X0.heap.size X0 X∧(W'=X∨∃u,W'=X.setCell ⟨h,1,none⟩ u)
theorem SK.of{X0 X:World}{h b1 b2:Nat}{n p:Int}(hc:X0.cell? ⟨b1,0,none⟩=some (.int .i64 n)∧X0.cell? ⟨b2,0,none⟩=some (.int .i64 p))(hh:h<X0.heap.size)(hb:Below X0.heap.size X0 X):SK X0 h b1 b2 n p X:=
 ⟨(hb.cell (p:=⟨b1,0,none⟩) (World.block_lt_of_cell? _ _ hc.1)).trans hc.1,(hb.cell (p:=⟨b2,0,none⟩) (World.block_lt_of_cell? _ _ hc.2)).trans hc.2,X,hb,.inl rfl⟩
theorem SK.set{X0 X:World}{h b1 b2:Nat}{n p:Int}(hc:X0.cell? ⟨b1,0,none⟩=some (.int .i64 n)∧X0.cell? ⟨b2,0,none⟩=some (.int .i64 p))(h1:h≠b1)(h2:h≠b2)(jO:b1<X0.heap.size)(hl2:b2<X0.heap.size)(u:Value)(hb:Below X0.heap.size X0 X):SK X0 h b1 b2 n p (X.setCell ⟨h,1,none⟩ u):=
 ⟨(World.cell?_setCell_far _ _ _ _ h1).trans ((hb.cell (p:=⟨b1,0,none⟩) jO).trans hc.1),(World.cell?_setCell_far _ _ _ _ h2).trans ((hb.cell (p:=⟨b2,0,none⟩) hl2).trans hc.2),X,hb,.inr ⟨u,rfl⟩⟩
theorem noGoto_ret{Q:Exit→Act→World→Prop}{a:Act}{w:World}(h:Q .ret a w):Exit.noGoto Q .ret a w:=h
set_option maxRecDepth 100000 in
set_option maxHeartbeats 8000000 in
theorem lV(size:Int)(v:Value)(l:List Sp)(n who:Int)(w:World)(hv:Sl w true 3 v (pW l))(hs:(Lit.int .i64 size).wf=true)(hw:∀x∈l,Dj x)(hby:(l.length+1)*24≤140737488355328):
  Calls Tryz.prog 86 #[.agg #[.int .i64 size,v],.int .i64 n,.int .i64 who] w fun e w'=>∃v',e=.returned (.tuple #[.agg #[.int .i64 size,v'],.int .i64 (ig size l n who).2.1,.int .i64 (ig size l n who).2.2])∧Sl w' true 3 v' (pW (ig size l n who).1)∧yV w.heap.size v (pW l) v' (pW (ig size l n who).1)∧Below w.heap.size w w':=by
 have HV:=ah hv
 have HR:=ah (fun W h=>aae size v l W h hs hw)
 have HS:=ah hs
 have HBY:=ah hby
 obtain⟨a,cap,rfl,hl⟩:=hv.shape
 rw[lI] at hl HV HR⊢
 clear hv hw hs hby
 by_cases hn:n<1
 ·have hd:decide (n<1)=true:=by simpa using hn
  have HT:=ah (NA (size:=size) (l:=l) (who:=who) (.inl hn))
  rw[HT.out]
  go_enter Tryz.func86,Tryz.ntmps86
  go_wp2_with fail
  refine wp_scope_straight ?_
  go_wp2_with fail
  refine noGoto_ret ?_
  refine bodyPost_ret (v:= .tuple #[.agg #[.int .i64 size,.slice a l.length cap],.int .i64 0,.int .i64 1]) (by simp[results,Tryz.results86,go_sem]) rfl ⟨_,rfl,?_,yV.same,aG⟩
  exact HV.out.below aG
 have hd:decide (n<1)=false:=by simpa using hn
 have HN:=ah hn
 by_cases hr:tQ size l
 rotate_left
 ·rw[lq hr] at HR
  have HT:=ah (NA (size:=size) (l:=l) (n:=n) (who:=who) (.inr hr))
  rw[HT.out]
  clear hr hn
  go_enter Tryz.func86,Tryz.ntmps86
  go_wp2_with fail
  refine wp_scope_straight ?_
  go_wp2_with fail
  with_reducible refine(HR.out _ (HV.out.below aG)).mono ?_
  rintro e w1 ⟨rfl,hb1⟩
  have hz1:=hb1.size
  simp only[World.size_alloc] at hz1
  have bx1:aD w1 w.heap.size #[.int .i64 size,.slice a l.length cap] 51:=(((aD.new _ _ _).alloc _).alloc _).below hb1 dF
  have UD:aD w1 (w.heap.size+1+1) #[.int .i64 0,.slice none 0 0] 51:=aD.below (aD.p9 _ _ _ aI) hb1 dF
  have bW:Below w.heap.size w w1:=aG
  obtain⟨c1,f1,l1,n1,m1⟩:=bx1.rules
  obtain⟨c3,f3,l3,n3,m3⟩:=UD.rules
  clear bx1 UD hb1
  go_wp2_with fail
  refine noGoto_ret ?_
  refine bodyPost_ret (v:= .tuple #[.agg #[.int .i64 size,.slice a l.length cap],.int .i64 0,.int .i64 1]) (by simp[results,Tryz.results86,go_sem,c1,c3]) rfl ⟨_,rfl,?_,yV.same,aG⟩
  exact HV.out.below aG
 rw[wI hr] at HR
 have HRR:=ah hr
 clear hr hn
 refine(callsIn_wide (n:=3)).1 ?_
 ((refine callsIn_of_wp_marks Tryz.func86 rfl trivial ?_ rfl);simp only[Tryz.ntmps86,List.size_toArray,List.length_cons,List.length_nil,Nat.reduceAdd,Nat.reduceSub,Array.replicate_succ,Array.replicate_zero,List.push_toArray,List.append_toArray,List.nil_append,List.cons_append])
 refine wpIn_wide.2 ?_
 go_wp2_with fail
 refine wp_scope_straight ?_
 go_wp2_with fail
 with_reducible refine(HR.out _ (HV.out.below aG)).mono ?_
 rintro e w1 ⟨rfl,hb1⟩
 have hz1:=hb1.size
 simp only[World.size_alloc] at hz1
 have bx1:aD w1 w.heap.size #[.int .i64 size,.slice a l.length cap] 51:=(((aD.new _ _ _).alloc _).alloc _).below hb1 dF
 have tu:aD w1 (w.heap.size+1) #[.int .i64 n] 3:=aD.below ((aD.p9 _ _ _ aI).alloc _) hb1 dF
 have UD:aD w1 (w.heap.size+1+1) #[.int .i64 0,.slice none 0 0] 51:=aD.below (aD.p9 _ _ _ aI) hb1 dF
 have bW:Below w.heap.size w w1:=aG
 have FW:=ah bx1
 have Ao:=ah tu
 have QE:=ah UD
 obtain⟨c1,f1,l1,n1,m1⟩:=bx1.rules
 obtain⟨c2,f2,l2,n2,m2⟩:=tu.rules
 clear bx1 tu UD hb1
 go_wp2_with fail
 refine wp_label ?_
 go_wp2_with fail
 with_reducible refine(aa1 _ _ _).mono ?_
 rintro e w2 ⟨rfl,hw2⟩
 have oq:aD (w1.alloc (.cells #[.int .i64 (-1)] 3)) w1.heap.size #[.int .i64 (-1)] 3:=aD.new _ _ _
 have hb2:Below (w1.heap.size+1) (w1.alloc (.cells #[.int .i64 (-1)] 3)) w2:=Jd
 have hs1:aD w2 (w1.heap.size+1) #[.int .i64 size,.slice a l.length cap] 51:=Jp
 have mh:aD w2 w1.heap.size #[.int .i64 (-1)] 3:=oq.below hb2 aj
 have bM:Below w.heap.size w w2:=(bW.alloc bW.size _).trans (hb2.mono aj)
 have hzz:=hs1.lt
 have f_:Below w1.heap.size w1 w2:=((Below.refl w1.heap.size w1).alloc (Nat.le_refl _) _).trans (hb2.mono aj)
 clear hw2 oq hb2 c1 f1 l1 n1 m1 c2 f2 l2 n2 m2
 have fJ:=TJ
 unfold Body at fJ
 have RG:∀b,yj w1.heap.size b w2→b=w1.heap.size:=fun b h=>yj.lt mh rfl rfl h
 have L8:=ah mh
 have Ri:=ah f_
 have U7:=ah bM
 have Y4:=ah hs1
 have HFE:=ah RG
 clear mh f_ hs1 RG bM
 go_wp2_with fail
 refine(wpIn_wide (n:=3)).1 ?_
 refine wpIn_rangeFunc_ownH rfl aj (gf:=126) (lb:=#[.pointer (some ⟨w1.heap.size+1,0,none⟩)]) rfl trivial fJ
  (TH 2 w1.heap.size (w1.heap.size+1) (.slice a l.length cap) size l w2 aj aj HFE.out HRR.out HS.out HBY.out (fun W h=>HV.out.below (U7.out.trans (h.1.mono bW.size))) (fun W h=>h.box Y4.out (fun k=>by have:=HFE.out _ k;omega)))
  jk.trans (fun W l o o' h1 h2 h3 h4=>jk.putObj (n:=w2.heap.size) aj W l o o' h1 h2 h3 h4) (Below.refl _ _) (fun _=>rfl)
  (fun pre W=>DI n pre∧jk w1.heap.size w2 W∧aD W w1.heap.size #[.int .i64 (-1)] 3)
  (fun c pre W=>c=.exit 0∧ajQ n w1.heap.size w2 pre W)
  (OwnFrom.and (ownFrom_pure _ _) (OwnFrom.and (jk.own aj) (Own.from (gN w1.heap.size 3 (fun _=>#[.int .i64 (-1)])) _)))
  (fun c=>OwnFrom.and (ownFrom_pure _ (fun _=>c=.exit 0)) (aa9 aj))
  ⟨OY,jk.refl aj,L8.out⟩
  (fun x a' W=>∃Bx,aD W Bx #[.int .i64 x.1,.int .i64 x.2.1,.int .i64 x.2.2] 164∧
   a'={tmps:=#[.agg #[.int .i64 size,.slice a l.length cap],.int .i64 n,.int .i64 who,.pointer (some ⟨w.heap.size,0,none⟩),.pointer (some ⟨w.heap.size+1,0,none⟩),undef,.pointer (some ⟨w.heap.size+1+1,0,none⟩),.int .i64 0,.int .i64 0,.pointer (some ⟨w1.heap.size,0,none⟩),.pointer (some ⟨Bx,0,none⟩),undef,.int .i64 n,.bool false,.bool false,.agg #[.int .i64 size,.slice a l.length cap],.bool true,.bool false,.bool false,undef,.agg #[.int .i64 size,.slice a l.length cap],.func (.func 126) #[] #[.pointer (some ⟨w1.heap.size+1,0,none⟩)],LB x,undef,undef,undef,undef,undef,undef,undef,undef,undef,undef,undef,undef,undef,undef,undef,undef,undef,undef,undef,undef,undef,undef,undef,undef,undef,undef,undef,undef,undef,undef,undef,undef,undef,undef,undef,undef,undef,undef,undef],defers:=[]})
  (fun x a' _ X Y row hs hg hr=>by
   obtain⟨Bx,hb,rfl⟩:=hs
   exact⟨Bx,Own.from (gN (β:=Unit) Bx 164 (fun _=>#[.int .i64 x.1,.int .i64 x.2.1,.int .i64 x.2.2])) _ () X Y row hb hg hr,rfl⟩) ?assign ?body ?done ?stop
 case assign=>
  rintro l' pre x W K ⟨hno,hB,hq⟩ hK
  gi_wp2
  exact hK _ _ ((KeepsOthers.alloc _ _).from _) (jk.of ((Below.refl _ W).alloc (Nat.le_refl _) _) hq.lt) ⟨hno,hB.trans (jk.of ((Below.refl _ W).alloc (Nat.le_refl _) _) hq.lt),hq.alloc _⟩ ⟨W.heap.size,aD.new W _ _,rfl⟩
 case body=>
  rintro l' pre x a' W hl' ⟨r,hr⟩ ⟨hno,hB,hq⟩ ⟨Bx,hb,rfl⟩ hlt
  have Zq:=(Ao.out.below Ri.out Ao.out.lt).below hB.1 Ao.out.lt
  obtain⟨c2,f2,l2,n2,m2⟩:=hb.rules
  obtain⟨c3,f3,l3,n3,m3⟩:=hq.rules
  obtain⟨c4,f4,l4,n4,m4⟩:=Zq.rules
  have Uo:=ah hno
  have BN:=jk.set hq aI (.int .i64 x.1) rfl
  have BA:=hq.set 0 (.int .i64 x.1)
  have anG:=ah (And.intro BN BA)
  have HQ:=ah hq
  clear hno BN BA Zq hb hq
  by_cases g1:n≤x.2.1
  ·have g1b:decide (n≤x.2.1)=true:=by simpa using g1
   gi_wp2
   exact⟨(KeepsOthers.setCell _ _ _).from _,rfl,x,pre,rfl,Uo.out,by unfold G8;simpa using g1,anG.out.2,hB.trans anG.out.1⟩
  ·have g1b:decide (n≤x.2.1)=false:=by simpa using g1
   gi_wp2
   exact⟨KeepsFrom.refl _ _,jk.refl HQ.out.lt,Uo.out.snoc (by unfold G8;simpa using g1),hB,HQ.out⟩
 case done=>
  rintro D ys W hD rfl ⟨hno,hB,hq⟩ hK
  have Hw:=ah (Wi (who:=who) (by have:=HN.out;omega) HRR.out hno.none)
  have HB:=ah hB
  have b1:=(FW.out.below Ri.out FW.out.lt).below hB.1 FW.out.lt
  have b3:=(QE.out.below Ri.out QE.out.lt).below hB.1 QE.out.lt
  have hwz:=hB.1.size
  clear hno hB
  obtain⟨c1,f1,l1,n1,m1⟩:=b1.rules
  obtain⟨c3,f3,l3,n3,m3⟩:=b3.rules
  obtain⟨c4,f4,l4,n4,m4⟩:=hq.rules
  have HQ:=ah hq
  have H3:=ah b3
  have HK:=ah hK
  clear hq b1 b3 hK
  go_wp2_with fail
  refine noGoto_ret ?_
  have BN:aD ((W.setCell ⟨w.heap.size+1+1,0,none⟩ (.int .i64 size)).setCell ⟨w.heap.size+1+1,1,none⟩ (.slice a l.length cap)) (w.heap.size+1+1) #[.int .i64 size,.slice a l.length cap] 51:=(H3.out.set 0 (.int .i64 size)).set 1 (.slice a l.length cap)
  have Bl:((W.setCell ⟨w.heap.size+1+1,0,none⟩ (.int .i64 size)).setCell ⟨w.heap.size+1+1,1,none⟩ (.slice a l.length cap)).heap[D]?=some (.deferred (some [])):=by
   rw[heap_setCell_other _ _ _ _ wT,heap_setCell_other _ _ _ _ wT];exact HK.out
  have xR:Below w.heap.size w ((W.setCell ⟨w.heap.size+1+1,0,none⟩ (.int .i64 size)).setCell ⟨w.heap.size+1+1,1,none⟩ (.slice a l.length cap)):=
   ((U7.out.trans (HB.out.1.mono bW.size)).setCell (p:=⟨w.heap.size+1+1,0,none⟩) uT _).setCell (p:=⟨w.heap.size+1+1,1,none⟩) uT _
  refine⟨aI,.inl ⟨_,_,rfl,run_takeDeferred Bl,?_⟩⟩
  have b1:=((Own.from (gN (β:=Unit) _ 51 (fun _=>_)) w2.heap.size).putObj (s:=()) (Obj.deferred none) BN hD Bl rfl).rules.1
  have b10:=b1 0
  have b11:=b1 1
  have uJ:=xR.trans (belowK_b (w:=w2) U7.out.size _ D _ (Obj.deferred none) hD Bl rfl rfl)
  exact⟨.tuple #[.agg #[.int .i64 size,.slice a l.length cap],.int .i64 0,.int .i64 5],Pn,_,by rw[Hw.out],by rw[Hw.out];exact HV.out.below uJ,by rw[Hw.out];exact yV.same,uJ⟩
 case stop=>
  rintro D c pre W hD G5 ⟨rfl,x,ys,rfl,h2,h3,h4,h5⟩ hK
  have hat:=Wh (who:=who) (by have:=HN.out;omega) HRR.out (h2.some h3 G5)
  obtain⟨l1,l2,af8,hins,-,yP,hpq,akk,QX,-⟩:=aaU (who:=who) HRR.out (List.mem_of_find?_eq_some (h2.some h3 G5)) HN.out (by simpa[G8] using h3)
  rw[hins] at hat
  have Hw:=ah hat
  have b1:=(FW.out.below Ri.out FW.out.lt).below h5.1 FW.out.lt
  have b2:=(Ao.out.below Ri.out Ao.out.lt).below h5.1 Ao.out.lt
  have b3:=(QE.out.below Ri.out QE.out.lt).below h5.1 QE.out.lt
  have hwz:=h5.1.size
  have HBW:=ah (U7.out.trans (h5.1.mono bW.size))
  clear h2 h3 G5 h5 hat hins
  obtain⟨p,q,u⟩:=x
  dsimp only at h4 Hw yP hpq akk QX
  obtain⟨c1,f1,Qq,n1,m1⟩:=b1.rules
  obtain⟨c4,f4,l4',n4,m4⟩:=h4.rules
  have H1:=ah b1
  have H2:=ah b2
  have H3:=ah b3
  have H4:=ah h4
  have HK:=ah hK
  have HL1:=ah akk
  have HL2:=ah QX
  have HL:=ah af8
  have Ug:l1.length+l2.length=l.length:=by rw[af8];simp
  obtain⟨zs,hz1,hz2⟩:∃zs,List.take l1.length (pW l)++LB (p,n,who)::List.drop l1.length (pW l)=zs∧zs=pW (ig size l n who).1:=⟨_,rfl,by
   rw[Hw.out,af8]
   simp[pW]⟩
  have HZ1:=ah hz1
  have HZ2:=ah hz2
  clear hz1 hz2
  clear b1 b2 b3 h4 hK akk QX af8
  have hpd:decide (p<0)=false:=by simpa using yP
  refine wpIn_wide.2 ?_
  go_wp2_with fail
  clear c1 f1 Qq n1 m1 c4 f4 l4' n4 m4
  go_loopw [11] (fun t W'=>∃i:Nat,i≤l1.length∧t=.int .i64 i∧Below W.heap.size W W') (fun t _=>l1.length-(intOf t).toNat)
  case atStart=>exact⟨0,Nat.zero_le _,rfl,Below.refl _ _⟩
  case round=>
   obtain⟨i,hi,rfl,bZ⟩:=hrel
   have hby:=HBY.out
   have hwr:IntKind.i64.wrap ((i:Int)+1)=i+1:=IntWalk.i64_in _ aj
   clear hby
   have b1:=H1.out.below bZ H1.out.lt
   have b4:=H4.out.below bZ H4.out.lt
   have g1:=b1.Ar
   have g4:=b4.Ar
   by_cases hlt:i<l1.length
   ·have hx:l[i]?=some l1[i]:=by rw[HL.out,List.getElem?_append_left hlt];exact List.getElem?_eq_getElem hlt
    have hxp:=HL1.out _ (List.getElem_mem hlt)
    generalize l1[i]=x at hx hxp
    obtain⟨b,off,rfl,hb,d0,d1,d2⟩:=Sl.sp (HV.out.below (HBW.out.trans (bZ.mono HBW.out.size))) hx
    have k0:=oH d0 hb
    have xW:i<l.length:=aj
    have e1:decide ((i:Int)<(l.length:Int))=true:=aV
    have e2:decide (x.1<p)=true:=by simpa using hxp
    clear d0 d1 d2
    go_wp2_with fail
    ((refine wp_region_quiet_below ay ay ?_);(repeat(go_big_quiet_step (fail)));(refine wpQuiet_nil ?_);intro _ hw';obtain⟨⟨dq,osq⟩,hw''⟩:=hw';subst hw'';have pE:=below_regrown wr dq osq;generalize Go.Sort.grow (redrawn wr dq) osq=w7 at*;have LC:=pE.size)
    clear g1 g4 k0
    go_wp2_with fail
    go_roundw
    case rel=>exact⟨i+1,aj,dn,bZ.trans (pE.mono bZ.size)⟩
    case measure=>simp[intOf];omega
   ·obtain rfl:i=l1.length:=by omega
    by_cases QX:l1.length<l.length
    ·obtain⟨x,hx,hxp⟩:∃x,l[l1.length]?=some x∧p<x.1:=by
      cases l2 with
      |nil=>simp at Ug;omega
      |cons y r=>exact⟨y,by rw[HL.out];simp,HL2.out y aI⟩
     obtain⟨b,off,rfl,hb,d0,d1,d2⟩:=Sl.sp (HV.out.below (HBW.out.trans (bZ.mono HBW.out.size))) hx
     have k0:=oH d0 hb
     have e1:decide ((l1.length:Int)<(l.length:Int))=true:=aV
     have e2:decide (x.1<p)=false:=aV
     clear d0 d1 d2
     go_wp2_with fail
     ((refine wp_region_quiet_below ay ay ?_);(repeat(go_big_quiet_step (fail)));(refine wpQuiet_nil ?_);intro _ hw';obtain⟨⟨dq,osq⟩,hw''⟩:=hw';subst hw'';have pE:=below_regrown wr dq osq;generalize Go.Sort.grow (redrawn wr dq) osq=w7 at*;have LC:=pE.size)
     clear g1 g4 k0
     exact amk
    ·have e1:decide ((l1.length:Int)<(l.length:Int))=false:=by simp;omega
     go_wp2_with fail
     ((refine wp_region_quiet_below ay ay ?_);(repeat(go_big_quiet_step (fail)));(refine wpQuiet_nil ?_);intro _ hw';obtain⟨⟨dq,osq⟩,hw''⟩:=hw';subst hw'';have pE:=below_regrown wr dq osq;generalize Go.Sort.grow (redrawn wr dq) osq=w7 at*;have LC:=pE.size)
     clear g1 g4
     exact amk
end Go.Proofs.YtgmodehldmahiaaGreatDoor.Heap
namespace Go.Proofs.YtgmodehldmahiaaGreatDoor.Heap
open Go Go.RowKit Go.Tm
theorem R6(x:Sp)(h:Dj x):Plain Tryz.prog 164 #[.int .i64 x.1,.int .i64 x.2.1,.int .i64 x.2.2] [.int .i64 x.1,.int .i64 x.2.1,.int .i64 x.2.2]:=by
 refine⟨ay,5,?_⟩
 have h1:Tryz.prog.cellsOf 164=3:=ay
 have h3:Tryz.prog.cellsOf 3=1:=ay
 simp[Program.keyLits,Tryz.underlying164,Tryz.underlying3,h1,h3,h.1,h.2.1,h.2.2]
theorem ad'(x y:Sp)(hx:Dj x)(hy:Dj y)(b:Bool)(hb:b=true↔x=y):
  ∀w,(Op.equalIn 10000 164 (.agg #[.int .i64 x.1,.int .i64 x.2.1,.int .i64 x.2.2]) (.agg #[.int .i64 y.1,.int .i64 y.2.1,.int .i64 y.2.2])).run Tryz.prog w=.ok b w:=by
 refine j_ (m:=5) aj ay ay (R6 x hx) (R6 y hy) b ?_
 rw[hb]
 obtain⟨t,p,u⟩:=x
 obtain⟨s,q,r⟩:=y
 simp
theorem VQ{α:Type}{l m:List α}(h:l.length≠m.length):¬l=m:=fun e=>h (by rw[e])
theorem GI{α:Type}{l m:List α}(h:l.length=m.length)(ht:l.take l.length=m.take l.length):l=m:=by
 rw[List.take_length] at ht
 rw[ht,h,List.take_length]
theorem Ke{α:Type}{l m:List α}{i:Nat}{x:α}(h:l.take i=m.take i)(hx:l[i]?=some x)(hy:m[i]?=some x):l.take (i+1)=m.take (i+1):=by
 rw[eO hx,eO hy,h]
theorem acW{α:Type}{l m:List α}{i:Nat}{x y:α}(hx:l[i]?=some x)(hy:m[i]?=some y)(h:x≠y):¬l=m:=fun e=>by
 subst e;rw[hx] at hy;cases hy;exact h rfl
theorem ZY(v u:Value)(l m:List Sp)(w:World)(hv:Sl w true 3 v (pW l))(hu:Sl w true 3 u (pW m))(hl:∀x∈l,Dj x)(hm:∀x∈m,Dj x):
  Calls Tryz.prog 58 #[v,u] w fun e w'=>e=.returned (.bool (decide (l=m)))∧Below w.heap.size w w':=by
 have HV:=ah hv
 have HU:=ah hu
 have HL:=ah hl
 have HM:=ah hm
 obtain⟨a,cap,rfl,af7⟩:=hv.shape
 obtain⟨a2,jl,rfl,abJ⟩:=hu.shape
 rw[lI] at af7 abJ HV HU⊢
 rw[lI]
 clear hv hu hl hm
 by_cases hlen:l.length=m.length
 ·have HLEN:=ah hlen
  rw[←hlen] at HU abJ⊢
  clear hlen
  go_enter Tryz.func58,Tryz.ntmps58
  go_wp2_with fail
  go_loopw [5] (fun t W=>∃i:Nat,i≤l.length∧t=.int .i64 i∧Below w.heap.size w W∧Hid (l.take i=m.take i)) (fun t _=>l.length-(intOf t).toNat)
  case atStart=>exact⟨0,Nat.zero_le _,rfl,Below.refl _ _,ah rfl⟩
  case round=>
   obtain⟨i,hi,rfl,bZ,HT⟩:=hrel
   have Bj:=bZ.size
   by_cases hlt:i<l.length
   ·obtain⟨x,hx⟩:∃x,l[i]?=some x:=⟨_,List.getElem?_eq_getElem hlt⟩
    obtain⟨y,hy⟩:∃y,m[i]?=some y:=⟨_,List.getElem?_eq_getElem (by rw[←HLEN.out];exact hlt)⟩
    obtain⟨b,off,rfl,hb,c0,c1,c2⟩:=Sl.sp (HV.out.below bZ) hx
    obtain⟨b2,nU,rfl,hb2,e0,e1,e2⟩:=Sl.sp (HU.out.below bZ) hy
    have hwr:IntKind.i64.wrap ((i:Int)+1)=i+1:=IntWalk.i64_in _ aj
    have HX:=ah hx
    have HY:=ah hy
    have g0:=oH c0 hb
    have g1:=oH c1 hb
    have g2:=oH c2 hb
    have k0:=oH e0 hb2
    have k1:=oH e1 hb2
    have k2:=oH e2 hb2
    by_cases Hq:x=y
    ·have heq:=ad' x y (HL.out x (List.mem_of_getElem? hx)) (HM.out y (List.mem_of_getElem? hy)) true (by simp[Hq])
     have HXY:=ah Hq
     clear Hq hx hy
     go_wp2_with fail
     ((refine wp_region_quiet_below ay ay ?_);(repeat(go_big_quiet_step (fail)));(refine wpQuiet_nil ?_);intro _ hw';obtain⟨⟨dq,osq⟩,hw''⟩:=hw';subst hw'';have pE:=below_regrown wr dq osq;generalize Go.Sort.grow (redrawn wr dq) osq=w7 at*;have LC:=pE.size)
     clear g0 g1 g2 k0 k1 k2
     exact aiI
    ·have heq:=ad' x y (HL.out x (List.mem_of_getElem? hx)) (HM.out y (List.mem_of_getElem? hy)) false (by simp[Hq])
     have HN:=ah (decide_eq_false (acW HX.out HY.out Hq))
     clear Hq hx hy
     go_wp2_with fail
     ((refine wp_region_quiet_below ay ay ?_);(repeat(go_big_quiet_step (fail)));(refine wpQuiet_nil ?_);intro _ hw';obtain⟨⟨dq,osq⟩,hw''⟩:=hw';subst hw'';have pE:=below_regrown wr dq osq;generalize Go.Sort.grow (redrawn wr dq) osq=w7 at*;have LC:=pE.size)
     clear g0 g1 g2 k0 k1 k2
     go_wp2_with fail
     go_ret
     exact⟨zR,bZ.trans (pE.mono Bj)⟩
   ·exact aiF
 ·have HN:=ah (decide_eq_false (VQ hlen))
  have hne:((l.length:Int)!=(m.length:Int))=true:=aV
  clear hlen
  go_enter Tryz.func58,Tryz.ntmps58
  go_wp2_with fail
  go_ret
  exact⟨zR,Below.refl _ _⟩
theorem Ae(n k:Int)(v u:Value)(l m:List Sp)(w:World)(hv:Sl w true 3 v (pW l))(hu:Sl w true 3 u (pW m))(hl:∀x∈l,Dj x)(hm:∀x∈m,Dj x):
  Calls Tryz.prog 28 #[.agg #[.int .i64 n,v],.agg #[.int .i64 k,u]] w fun e w'=>e=.returned (.bool (decide (l=m)&&decide (n=k)))∧Below w.heap.size w w':=by
 have HS:=ah (fun W h1 h2=>ZY v u l m W h1 h2 hl hm)
 have HV:=ah hv
 have HU:=ah hu
 clear hv hu hl hm
 generalize decide (l=m)=r at*
 have hnk:(n==k)=decide (n=k):=by rw[Bool.eq_iff_iff];simp
 go_enter Tryz.func28,Tryz.ntmps28
 go_wp2_with fail
 with_reducible refine(HS.out _ (HV.out.below ?_) (HU.out.below ?_)).mono ?_
 focus exact bl
 focus exact bl
 rintro e w2 ⟨rfl,hb2⟩
 have bx1:aD w2 w.heap.size #[.int .i64 n,v] 51:=((aD.new _ _ _).alloc _).below hb2 dF
 have tu:aD w2 (w.heap.size+1) #[.int .i64 k,u] 51:=aD.below (aD.p9 _ _ _ aI) hb2 dF
 obtain⟨c1,f1,l1,n1,m1⟩:=bx1.rules
 obtain⟨c2,f2,l2,n2,m2⟩:=tu.rules
 have bZ:Below w.heap.size w w2:=aG
 clear hb2 bx1 tu
 cases r
 ·go_wp2_with fail
  go_ret
  exact⟨aI,bZ⟩
 ·go_wp2_with fail
  go_ret
  exact⟨by simp[hnk],bZ⟩
end Go.Proofs.YtgmodehldmahiaaGreatDoor.Heap
