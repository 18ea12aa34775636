/- Part 4 of 50 of the proof of topWindows_holds. Conditions: see each. -/
import Derived.Test.YtgmodehldmahiaaGreatDoorW01
import Derived.Test.YtgmodehldmahiaaGreatDoorW02
set_option linter.unusedVariables false
set_option linter.unusedSimpArgs false
set_option maxRecDepth 8192
set_option maxHeartbeats 40000000
namespace Go.Proofs.YtgmodehldmahiaaGreatDoor.Heap
abbrev Sp:=Int×Int×Int
def rightG(size:Int):Int→List Sp→Prop
 |_,[]=>True
 |a,s::r=>a≤s.1∧1≤s.2.1∧s.2.1≤size∧s.1≤size-s.2.1∧rightG size (s.1+s.2.1) r
def mE:Int→List Sp→Int
 |a,[]=>a
 |_,s::r=>mE (s.1+s.2.1) r
def hole(a:Int)(s:Sp):List Sp:=if a<s.1 then[(a,s.1-a,0)] else[]
def jv:Int→List Sp→List Sp
 |_,[]=>[]
 |a,s::r=>hole a s++jv (s.1+s.2.1) r
def qA(size:Int)(l:List Sp):Prop:=rightG size 0 l∧0≤size
def wO(size:Int)(l:List Sp):List Sp:=jv 0 (l++[(size,0,0)])
theorem Wi(a:Int)(l:List Sp)(s:Sp):mE a (l++[s])=s.1+s.2.1:=by
 induction l generalizing a with
 |nil=>rfl
 |cons x r ih=>exact ih _
theorem NY(a:Int)(l:List Sp)(s:Sp):jv a (l++[s])=jv a l++hole (mE a l) s:=by
 induction l generalizing a with
 |nil=>simp[jv,mE]
 |cons x r ih=>simp[jv,mE,ih]
theorem Ij(a:Int)(l m:List Sp):jv a (l++m)=jv a l++jv (mE a l) m:=by
 induction l generalizing a with
 |nil=>rfl
 |cons x r ih=>simp[jv,mE,ih]
theorem Dw{size a:Int}{l:List Sp}{s:Sp}:rightG size a (l++[s])↔rightG size a l∧mE a l≤s.1∧1≤s.2.1∧s.2.1≤size∧s.1≤size-s.2.1:=aev
theorem m_{size a:Int}{l m:List Sp}:rightG size a (l++m)↔rightG size a l∧rightG size (mE a l) m:=aev
theorem Dv{size a:Int}{l:List Sp}(h:rightG size a l)(k:Nat):rightG size a (l.take k):=by
 rw[←List.take_append_drop k l,m_] at h;exact h.1
theorem nH{size a:Int}{l:List Sp}(h:rightG size a l)(ha:a≤size):a≤mE a l∧mE a l≤size:=by
 induction l generalizing a with
 |nil=>simp only[mE];omega
 |cons x r ih=>
  obtain⟨h1,h2,h3,h4,h5⟩:=h
  have:=ih h5 ah
  simp only[mE];omega
theorem zu{size a:Int}{l:List Sp}(h:rightG size a l){s:Sp}(hs:s∈l):a≤s.1∧1≤s.2.1∧s.1+s.2.1≤mE a l:=by
 induction l generalizing a with
 |nil=>cases hs
 |cons x r ih=>
  obtain⟨h1,h2,h3,h4,h5⟩:=h
  rcases List.mem_cons.1 hs with rfl|hs
  ·refine⟨h1,h2,?_⟩
   exact(nH h5 ah).1
  ·have:=ih h5 hs
   simp only[mE];omega
theorem Vd{size a b:Int}{l:List Sp}(h:rightG size a l)(hb:b≤a):rightG size b l:=by
 cases l with
 |nil=>trivial
 |cons x r=>obtain⟨h1,h⟩:=h;exact⟨ah,h⟩
theorem Nb{a:Int}{s x:Sp}(h:x∈hole a s):x.1=a∧1≤x.2.1∧x.1+x.2.1=s.1∧x.2.2=0:=by
 unfold hole at h
 split at h
 ·simp at h;subst h;simp;omega
 ·cases h
theorem VX(a:Int)(l:List Sp):(jv a l).length≤l.length:=by
 induction l generalizing a with
 |nil=>simp[jv]
 |cons s r ih=>
  have:=ih (s.1+s.2.1)
  rw[jv,List.length_append,List.length_cons]
  have:(hole a s).length≤1:=by unfold hole;split<;>simp
  omega
theorem DC{size a:Int}{l:List Sp}(h:rightG size a l)(ha:a≤size){x:Sp}(hx:x∈jv a (l++[(size,0,0)])):
  ∃l1 l2,l=l1++l2∧x.1=mE a l1∧1≤x.2.1∧x.1+x.2.1≤size∧rightG size (x.1+x.2.1) l2∧(∀s∈l1,s.1<x.1)∧(∀s∈l2,x.1<s.1)∧x.2.2=0:=by
 induction l generalizing a with
 |nil=>
  simp only[List.nil_append,jv,List.append_nil] at hx
  have:=Nb hx
  exact⟨[],[],rfl,by simp only[mE];omega,ah,by simp only at this;omega,trivial,aI,aI,this.2.2.2⟩
 |cons s r ih=>
  obtain⟨h1,h2,h3,h4,h5⟩:=h
  rw[List.cons_append,jv] at hx
  rcases List.mem_append.1 hx with hx|hx
  ·have hm:=Nb hx
   refine⟨[],s::r,rfl,by simp only[mE];omega,ah,ah,⟨ah,h2,h3,h4,h5⟩,aI,?_,hm.2.2.2⟩
   intro t ht
   rcases List.mem_cons.1 ht with rfl|ht
   ·omega
   ·have:=(zu h5 ht).1
    omega
  ·obtain⟨l1,l2,e,g1,g2,g3,g4,g5,g6,g7⟩:=ih h5 ah hx
   refine⟨s::l1,l2,by rw[e];rfl,g1,g2,g3,g4,?_,g6,g7⟩
   intro t ht
   rcases List.mem_cons.1 ht with rfl|ht
   ·have:rightG size (t.1+t.2.1) l1:=by rw[e,m_] at h5;exact h5.1
    have:=(nH this ah).1
    omega
   ·exact g5 t ht
def ins(l:List Sp)(s:Sp):List Sp:=l.takeWhile (fun x=>decide (x.1<s.1))++s::l.dropWhile (fun x=>decide (x.1<s.1))
theorem ZJ{α:Type}{p:α→Bool}{l1 l2:List α}(h1:∀x∈l1,p x=true)(h2:∀x∈l2,p x=false):(l1++l2).takeWhile p=l1∧(l1++l2).dropWhile p=l2:=by
 induction l1 with
 |nil=>
  cases l2 with
  |nil=>simp
  |cons y r=>simp[h2 y aI]
 |cons x r ih=>
  have:=ih (fun y hy=>h1 y wI)
  simp only[List.cons_append]
  rw[List.takeWhile_cons,List.dropWhile_cons,if_pos (h1 x aI),if_pos (h1 x aI),this.1,this.2]
  exact⟨rfl,rfl⟩
theorem VP{l1 l2:List Sp}{s:Sp}(h1:∀x∈l1,x.1<s.1)(h2:∀x∈l2,s.1<x.1):ins (l1++l2) s=l1++s::l2:=by
 have:=ZJ (p:=fun x:Sp=>decide (x.1<s.1)) (l1:=l1) (l2:=l2) (fun x hx=>by simpa using h1 x hx) (fun x hx=>by have:=h2 x hx;simp;omega)
 unfold ins
 rw[this.1,this.2]
theorem VQ{size:Int}{l:List Sp}(h:qA size l){x:Sp}(hx:x∈wO size l){n who:Int}(hn:1≤n)(hnx:n≤x.2.1):
  ∃l1 l2,l=l1++l2∧ins l (x.1,n,who)=l1++(x.1,n,who)::l2∧qA size (l1++(x.1,n,who)::l2)∧0≤x.1∧x.1+x.2.1≤size∧(∀s∈l1,s.1<x.1)∧(∀s∈l2,x.1<s.1)∧(∀s∈l,s.1+s.2.1≤x.1∨x.1+x.2.1≤s.1):=by
 obtain⟨l1,l2,e,g1,g2,g3,g4,g5,g6,g7⟩:=DC h.1 h.2 hx
 have hl1:rightG size 0 l1:=by have:=h.1;rw[e,m_] at this;exact this.1
 have he:=nH hl1 h.2
 refine⟨l1,l2,e,by rw[e];exact VP g5 g6,⟨?_,h.2⟩,ah,g3,g5,g6,?_⟩
 ·rw[m_]
  refine⟨hl1,lq,hn,lq,lq,Vd g4 lq⟩
 ·intro s hs
  rw[e] at hs
  rcases List.mem_append.1 hs with hs|hs
  ·left
   have:=(zu hl1 hs).2.2
   omega
  ·right
   exact(zu g4 hs).1
end Go.Proofs.YtgmodehldmahiaaGreatDoor.Heap
namespace Go.Proofs.YtgmodehldmahiaaGreatDoor.Heap
open Go Go.RowKit Go.Tm
abbrev GV(a:Sp):Value:= .agg #[.int .i64 a.1,.int .i64 a.2.1,.int .i64 a.2.2]
abbrev nV(l:List Sp):List Value:=l.map GV
theorem Fy(a:Sp):Val true 3 (GV a):=⟨_,rfl,rfl,IB⟩
theorem lF(l:List Sp):(nV l).length=l.length:=by simp
theorem ab8{l:List Sp}{i:Nat}{a:Sp}(h:l[i]?=some a):(nV l)[i]?=some (GV a):=by simp[h]
theorem Sl.sp{w:World}{a:Option Addr}{n cap:Nat}{l:List Sp}(h:Sl w true 3 (.slice a n cap) (nV l)){i:Nat}{x:Sp}(hx:l[i]?=some x):
  ∃b off,a=some ⟨b,off,none⟩∧b<w.heap.size∧w.cell? ⟨b,off+i*3,none⟩=some (.int .i64 x.1)∧w.cell? ⟨b,off+i*3+1,none⟩=some (.int .i64 x.2.1)∧w.cell? ⟨b,off+i*3+2,none⟩=some (.int .i64 x.2.2):=by
 obtain⟨b,off,ha,hb,hcell⟩:=h.at (ab8 hx)
 exact⟨b,off,ha,hb,hcell 0 _ rfl,hcell 1 _ rfl,hcell 2 _ rfl⟩
def Po(x:Sp):Prop:=(Lit.int .i64 x.1).wf=true∧(Lit.int .i64 x.2.1).wf=true∧(Lit.int .i64 x.2.2).wf=true
theorem jy:Ty Tryz.prog 164 3 true:=⟨aj,aj,aB,aj⟩
theorem xI:(Tryz.prog.info? 164).map (fun i=>(i.zero,i.size,i.bytes))=some (some (.agg #[.int .i64 0,.int .i64 0,.int .i64 0]),3,24):=by kernel_rfl
theorem vw(v:Value)(xs:List Value)(w:World)(hsl:Sl w true 3 v xs)(hbytes:xs.length*24≤140737488355328):
  Calls Tryz.prog 99 #[v] w fun e w'=>∃v',e=.returned v'∧bB w' w.heap.size 164 true 3 v' xs∧Below w.heap.size w w':=by
 have hsl0:=Lib.hid hsl
 obtain⟨hsz,a,cap,rfl,hl,hm,hform⟩:=hsl
 have hlen:xs.length≤maxLen:=ah
 cases a with
 |none=>
  have h0:xs=[]:=yu
  subst h0
  have hnil:=fun(n c:Nat) (w:World)=>eD Tryz.prog (t:=49) (n:=n) (c:=c) Tryz.underlying49 w
  clear hform hsz hl hm hlen
  go_enter Tryz.func99,Tryz.ntmps99
  exact yw
 |some a=>
  have hnil:=fun(n c:Nat) (w:World)=>eB Tryz.prog (t:=49) (a:=a) (n:=n) (c:=c) Tryz.underlying49 w
  obtain⟨i0,hi,hz0,hz1,hz2⟩:=info_parts xI
  have HI:=Lib.hid hi
  have HZ:=Lib.hid (And.intro hz0 (And.intro hz1 hz2))
  have HS:=Lib.hid hsz
  clear hi hz0 hz1 hz2 hform hl hm hsz
  go_enter Tryz.func99,Tryz.ntmps99
  go_wp2_with(first|(refine wpList_append_own _ rfl _ _ 49 rfl w.heap.size 164 i0 (.agg #[.int .i64 0,.int .i64 0,.int .i64 0]) 3 24 Tryz.underlying49 HI.out HZ.out.1 HZ.out.2.1 HZ.out.2.2 rfl aB (.slice (some ⟨w.heap.size,0,none⟩) 0 0) 0 [] bT (World.ownsRow_made w #[] 0 (Nat.le_refl _) (Nat.zero_le _) rfl) a xs.length cap (flat xs) bT ?c1 ?c2 ?c3 ?c4 ?c5 ?c6 ?_)|fail)
  case c1=>exact dX HS.out
  case c2=>exact(hsl0.out.below ((Below.refl _ _).alloc (Nat.le_refl _) _)).news
  case c3=>exact iD HS.out
  case c4=>omega
  case c5=>omega
  case c6=>simp
  exact yC
theorem IW:Val true 3 (.agg #[.int .i64 0,.int .i64 0,.int .i64 0]):=Fy (0,0,0)
theorem wX(v:Value)(xs:List Value)(i:Nat)(x:Value)(U:Nat)(w:World)(base:Nat)(ho:bB w base 164 true 3 v xs)(hi:i≤xs.length)(hx:Val true 3 x)(hbx:aC w U x.cells 164)
  (hU:∀b,v.ownBlock=some b→b≠U)(hbase:base≤w.heap.size)(hby:(xs.length+1)*24≤140737488355328):
  Calls Tryz.prog 98 #[v,.int .i64 i,.slice (some ⟨U,0,none⟩) 1 1] w fun e w'=>∃v',e=.returned v'∧bB w' base 164 true 3 v' (xs.take i++x::xs.drop i)∧w.grownBy w' v.ownBlock:=by
 obtain⟨i0,hi0,hq0,hq1,hq2⟩:=info_parts xI
 have HI:=Lib.hid (And.intro hi0 (And.intro hq0 (And.intro hq1 hq2)))
 clear hi0 hq0 hq1 hq2
 have HU:=Lib.hid (Sl.IK (ag:=true) (k:=3) hx hbx)
 have HO:=Lib.hid ho
 have Zq:xs.length+1≤9223372036854775807:=ah
 by_cases hin:i=xs.length
 ·subst hin
  obtain⟨_,a,cap,rfl,hlc,hcm,_⟩:=ho.sl
  have HL:=Lib.hid (show xs.take xs.length++x::xs.drop xs.length=xs++[x] by simp)
  clear ho hbx hU
  by_cases hce:cap=xs.length
  ·subst hce
   go_enter Tryz.func98,Tryz.ntmps98
   go_wp2_with(first|(refine eO (v:= .slice a xs.length xs.length) (xs:=xs) (base:=base) rfl _ _ 49 rfl jy i0 (.agg #[.int .i64 0,.int .i64 0,.int .i64 0]) 24 Tryz.underlying49 HI.out.1 HI.out.2.1 HI.out.2.2.1 HI.out.2.2.2 rfl ?_ ?_ (.slice (some ⟨U,0,none⟩) 1 1) ([x]) ?_ ?_ ?_ ?_ ?_ ?_;(exact aG);(focus(exact HO.out));(exact aG);(focus(exact HU.out));(exact yh);(exact yg);(exact yj);(intro v4 w4 qR hg4 xY;(have sj:=Lib.hid qR);(have Iz:=Lib.hid hg4);(clear qR hg4 xY)))|fail)
   exact IG
  ·go_enter Tryz.func98,Tryz.ntmps98
   go_wp2_with(first|(refine eO (v:= .slice a xs.length cap) (xs:=xs) (base:=base) rfl _ _ 49 rfl jy i0 (.agg #[.int .i64 0,.int .i64 0,.int .i64 0]) 24 Tryz.underlying49 HI.out.1 HI.out.2.1 HI.out.2.2.1 HI.out.2.2.2 rfl ?_ ?_ (.slice (some ⟨U,0,none⟩) 1 1) ([x]) ?_ ?_ ?_ ?_ ?_ ?_;(exact aG);(focus(exact HO.out));(exact aG);(focus(exact HU.out));(exact yh);(exact yg);(exact yj);(intro v4 w4 qR hg4 xY;(have sj:=Lib.hid qR);(have Iz:=Lib.hid hg4);(clear qR hg4 xY)))|fail)
   exact IG
 have hlt:i<xs.length:=ah
 obtain⟨g,cap,rfl,hlc,hcm,hbg,hgw,_,_⟩:=ho.form ah
 unfold maxLen at hcm
 have Ip:(Value.slice (some ⟨g,0,none⟩) xs.length cap).ownBlock=some g:=rfl
 rw[Ip]
 have hgU:g≠U:=hU g rfl
 have hilt:(i:Int)<xs.length:=ah
 have ahX:((i:Int)==xs.length)=false:=mF
 have hwn:IntKind.i64.wrap ((xs.length:Int)+1)=xs.length+1:=IntWalk.i64_in _ ah
 have hwi:IntKind.i64.wrap ((i:Int)+1)=i+1:=IntWalk.i64_in _ ah
 have hci:¬cap=i:=ah
 have tV:=fun n W (h:n≤cap) (h':i≤n)=>oH (P:=Tryz.prog) (t:=49) jy Tryz.underlying49 g 0 n cap i i rfl h' h ah W
 by_cases hroom:xs.length+1≤cap
 ·--in place
  have hroom':¬(cap:Int)<(xs.length:Int)+1:=ah
  have Zp:(xs.length:Int)+1≤cap:=ah
  have ah6:¬cap=i+1:=ah
  obtain⟨cur,hg,hcs,htk⟩:∃cur,w.heap[g]?=some (.cells cur 164 (0,0))∧cur.size=cap*3∧cur.toList.take (xs.length*3)=flat xs:=Yg
  have hgb:aC w g cur 164:=hg
  have hsz:∀w,(Go.sizeOf 164).run Tryz.prog w=.ok 3 w:=fun w=>by simp[sizeOf,typeInfo,HI.out.1,HI.out.2.2.1]
  have hov:∀lb cb,(callFunc 128 #[.slice (some ⟨U,0,none⟩) 1 1,.slice (some ⟨g,(i+1)*3,none⟩) lb cb]).run Tryz.prog w=.ok (.value (.bool false)) w:=fun lb cb=>by
   rw[run_callFunc_extern Tryz.func128 aj aj aj (e:=Extern.SlicesOverlaps.overlaps #[49,49] #[4]) aj,
    Lib.run_overlaps_apart w 49 4 164 Tryz.underlying49 3 hsz ⟨U,0,none⟩ ⟨g,(i+1)*3,none⟩ 1 1 lb cb (Ne.symm hgU) _ _ _ _ hbx.shape hgb.shape (by rw[hcs];omega) (hbx.rules.2.1 0) (hbx.rules.2.1 _)]
   rfl
  have Er:=fun W=>oH (P:=Tryz.prog) (t:=49) jy Tryz.underlying49 g 0 (xs.length+1) cap ((i:Int)+1) (i+1) ah ah hroom ah W
  have tV:=fun W=>tV (xs.length+1) W hroom ah
  have hval:=ho.val
  have hDl:(flat (xs.drop i)).length=(xs.length-i)*3:=XU
  have hD1:∀u∈flat (xs.drop i),u.oneCell'=true:=iD (fun y hy=>hval y (List.mem_of_mem_drop hy))
  have hDn:=(HO.out.sl.BZ (m:=i) ah).news
  simp only[Nat.zero_add] at Er tV hDn
  have HDN:=Lib.hid hDn
  have HD1:=Lib.hid hD1
  have He:=Lib.hid hbx
  have Xh:=Lib.hid hgb
  have G8:=Lib.hid htk
  have agj:=Lib.hid hval
  clear ho hU hg hgb hsz hDn hD1 hval htk hbx
  go_enter Tryz.func98,Tryz.ntmps98
  go_wp2_with fail
  clear hov
  ((refine fT 8 aj aj ?_);(simp only[List.take_succ_cons,List.take_zero,List.drop_succ_cons,List.drop_zero]);(repeat(go_big_quiet_step (fail)));(refine wpQuiet_nil ?_);(intro _ hw');(obtain⟨⟨dq,osq⟩,hw''⟩:=hw');(subst hw'');(have hq:=below_regrown w dq osq);(generalize Go.Sort.grow (redrawn w dq) osq=w3 at*);(have hz3:=hq.size))
  have hb3:aC w3 g cur 164:=Xh.out.below hq Xh.out.lt
  have HB3:=Lib.hid hb3
  have Ez:∀j u,(flat (xs.drop i))[j]?=some u→w3.cell? ((⟨g,i*3,none⟩:Addr).add j)=some u:=fun j u hu=>by
   have:=HDN.out j u hu
   rw[addr_add] at this⊢
   exact(hq.cell (p:=⟨g,i*3+j,none⟩) Xh.out.lt).trans this
  have aiH:=Lib.hid Ez
  have hfit:(i+1)*3+(flat (xs.drop i)).length≤cur.size:=by
   have e3:(xs.length+1)*3≤cap*3:=Nat.mul_le_mul_right _ hroom
   rw[hDl,hcs];omega
  have hmin:min (xs.length+1-i) (xs.length-i)=xs.length-i:=ah
  have hcp:=fun ty=>lS (P:=Tryz.prog) (t:=49) (ty:=ty) (k:=3) (ag:=true) (c:=cap-(i+1)) (cs:=cap-i) (n:=xs.length+1-i) (m:=xs.length-i) (o:=(i+1)*3) jy Tryz.underlying49 hb3 PE Ez HD1.out hfit
  obtain⟨C1,OM⟩:∃C1,C1=(cur.toList.take ((i+1)*3)++flat (xs.drop i)++cur.toList.drop ((i+1)*3+(flat (xs.drop i)).length)).toArray:=⟨_,rfl⟩
  rw[←OM] at hcp
  have LZ:C1.size=cur.size:=Ya
  have Yu:i*3+3≤C1.size:=by rw[LZ];omega
  have HC1:=Lib.hid OM
  have HCP:=Lib.hid hcp
  clear hb3 Ez hcp OM LZ
  go_wp2_with(first|(refine wpList_copy_run rfl _ _ 49 49 rfl _ _ ?_ ?_ (HCP.out _) ?_;(focus(simp[Act.eval]));(focus(simp[Act.eval]));(generalize Ow:w3.setRow g C1=w4);((have hg4:aC w4 g C1 164:=by rw[←Ow];exact setRow_heap w3 g cur _ _ (0,0) HB3.out);(have hu4:aC w4 U x.cells 164:=by rw[←Ow];exact((He.out.below hq He.out.lt).row g _ (Ne.symm hgU)));(have LW:w3.grownBy w4 (some g):=by rw[←Ow];exact⟨rfl,rfl,rfl,uP,fun b hb hne=>setRow_other w3 g b _ uQ⟩);(have Iz:=Lib.hid hg4);(have HU4:=Lib.hid (Sl.IK (ag:=true) (k:=3) hx hu4));(have agn:=Lib.hid LW);(clear hg4 hu4 LW Ow)))|((have hl4:x.cells.toList.length=min 1 (xs.length+1-i)*3:=by rw[show min 1 (xs.length+1-i)=1 by omega,hx.len]);(have DL:∀j u,x.cells.toList[j]?=some u→w4.cell? ((⟨U,0,none⟩:Addr).add j)=some u:=by(have hnw:=HU4.out.news);simpa[flat] using hnw);(refine wpList_copy_run rfl _ _ 49 49 rfl (.slice (some ⟨g,i*3,none⟩) (xs.length+1-i) (cap-i)) (.slice (some ⟨U,0,none⟩) 1 1) ?_ ?_ (lS jy Tryz.underlying49 Iz.out hl4 DL hx.one PL) ?_);(focus(simp[Act.eval]));(focus(simp[Act.eval]));(clear hl4 DL);(generalize Lr:w4.setRow g (C1.toList.take (i*3)++x.cells.toList++C1.toList.drop (i*3+x.cells.toList.length)).toArray=w5);(have TT:=Lib.hid Lr);(clear Lr))|fail)
  go_ret
  have Lr:=TT.out
  subst Lr
  have hC2:C1.toList.take (i*3)++x.cells.toList++C1.toList.drop (i*3+x.cells.toList.length)=cur.toList.take (i*3)++x.cells.toList++flat (xs.drop i)++cur.toList.drop (i*3+3+(flat (xs.drop i)).length):=by
   have h:=zq cur.toList (flat (xs.drop i)) x.cells.toList (i*3) 3 hx.len E8
   rw[HC1.out,show(i+1)*3=i*3+3 from Nat.succ_mul _ _]
   exact h
  exact Yj
 ·--a new row
  obtain⟨m,hm⟩:∃m,i+m=xs.length+1:=⟨xs.length+1-i,ah⟩
  have hroom':(cap:Int)<(xs.length:Int)+1:=ah
  have hwm:IntKind.i64.wrap ((xs.length:Int)+1-i)=m:=BO
  have tV:=fun W=>tV xs.length W hlc ah
  simp only[Nat.zero_add] at tV
  have HDA:=Lib.hid (HO.out.sl.BZ (m:=i) ah)
  have hvz:Val true 3 (.agg #[.int .i64 0,.int .i64 0,.int .i64 0]):=IW
  clear ho hbx hU
  go_enter Tryz.func98,Tryz.ntmps98
  go_wp2_with(first|(refine kW (base:=base) rfl _ _ 49 3 rfl jy i0 (.agg #[.int .i64 0,.int .i64 0,.int .i64 0]) .i64 24 Tryz.underlying49 Tryz.underlying3 HI.out.1 HI.out.2.1 HI.out.2.2.1 HI.out.2.2.2 hvz g xs.length cap HO.out i m ah ah ah wJ (by rw[hm];exact hby) hbase ?_ ?_ ?_;(focus(simp[Act.eval]));(focus(simp[Act.eval]));(intro cap2 w2 hc2 ho2 hg2;(have hb2:Below w.heap.size w w2:=bq hg2);(have hne2:¬cap2=i:=by omega);(have lV:=Lib.hid ho2);(have HU2:=Lib.hid (HU.out.below hb2));(clear ho2 hg2)))|(refine wpList_copy_own (base:=base) rfl _ _ 49 rfl jy Tryz.underlying49 w.heap.size (i+m) cap2 (xs.take i++List.replicate m (.agg #[.int .i64 0,.int .i64 0,.int .i64 0])) [x] lV.out i (xs.length+1-i) (cap2-i) ⟨U,0,none⟩ 1 HU2.out ?_ ?_ ?_ ?_ ?_;(focus(simp;omega));(focus(simp;omega));(focus(simp[Act.eval]));(focus(simp[Act.eval]));(intro w3 ho3 hg3;(have r_:=Lib.hid ho3);(have hb3:Below w.heap.size w w3:=hb2.grown hg3 hb2.size BQ);(clear ho3 hg3)))|fail)
  have Er:=fun W=>oH (P:=Tryz.prog) (t:=49) jy Tryz.underlying49 w.heap.size 0 (xs.length+1) cap2 ((i:Int)+1) (i+1) ah ah ah ah W
  simp only[Nat.zero_add] at Er
  simp only[Act.put,List.setIfInBounds_toArray,List.set_cons_succ,List.set_cons_zero,goInt,List.length_cons,List.length_nil]
  ((refine fT 8 aj aj ?_);(simp only[List.take_succ_cons,List.take_zero,List.drop_succ_cons,List.drop_zero]);(repeat(go_big_quiet_step (fail)));(refine wpQuiet_nil ?_);(intro _ hw');(obtain⟨⟨dq,osq⟩,hw''⟩:=hw');(subst hw'');(have hq:=below_regrown w3 dq osq);(generalize Go.Sort.grow (redrawn w3 dq) osq=w4 at*);(have vT:=hq.size))
  have hb4:Below w.heap.size w w4:=hb3.trans (hq.mono hb3.size)
  have sj:=Lib.hid (r_.out.kept hq)
  have XL:=Lib.hid (HDA.out.below hb4)
  go_wp2_with(first|(refine wpList_copy_own (base:=base) rfl _ _ 49 rfl jy Tryz.underlying49 w.heap.size (i+m) cap2 _ (xs.drop i) sj.out (i+1) (xs.length-i) (cap2-(i+1)) ⟨g,0+i*3,none⟩ (cap-i) XL.out ?_ ?_ ?_ ?_ ?_;(focus(simp));(focus(simp;omega));(focus(simp[Act.eval]));(focus(simp[Act.eval]));(intro w5 Iq hg5;(have LG:=Lib.hid Iq);(have hb5:Below w.heap.size w w5:=hb4.grown hg5 hb4.size BQ);(clear Iq hg5)))|fail)
  go_ret
  refine⟨_,rfl,?_,ay hb5 _⟩
  have h:=LG.out
  rw[hm] at h
  rw[←FX (z:= .agg #[.int .i64 0,.int .i64 0,.int .i64 0]) (x:=x) hlt hm]
  exact h
theorem GJ(v:Value)(xs:List Value)(fid:FuncId)(caps:Array Value)(p:Value→Bool)(w:World)(hsl:Sl w true 3 v xs)(hp:Pred Tryz.prog w none fid caps p xs):
  Calls Tryz.prog 215 #[v,.func (.func fid) #[] caps] w fun e w'=>e=.returned (.int .i64 (idx p xs))∧Below w.heap.size w w':=by
 obtain⟨hsz,a,cap,rfl,hl,hm,hform⟩:=hsl
 unfold maxLen at hm
 have hlen:xs.length≤9223372036854775807:=ah
 go_enter Tryz.func215,Tryz.ntmps215
 go_wp2_with fail
 go_loopw [8] (fun t wr=>∃i:Nat,i≤xs.length∧t=.int .i64 i∧Below w.heap.size w wr∧∀j y,j<i→xs[j]?=some y→p y=false) (fun t _=>xs.length-(intOf t).toNat)
 case atStart=>exact⟨0,Nat.zero_le _,rfl,Below.refl _ _,tF⟩
 case round=>
  obtain⟨i,hi,rfl,hbw,fG⟩:=hrel
  have HP:=Lib.hid fG
  clear fG
  by_cases hlt:i<xs.length
  ·obtain⟨x,hx⟩:∃x,xs[i]?=some x:=⟨_,List.getElem?_eq_getElem hlt⟩
   have hmem:x∈xs:=List.mem_of_getElem? hx
   have HV:=Lib.hid (hsz _ hmem)
   obtain⟨b,off,rfl,hb,hcell⟩:∃b off,a=some ⟨b,off,none⟩∧b<w.heap.size∧Cells wr b (off+i*3) x.cells.toList:=yx
   have HX:=Lib.hid hx
   have nu:=Lib.hid hcell
   clear hx hcell hform hsz
   have hcall:=hp.asks wr (ay hbw none) _ hmem
   have hbody:=hp.body
   unfold Body at hbody
   have HC:=Lib.hid hcall
   clear hcall hp
   cases hpx:p x
   ·have uG:=Lib.hid hpx
    rw[hpx] at HC
    clear hpx
    go_wp2_with(first|(refine aO rfl 164 _ rfl b (off+i*3) bT x jy HV.out nu.out ?_)|fail)
    exact Hr
   ·have uG:=Lib.hid hpx
    rw[hpx] at HC
    clear hpx
    go_wp2_with(first|(refine aO rfl 164 _ rfl b (off+i*3) bT x jy HV.out nu.out ?_)|fail)
    exact yA
  ·exact yB
def aht(x:Value):Prop:=∃(fa fb fc:Int),x=.agg #[.int .i64 fa,.int .i64 fb,.int .i64 fc]
theorem D9(v:Value)(xs:List Value)(fid:FuncId)(caps:Array Value)(p:Value→Bool)(w:World)(base:Nat)(hform:∀x∈xs,aht x)(ho:bB w base 164 true 3 v xs)(hp:Pred Tryz.prog w v.ownBlock fid caps p xs):
  Calls Tryz.prog 209 #[v,.func (.func fid) #[] caps] w fun e w'=>∃v',e=.returned v'∧Sl w' true 3 v' (xs.filter fun x=>!p x)∧v'.ownBlock=v.ownBlock∧w.grownBy w' v.ownBlock:=by
 have hI:=GJ v xs fid caps p w ho.sl ⟨hp.body,fun w' hg x hx=>hp.asks w' ⟨hg.os,hg.tape,hg.output,hg.size,fun b hb _=>hg.block b hb aI⟩ x hx⟩
 rcases jH p xs with⟨hi,hall⟩|⟨i0,x0,hi,hx0,Hw,fG⟩
 ·rw[hi] at hI
  have HF:=Lib.hid (show xs.filter (fun x=>!p x)=xs from List.filter_eq_self.2 (fun x hx=>EX))
  have HO:=Lib.hid ho
  clear hp ho hall
  go_enter Tryz.func209,Tryz.ntmps209
  exact Mi
 ·rw[hi] at hI
  have aby:i0<xs.length:=(List.getElem?_eq_some_iff.1 hx0).1
  obtain⟨g,cap,rfl,hlc,hcm,hbg,hgw,hfz,_⟩:=ho.form ah
  have hlen:xs.length≤9223372036854775807:=E5
  have Ip:(Value.slice (some ⟨g,0,none⟩) xs.length cap).ownBlock=some g:=rfl
  rw[Ip] at hp⊢
  obtain⟨i1,hi0,hq0,hq1,hq2⟩:=info_parts xI
  have hzv:∀w,(zeroValue 164).run Tryz.prog w=.ok (.agg #[.int .i64 0,.int .i64 0,.int .i64 0]) w:=fun w=>by simp[zeroValue,typeInfo,hi0,hq0]
  have HZV:=Lib.hid hzv
  clear hi0 hq0 hq1 hq2 hzv hfz
  have R_:=Lib.hid ho
  have TW:=Lib.hid hp
  have hbody:=hp.body
  unfold Body at hbody
  have zS:xs.take i0=(xs.take (i0+1)).filter (fun x=>!p x):=Mj
  have BD:=Lib.hid zS
  have abt:IntKind.i64.wrap ((i0:Int)+1)=i0+1:=IntWalk.i64_in _ ah
  have hne1:((i0:Int)==-1)=false:=mF
  clear ho hp fG zS hx0 Hw
  go_enter Tryz.func209,Tryz.ntmps209
  go_wp2_with fail
  with_reducible refine hI.mono ?_
  rintro e w1 ⟨rfl,hb1⟩
  have hz1:=hb1.size
  go_wp2_with fail
  go_loopw [5,6] (fun u t W=>∃(i j:Nat) (zs:List Value),i<j∧j≤xs.length∧u=.int .i64 i∧t=.int .i64 j∧zs.length=xs.length∧bB W base 164 true 3 (.slice (some ⟨g,0,none⟩) xs.length cap) zs∧w.grownBy W (some g)∧
   zs.take i=(xs.take j).filter (fun x=>!p x)∧∀r,j≤r→zs[r]?=xs[r]?) (fun _ t _=>xs.length-(intOf t).toNat)
  case atStart=>exact⟨i0,i0+1,xs,ah,ah,rfl,bI,rfl,R_.out.kept hb1,ay hb1 _,BD.out,fun _ _=>rfl⟩
  case round=>
   obtain⟨i,j,zs,hij,hj,rfl,rfl,hzl,how,hgw,htk,hdr⟩:=hrel
   have HO:=Lib.hid how
   have Xd:=Lib.hid hzl
   have G8:=Lib.hid htk
   have HDR:=Lib.hid hdr
   have HG:=Lib.hid hgw
   clear how hzl htk hdr hgw
   by_cases hlt:j<xs.length
   ·obtain⟨x,hx⟩:∃x,xs[j]?=some x:=⟨_,List.getElem?_eq_getElem hlt⟩
    have hzx:zs[j]?=some x:=(HDR.out j (Nat.le_refl _)).trans hx
    obtain⟨b',off',CU,hblt,hcell⟩:=HO.out.sl.at hzx
    simp only[Option.some.injEq,Addr.mk.injEq,and_true] at CU
    obtain⟨rfl,rfl⟩:=CU
    rw[Nat.zero_add] at hcell
    have nu:=Lib.hid hcell
    have HV:=Lib.hid (HO.out.val x (List.mem_of_getElem? hzx))
    have HC:=Lib.hid (fun W h=>TW.out.asks W h x (List.mem_of_getElem? hx))
    obtain⟨fa,fb,fc,rfl⟩:=hform x (List.mem_of_getElem? hx)
    have HX:=Lib.hid hx
    have hwj:IntKind.i64.wrap ((j:Int)+1)=j+1:=IntWalk.i64_in _ ah
    have hwi:IntKind.i64.wrap ((i:Int)+1)=i+1:=IntWalk.i64_in _ ah
    clear hx hzx hcell
    cases hpx:p (.agg #[.int .i64 fa,.int .i64 fb,.int .i64 fc])
    ·have uG:=Lib.hid hpx
     rw[hpx] at HC
     clear hpx
     have tX:i<zs.length:=tH
     go_wp2_with(first|(refine aO rfl 164 _ rfl g (j*3) bT (.agg #[.int .i64 fa,.int .i64 fb,.int .i64 fc]) jy HV.out nu.out ?_)|((with_reducible refine(HC.out _ ?_).mono ?_);(focus exact aA HG.out (World.grownBy_alloc _ _ _));rintro e w2 ⟨rfl,hb2⟩;(have hz2:=hb2.size);(simp only[World.size_alloc] at hz2);(have hb2':Below wr.heap.size wr w2:=((Below.refl wr.heap.size wr).alloc (Nat.le_refl _) _).trans (hb2.mono cZ));(have lV:=Lib.hid (HO.out.kept hb2'));(have qU:aC w2 wr.heap.size #[.int .i64 fa,.int .i64 fb,.int .i64 fc] 164:=aC.below (aC.new wr _ _) hb2 cZ);(obtain⟨hcx,hfx,hlx,hnx,hmx⟩:=qU.rules);(clear qU))|(refine dw (base:=base) rfl _ _ rfl jy g xs.length cap lV.out i tX ?_ (.agg #[.int .i64 fa,.int .i64 fb,.int .i64 fc]) ?_ HV.out ?_;(focus(simp[Act.eval]));(focus(simp[Act.eval]));(intro w3 ho3 hg3;(have r_:=Lib.hid ho3);(have hg3':=aA HG.out (aA (ay hb2' (some g)) hg3));(have zO:=Lib.hid hg3');clear ho3 hg3 hg3'))|fail)
     go_roundw
     case rel=>
      refine⟨i+1,j+1,_,ah,ah,bI,bI,?_,r_.out,zO.out,?_,?_⟩
      ·exact Fp
      ·rw[eH HX.out,List.filter_append,←G8.out,eH (i:=i) (x:= .agg #[.int .i64 fa,.int .i64 fb,.int .i64 fc]) E9,List.take_set_of_le (Nat.le_refl _)]
       simp[uG.out]
      ·exact Mg
     case measure=>simp[intOf];omega
    ·have uG:=Lib.hid hpx
     rw[hpx] at HC
     clear hpx
     go_wp2_with(first|(refine aO rfl 164 _ rfl g (j*3) bT (.agg #[.int .i64 fa,.int .i64 fb,.int .i64 fc]) jy HV.out nu.out ?_)|((with_reducible refine(HC.out _ ?_).mono ?_);(focus exact aA HG.out (World.grownBy_alloc _ _ _));rintro e w2 ⟨rfl,hb2⟩;(have hz2:=hb2.size);(simp only[World.size_alloc] at hz2);(have hb2':Below wr.heap.size wr w2:=((Below.refl wr.heap.size wr).alloc (Nat.le_refl _) _).trans (hb2.mono cZ));(have lV:=Lib.hid (HO.out.kept hb2'));(have qU:aC w2 wr.heap.size #[.int .i64 fa,.int .i64 fb,.int .i64 fc] 164:=aC.below (aC.new wr _ _) hb2 cZ);(obtain⟨hcx,hfx,hlx,hnx,hmx⟩:=qU.rules);(clear qU))|fail)
     exact Sr
   ·have hjl:j=xs.length:=by omega
    subst hjl
    have tX:i<zs.length:=tH
    have hsub:zs.length-i=xs.length-i:=ER
    go_wp2_with(first|(refine kG (base:=base) rfl _ 49 rfl jy Tryz.underlying49 HZV.out IW g xs.length cap (cap-i) HO.out i tX ?_ ?_;(focus(rw[hsub];simp[Act.eval]));(intro w3 ho3 hg3;(have r_:=Lib.hid ho3);(have zO:=Lib.hid (aA HG.out hg3));clear ho3 hg3))|fail)
    exact Mh
end Go.Proofs.YtgmodehldmahiaaGreatDoor.Heap
namespace Go.Proofs.YtgmodehldmahiaaGreatDoor.Heap
open Go Go.RowKit Go.Tm
open Classical in
noncomputable def yZ(size:Int)(l:List Sp):Bool:=decide (qA size l)
theorem sS{size:Int}{l:List Sp}(h:qA size l):yZ size l=true:=by unfold yZ;simp[h]
theorem jN{size:Int}{l:List Sp}(h:¬qA size l):yZ size l=false:=by unfold yZ;simp[h]
theorem M0{size a:Int}{l:List Sp}(h:rightG size a l){i:Nat}{x:Sp}(hx:l[i]?=some x):mE a (l.take i)≤x.1∧1≤x.2.1∧x.2.1≤size∧x.1≤size-x.2.1:=by
 have h1:=Dv h (i+1)
 rw[eH hx,Dw] at h1
 exact h1.2
theorem Q0{size a:Int}{l:List Sp}{i:Nat}{x:Sp}(hx:l[i]?=some x)(h:rightG size a (l.take i))(h1:mE a (l.take i)≤x.1)(h2:1≤x.2.1)(h3:x.2.1≤size)(h4:x.1≤size-x.2.1):rightG size a (l.take (i+1)):=by
 rw[eH hx,Dw]
 exact⟨h,h1,h2,h3,h4⟩
theorem Nj{a:Int}{l:List Sp}{i:Nat}{x:Sp}(hx:l[i]?=some x):mE a (l.take (i+1))=x.1+x.2.1:=by
 rw[eH hx,Wi]
theorem Vb(size:Int)(v:Value)(l:List Sp)(w:World)(hv:Sl w true 3 v (nV l))(hs:(Lit.int .i64 size).wf=true)(hw:∀x∈l,Po x):
  Calls Tryz.prog 96 #[.agg #[.int .i64 size,v]] w fun e w'=>e=.returned (.bool (yZ size l))∧Below w.heap.size w w':=by
 have HV:=Lib.hid hv
 have HW:=Lib.hid hw
 have hsz:-9223372036854775808≤size∧size≤9223372036854775807:=adC
 obtain⟨a,cap,rfl,hl⟩:=hv.shape
 rw[lF] at hl HV⊢
 clear hv hw hs
 go_enter Tryz.func96,Tryz.ntmps96
 go_wp2_with fail
 go_loopw [3,9] (fun m t W=>∃i:Nat,i≤l.length∧t=.int .i64 i∧m=.int .i64 (mE 0 (l.take i))∧Below w.heap.size w W∧aC W w.heap.size #[.int .i64 size,.slice a l.length cap] 51∧rightG size 0 (l.take i)∧(0<i→0≤size)) (fun _ t _=>l.length-(intOf t).toNat)
 case atStart=>exact⟨0,Nat.zero_le _,rfl,rfl,aD,aC.new _ _ _,trivial,ah⟩
 case round=>
  obtain⟨i,hi,rfl,rfl,hbw,hbx,hrt,hnn⟩:=hrel
  have hws:=hbw.size
  obtain⟨hc1,hf1,hl1,hn1,hm1⟩:=hbx.rules
  have KB:=Lib.hid hbx
  have HR:=Lib.hid hrt
  clear hbx hrt
  by_cases hlt:i<l.length
  ·obtain⟨x,hx⟩:∃x,l[i]?=some x:=⟨_,List.getElem?_eq_getElem hlt⟩
   have hwx:=HW.out x (List.mem_of_getElem? hx)
   obtain⟨b,off,rfl,hb,c0,c1,c2⟩:=Sl.sp (HV.out.below hbw) hx
   have hwr:IntKind.i64.wrap ((i:Int)+1)=i+1:=IntWalk.i64_in _ ah
   have HX:=Lib.hid hx
   have HE:=Lib.hid (Nj (a:=0) hx)
   have hle:0≤mE 0 (l.take i):=by
    by_cases h0:0<i
    ·exact(nH HR.out (hnn h0)).1
    ·have:i=0:=by omega
     subst this;simp[mE]
   clear hx
   obtain⟨p,n,u⟩:=x
   simp only[Po,Lit.wf,IntKind.min,IntKind.max,IntKind.bits,IntKind.signed] at hwx
   have hp2:-9223372036854775808≤p∧p≤9223372036854775807∧-9223372036854775808≤n∧n≤9223372036854775807:=by
    simp at hwx;omega
   dsimp only at c0 c1 c2
   clear hwx
   generalize hat:mE 0 (l.take i)=at0 at*
   have hcase:p<at0∨(¬p<at0∧n<1)∨(¬p<at0∧¬n<1∧size<n)∨(¬p<at0∧¬n<1∧¬size<n∧size-n<p)∨(¬p<at0∧¬n<1∧¬size<n∧¬size-n<p):=ah
   have HAT:=Lib.hid hat
   clear hat
   rcases hcase with h1|⟨h1,h2⟩|⟨h1,h2,h3⟩|⟨h1,h2,h3,h4⟩|⟨h1,h2,h3,h4⟩
   ·
    have HN:=Lib.hid (jN (size:=size) (l:=l) (fun h=>Sj))
    go_wp2_with fail
    go_ret
    exact⟨JL,aD⟩
   ·
    have HN:=Lib.hid (jN (size:=size) (l:=l) (fun h=>Sj))
    go_wp2_with fail
    go_ret
    exact⟨JL,aD⟩
   ·
    have HN:=Lib.hid (jN (size:=size) (l:=l) (fun h=>Sj))
    go_wp2_with fail
    go_ret
    exact⟨JL,aD⟩
   ·have hsub:IntKind.i64.wrap (size-n)=size-n:=IntWalk.i64_in _ ah
    have HN:=Lib.hid (jN (size:=size) (l:=l) (fun h=>Sj))
    go_wp2_with fail
    go_ret
    exact⟨JL,aD⟩
   ·have hsub:IntKind.i64.wrap (size-n)=size-n:=IntWalk.i64_in _ ah
    have hsum:IntKind.i64.wrap (p+n)=p+n:=IntWalk.i64_in _ ah
    have HRN:=Lib.hid (Q0 HX.out HR.out (by rw[HAT.out];dsimp only;omega) lq lq lq)
    go_wp2_with fail
    go_roundw
    case rel=>exact⟨i+1,ah,bI,by rw[HE.out],aD,KB.out.alloc _,HRN.out,ah⟩
    case measure=>simp[intOf];omega
  ·obtain rfl:i=l.length:=by omega
   rw[List.take_length] at HR
   have hsb:yZ size l=decide (0≤size):=by
    by_cases h0:0≤size
    ·rw[sS ⟨HR.out,h0⟩];simp[h0]
    ·rw[jN (fun h=>h0 h.2)];simp[h0]
   have HSB:=Lib.hid hsb
   clear hsb
   go_wp2_with fail
   go_ret
   exact⟨by rw[HSB.out];simp,hbw⟩
end Go.Proofs.YtgmodehldmahiaaGreatDoor.Heap
namespace Go.Proofs.YtgmodehldmahiaaGreatDoor.Heap
open Go Go.RowKit Go.Tm
theorem aco(size:Int)(w:World):Calls Tryz.prog 72 #[.int .i64 size] w fun e w'=>
  e=.returned (.tuple #[.agg #[.int .i64 (if size<0 then 0 else size),.slice none 0 0],.int .i64 (if size<0 then 1 else 0)])∧Below w.heap.size w w':=by
 by_cases h:size<0
 ·rw[if_pos h,if_pos h]
  go_enter Tryz.func72,Tryz.ntmps72
  go_wp2_with fail
  exact bodyPost_ret (v:= .tuple #[.agg #[.int .i64 0,.slice none 0 0],.int .i64 1]) (by simp[results,Tryz.results72,go_sem]) rfl ⟨rfl,aD⟩
 ·rw[if_neg h,if_neg h]
  go_enter Tryz.func72,Tryz.ntmps72
  go_wp2_with fail
  exact bodyPost_ret (v:= .tuple #[.agg #[.int .i64 size,.slice none 0 0],.int .i64 0]) (by simp[results,Tryz.results72,go_sem]) rfl ⟨rfl,aD⟩
def Ep(who:Int):Value→Bool:=fun v=>match v with|.agg cs=>(match cs.toList with|[_,_,.int _ n]=>decide (n=who)|_=>false)|_=>false
theorem SL(who:Int)(x:Sp):Ep who (GV x)=decide (x.2.2=who):=rfl
theorem pJ:Body Tryz.prog 183:=eZ Tryz.func183 aj aj
theorem qW(x:Sp)(who:Int)(B:Nat)(w:World)(hB:B<w.heap.size)(hc0:w.cell? ⟨B,0,none⟩=some (.int .i64 who)):
  Calls Tryz.prog 183 #[GV x,.pointer (some ⟨B,0,none⟩)] w fun e w'=>e=.returned (.bool (Ep who (GV x)))∧Below w.heap.size w w':=by
 rw[SL]
 have hne:¬B=w.heap.size:=ah
 obtain⟨p,n,u⟩:=x
 dsimp only
 by_cases h:u=who
 ·have hb:(u==who)=true:=by simpa using h
  go_enter Tryz.func183,Tryz.ntmps183
  exact oO
 ·have hb:(u==who)=false:=by simpa using h
  go_enter Tryz.func183,Tryz.ntmps183
  exact oO
theorem uo{f:FuncId}{q:Value→Bool}(hbody:Body Tryz.prog f)(n:Int)(l:List Sp)(B:Nat)(w:World)(hB:B<w.heap.size)(hc0:w.cell? ⟨B,0,none⟩=some (.int .i64 n))(g:Option Nat)(hg:some B≠g)
  (h:∀(x:Sp) (w':World),B<w'.heap.size→w'.cell? ⟨B,0,none⟩=some (.int .i64 n)→Calls Tryz.prog f #[GV x,.pointer (some ⟨B,0,none⟩)] w' fun e w''=>e=.returned (.bool (q (GV x)))∧Below w'.heap.size w' w''):
  Pred Tryz.prog w g f #[.pointer (some ⟨B,0,none⟩)] q (nV l):=
 ⟨hbody,fun w' hw x hm=>by
  obtain⟨n,_,rfl⟩:=List.mem_map.1 hm
  exact h n w' (Nat.lt_of_lt_of_le hB hw.size) ((World.cell?_of_block (a:=⟨B,0,none⟩) (hw.block B hB hg)).trans hc0)⟩
def gM(l:List Sp)(who:Int):List Sp:=l.filter fun x=>!decide (x.2.2=who)
theorem Jm(l:List Sp)(who:Int):(nV l).filter (fun x=>!Ep who x)=nV (gM l who):=by
 unfold gM
 induction l with
 |nil=>rfl
 |cons x r ih=>
  rw[nV,List.map_cons,List.filter_cons,List.filter_cons,SL]
  rw[nV] at ih
  split
  ·rw[ih];rfl
  ·rw[ih]
theorem Dp(v:Value)(l:List Sp)(fid:FuncId)(B:Nat)(n:Int)(q:Value→Bool)(w:World)(hv:Sl w true 3 v (nV l))(hby:l.length*24≤140737488355328)(hbody:Body Tryz.prog fid)(hB:B<w.heap.size)(hc0:w.cell? ⟨B,0,none⟩=some (.int .i64 n))
  (h:∀(x:Sp) (w':World),B<w'.heap.size→w'.cell? ⟨B,0,none⟩=some (.int .i64 n)→Calls Tryz.prog fid #[GV x,.pointer (some ⟨B,0,none⟩)] w' fun e w''=>e=.returned (.bool (q (GV x)))∧Below w'.heap.size w' w''):
  Calls Tryz.prog 182 #[v,.func (.func fid) #[] #[.pointer (some ⟨B,0,none⟩)]] w fun e w'=>∃v',e=.returned v'∧Sl w' true 3 v' ((nV l).filter fun x=>!q x)∧(∀b,v'.ownBlock=some b→w.heap.size≤b)∧Below w.heap.size w w':=by
 have HV:=Lib.hid hv
 have HH:=Lib.hid h
 clear hv h
 go_enter Tryz.func182,Tryz.ntmps182
 go_wp2_with fail
 with_reducible refine(vw v (nV l) _ HV.out (by rw[lF];exact hby)).mono ?_
 rintro e w2 ⟨v2,rfl,ho2,hb2⟩
 have hz2:=hb2.size
 have hB2:some B≠v2.ownBlock:=fun h=>by have:=ho2.fP _ h.symm;omega
 have HD:=Lib.hid (D9 v2 (nV l) fid #[.pointer (some ⟨B,0,none⟩)] q w2 w.heap.size (fun x hx=>by obtain⟨a,_,rfl⟩:=List.mem_map.1 hx;exact⟨_,_,_,rfl⟩) ho2 (uo hbody n l B w2 ah ((hb2.cell (p:=⟨B,0,none⟩) hB).trans hc0) v2.ownBlock hB2 HH.out))
 have lV:=Lib.hid ho2
 clear ho2 hc0
 go_wp2_with fail
 with_reducible refine HD.out.mono ?_
 rintro e w4 ⟨v4,rfl,hs4,hv4,hg4⟩
 have G9:=Lib.hid hs4
 have HV4:=Lib.hid hv4
 have hb4:Below w.heap.size w w4:=lV.out.below hg4 hb2 (Nat.le_refl _) ah
 clear hs4 hg4 hv4
 go_wp2_with fail
 go_ret
 exact⟨_,rfl,G9.out,fun b hb=>lV.out.fP b (HV4.out▸hb),hb4⟩
theorem AZ(size:Int)(v:Value)(l:List Sp)(who:Int)(w:World)(hv:Sl w true 3 v (nV l))(hby:l.length*24≤140737488355328):
  Calls Tryz.prog 150 #[.agg #[.int .i64 size,v],.int .i64 who] w fun e w'=>∃v',e=.returned (.agg #[.int .i64 size,v'])∧Sl w' true 3 v' (nV (gM l who))∧Below w.heap.size w w':=by
 have HV:=Lib.hid hv
 have HE:=Lib.hid (Jm l who)
 have HWO:=Lib.hid (fun W h hB hc=>Dp v l 183 (w.heap.size+1) who (Ep who) W h hby pJ hB hc (fun x w'=>qW x who (w.heap.size+1) w'))
 clear hv
 go_enter Tryz.func150,Tryz.ntmps150
 go_wp2_with fail
 with_reducible refine(HWO.out _ (HV.out.below ?_) ?_ ?_).mono ?_
 focus exact bl
 focus(simp only[World.size_alloc];omega)
 focus exact((aC.new1 (w.alloc (.cells #[.int .i64 size,v] 51)) #[.int .i64 who] 3 (n:=w.heap.size+1) aI).alloc _).rules.1 0
 rintro e w4 ⟨v4,rfl,hs4,hg4,hb4⟩
 simp only[World.size_alloc] at hg4
 have Iz:=Lib.hid hg4
 have vT:=hb4.size
 simp only[World.size_alloc] at vT
 have bx1:aC w4 w.heap.size #[.int .i64 size,v] 51:=(((aC.new _ _ _).alloc _).alloc _).below hb4 cZ
 have OP:aC w4 (w.heap.size+1+1) #[.int .i64 0,.slice none 0 0] 51:=aC.below (aC.new1 _ _ _ aI) hb4 cZ
 have hbw:Below w.heap.size w w4:=aD
 rw[HE.out] at hs4
 obtain⟨c1,f1,l1,n1,m1⟩:=bx1.rules
 obtain⟨c3,f3,l3,n3,m3⟩:=OP.rules
 have G9:=Lib.hid hs4
 obtain⟨a4,cap4,rfl,_⟩:=hs4.shape
 rw[lF] at G9 Iz⊢
 clear hs4 bx1 OP hb4 hg4
 go_wp2_with fail
 refine bodyPost_ret (v:= .agg #[.int .i64 size,.slice a4 (gM l who).length cap4]) YV rfl ⟨_,rfl,?_,aD⟩
 exact(((G9.out.setOther (.inr fun b hb=>yR) _ _).setOther (.inr fun b hb=>yR) _ _).setOther (.inr fun b hb=>yR) _ _)
end Go.Proofs.YtgmodehldmahiaaGreatDoor.Heap
namespace Go.Proofs.YtgmodehldmahiaaGreatDoor.Heap
open Go Go.RowKit Go.Tm
def uN(B b:Nat)(X:World):Prop:=b=B∨∃v,X.cell? ⟨B,0,none⟩=some v∧v.ownBlock=some b
def iy(B:Nat)(X Y:World):Prop:=Below B X Y∧B<X.heap.size∧(∀b o,X.heap[b]?=some o→o.isCells=true→¬uN B b X→Y.heap[b]?=some o∧¬uN B b Y)∧((∀b,uN B b X→b<X.heap.size)→∀b,uN B b Y→b<Y.heap.size)
theorem iy.trans{B:Nat}{X Y Z:World}(h:iy B X Y)(k:iy B Y Z):iy B X Z:=
 ⟨h.1.trans k.1,h.2.1,fun b o h1 h2 h3=>by
  obtain⟨h4,h5⟩:=h.2.2.1 b o h1 h2 h3
  exact k.2.2.1 b o h4 h2 h5,fun h1=>k.2.2.2 (h.2.2.2 h1)⟩
theorem uN.same{B b:Nat}{X Y:World}(h:Y.heap[B]?=X.heap[B]?)(k:uN B b Y):uN B b X:=by
 rcases k with rfl|⟨v,hv,ho⟩
 ·exact .inl rfl
 ·exact .inr ⟨v,by rw[←hv];exact(World.cell?_of_block h).symm,ho⟩
theorem iy.of{B:Nat}{X Y:World}(h:Below X.heap.size X Y)(hB:B<X.heap.size):iy B X Y:=
 ⟨h.mono (Nat.le_of_lt hB),hB,fun b o h1 h2 h3=>⟨(h.block b (Array.getElem?_eq_some_iff.1 h1).1).trans h1,fun k=>h3 (k.same (h.block B hB))⟩,fun h1 b k=>Nat.lt_of_lt_of_le (h1 b (k.same (h.block B hB))) h.size⟩
theorem iy.refl{B:Nat}{X:World}(hB:B<X.heap.size):iy B X X:= .of (Below.refl _ _) hB
theorem iy.size{B:Nat}{X Y:World}(h:iy B X Y):X.heap.size≤Y.heap.size:=by
 exact h.1.size
theorem iy.putObj{B:Nat}{n:Nat}(hB:B<n)(W:World)(l:Nat)(o o':Obj)(hl:n≤l)(h:W.heap[l]?=some o)(hc:o.isCells=false)(_:o.isWalk=false):iy B W (W.putObj l o'):=by
 have hlt:=(Array.getElem?_eq_some_iff.1 h).1
 have hne:∀b,b≠l→(W.putObj l o').heap[b]?=W.heap[b]?:=fun b hb=>World.putObj_heap_other (by first|exact hb|exact Ne.symm hb|omega)
 refine⟨(Below.refl B W).grown (grownBy_putObj' W l o') ah (fun k e=>by cases e;omega),ah,fun b ob h1 h2 h3=>?_,fun h1 b k=>Nat.lt_of_lt_of_le (h1 b (k.same (hne B ah))) (grownBy_putObj' W l o').size⟩
 have hbl:b≠l:=by
  rintro rfl
  rw[h] at h1
  cases h1
  rw[hc] at h2
  cases h2
 exact⟨(hne b hbl).trans h1,fun k=>h3 (k.same (hne B ah))⟩
theorem iy.box{B b:Nat}{X Y:World}{cs:Array Value}{t:TypeId}(h:iy B X Y)(hb:aC X b cs t)(hn:¬uN B b X):aC Y b cs t:=(h.2.2.1 b _ hb rfl hn).1
theorem uN.lt{B b:Nat}{X:World}{cs:Array Value}{t:TypeId}(hb:aC X B cs t){v:Value}(hv:cs[0]?=some v)(ho:v.ownBlock=none)(h:uN B b X):b=B:=by
 rcases h with rfl|⟨u,hu,ho'⟩
 ·rfl
 ·have:=hb.rules.1 0
  rw[hu,hv] at this
  cases this
  rw[ho] at ho'
  cases ho'
theorem iy.set{B:Nat}{X:World}{cs:Array Value}{t:TypeId}(hb:aC X B cs t)(h0:0<cs.size)(v:Value)(ho:v.ownBlock=none):iy B X (X.setCell ⟨B,0,none⟩ v):=by
 refine⟨(Below.refl B X).setCell (p:=⟨B,0,none⟩) (Nat.le_refl _) _,hb.lt,fun b o h1 h2 h3=>?_,fun _ b k=>?_⟩
 ·have hbB:¬b=B:=fun e=>h3 (.inl e)
  refine⟨(heap_setCell_other _ _ _ _ (by exact hbB)).trans h1,fun k=>h3 (.inl ?_)⟩
  have hs:=hb.set 0 v
  refine uN.lt hs (v:=v) ?_ ho k
  simp[h0]
 ·have hs:=hb.set 0 v
  have:=uN.lt hs (v:=v) (by simp[h0]) ho k
  subst this
  exact hs.lt
theorem Sl.kept{w X Y:World}{B:Nat}{ag:Bool}{k:Nat}{v:Value}{xs:List Value}(h:Sl w ag k v xs)(hB:w.heap.size≤B)(hX:Below w.heap.size w X)(hK:iy B X Y):Sl Y ag k v xs:=h.below (hX.trans (hK.1.mono hB))
end Go.Proofs.YtgmodehldmahiaaGreatDoor.Heap
namespace Go.Proofs.YtgmodehldmahiaaGreatDoor.Heap
open Go Go.RowKit Go.Tm
theorem Oh{N:Nat}{w X:World}(h:Below N w X):Below N w.drew X:=⟨h.os,h.tape,h.output,h.size,h.block⟩
theorem Np(v:Value)(xs:List Value)(w:World)(hv:Sl w true 3 v xs):Calls Tryz.prog 127 #[v] w fun e w'=>(∃ao,e=.returned (.slice ao xs.length xs.length)∧Sl w true 3 (.slice ao xs.length xs.length) xs)∧w=w':=by
 obtain⟨ao,hr,hs⟩:=Sl.um (m:=xs.length) jy Tryz.underlying49 hv (xs.length:Int) rfl (Nat.le_refl _)
 rw[List.take_length] at hs
 obtain⟨a,cap,rfl,hl⟩:=hv.shape
 have HS:=Lib.hid hs
 clear hs hv
 go_enter Tryz.func127,Tryz.ntmps127
 exact Sq
attribute [local go_sem] Oper.semAt_some
theorem VY(size:Int)(v:Value)(w:World):Calls Tryz.prog 97 #[.agg #[.int .i64 size,v]] w fun e w'=>
  e=.returned (.func (.func 126) #[] #[.pointer (some ⟨w.heap.size,0,none⟩)])∧w'=w.alloc (.cells #[.int .i64 size,v] 51):=by
 go_enter Tryz.func97,Tryz.ntmps97
 go_wp2_with fail
 go_ret
 exact⟨rfl,rfl⟩
theorem aaO{size:Int}{l:List Sp}(h:qA size l){k:Nat}{x:Sp}(hx:(l++[(size,0,0)])[k]?=some x):
  0≤mE 0 ((l++[(size,0,0)]).take k)∧mE 0 ((l++[(size,0,0)]).take k)≤x.1∧0≤x.2.1∧x.2.1≤size∧x.1+x.2.1≤size:=by
 have hk:=(List.getElem?_eq_some_iff.1 hx).1
 simp only[List.length_append,List.length_cons,List.length_nil] at hk
 have hs:=h.2
 by_cases hlt:k<l.length
 ·rw[List.getElem?_append_left hlt] at hx
  rw[List.take_append_of_le_length ah]
  have h1:=M0 h.1 hx
  have h2:=nH (Dv h.1 k) h.2
  exact⟨h2.1,h1.1,ah,ah,ah⟩
 ·obtain rfl:k=l.length:=by omega
  simp only[List.getElem?_concat_length,Option.some.injEq] at hx
  subst hx
  rw[List.take_left]
  have h2:=nH h.1 h.2
  exact⟨h2.1,h2.2,aI,h.2,aI⟩
theorem Lc(a:Int)(m:List Sp)(k:Nat):jv a (m.take k)<+:jv a m:=by
 conv=>rhs;rw[←List.take_append_drop k m]
 rw[Ij]
 exact List.prefix_append _ _
theorem Rm{a:Int}{m:List Sp}{k:Nat}{x:Sp}(hx:m[k]?=some x):jv a (m.take (k+1))=jv a (m.take k)++hole (mE a (m.take k)) x:=by
 rw[eH hx,NY]
theorem Vs{w:World}{base:Nat}{E:TypeId}{ag:Bool}{k g n cap:Nat}{xs:List Value}(h:bB w base E ag k (.slice (some ⟨g,0,none⟩) n cap) xs)(hne:0<xs.length):∃o,w.heap[g]?=some o∧o.isCells=true:=by
 obtain⟨hr,hv⟩:=h
 obtain⟨hlen,hr⟩:=hr
 rcases hr with⟨h0,_⟩|⟨g',cap',cur,he,hb,hg,h1⟩
 ·cases h0
 ·cases he
  exact⟨_,hg,rfl⟩
set_option maxRecDepth 100000 in
set_option maxHeartbeats 4000000 in
theorem NW(n B B1:Nat)(v:Value)(size:Int)(l:List Sp)(w:World)(hn:1≤n)(hBlt:B<w.heap.size)(Mw:∀b,uN B b w→b=B)(hr:qA size l)(hs:(Lit.int .i64 size).wf=true)(hby:(l.length+1)*24≤140737488355328)(hv:∀W,iy B w W→Sl W true 3 v (nV l))
  (h1:∀W,iy B w W→aC W B1 #[.int .i64 size,v] 51):
  SeqStopsK Fence.wide n Tryz.prog 126 #[.pointer (some ⟨B1,0,none⟩)] (fun x:Sp=>#[GV x]) (iy B) (fun ys=>ys=wO size l) (fun ys=>ys<+:wO size l) (l.length+1) w:=by
 intro l' J Jx W hW0 hJ hJx hY h0
 have hW:iy B w W:= .of hW0 hBlt
 have HV:=Lib.hid hv
 have HB1:=Lib.hid h1
 obtain⟨i0,hi0,hq0,hq1,hq2⟩:=info_parts xI
 have hsz:-9223372036854775808≤size∧size≤9223372036854775807:=adC
 have HI:=Lib.hid (And.intro hi0 (And.intro hq0 (And.intro hq1 hq2)))
 clear hi0 hq0 hq1 hq2
 have HJ:=Lib.hid hJ
 have HY:=Lib.hid hY
 obtain⟨a,cap,rfl,hl⟩:=(hv W hW).shape
 rw[lF] at hl HV HB1
 clear hv hJ hY
 have hx1:aC W B1 #[.int .i64 size,.slice a l.length cap] 51:=HB1.out W hW
 obtain⟨c1,f1,l1,n1,m1⟩:=hx1.rules
 have e0:=c1 0
 have e1:=c1 1
 clear h1
 ((refine callsIn_of_wp Tryz.func126 rfl trivial ?_ rfl);(simp only[Tryz.ntmps126,List.size_toArray,List.length_cons,List.length_nil,Nat.reduceAdd,Nat.reduceSub,Array.replicate_succ,Array.replicate_zero,List.push_toArray,List.append_toArray,List.nil_append,List.cons_append]))
 gi_wp2
 refine wpIn_wide.2 ?_
 have e0':=e0
 have e1':=e1
 simp only[List.getElem?_toArray,List.getElem?_cons_zero,List.getElem?_cons_succ] at e0' e1'
 have HE:=Lib.hid (And.intro e0' e1')
 have hkeep:∀W',Below W.heap.size W W'→W'.cell? ⟨B1,0,none⟩=some (.int .i64 size)∧W'.cell? ⟨B1,1,none⟩=some (.slice a l.length cap)∧Below W.heap.size W W':=fun W' hb=>⟨(hb.cell (p:=⟨B1,0,none⟩) l1).trans HE.out.1,(hb.cell (p:=⟨B1,1,none⟩) l1).trans HE.out.2,hb⟩
 have HKP:=Lib.hid hkeep
 clear hkeep e0 e1 e0' e1' c1 f1
 refine wp_region_held_drew (S:=fun W'=>W'.cell? ⟨B1,0,none⟩=some (.int .i64 size)∧W'.cell? ⟨B1,1,none⟩=some (.slice a l.length cap)∧Below W.heap.size W W') aj (HKP.out _ (Below.refl _ _).drew) (fun hHeld=>?_)
 ((refine wpAnyH_take (i:=0) (oi:=⟨some 6,_,_,_,_,_⟩) (v:=?_) rfl aj aj aj (fun _ _ _ h=>h) (Or.inl ⟨aF,?_⟩) aZ ?_);rotate_left;(focus((intro w hSw);(try dsimp only at hSw);go_simp;(try with_reducible rfl)));(try simp only[pt]))
 ((refine wpAnyH_take (i:=1) (oi:=⟨some 7,_,_,_,_,_⟩) (v:=?_) rfl aj aj aj (fun _ _ _ h=>h) (Or.inl ⟨aF,?_⟩) aZ ?_);rotate_left;(focus((intro w hSw);(try dsimp only at hSw);go_simp;(try with_reducible rfl)));(try simp only[pt]))
 ((refine wpAnyH_take (i:=3) (oi:=⟨some 9,_,_,_,_,_⟩) (v:=?_) rfl aj aj aj (fun _ _ _ h=>h) (Or.inl ⟨aF,?_⟩) aZ ?_);rotate_left;(focus((intro w hSw);(try dsimp only at hSw);go_simp;(try with_reducible rfl)));(try simp only[pt]))
 ((refine wpAnyH_take (i:=4) (oi:=⟨some 10,_,_,_,_,_⟩) (v:=?_) rfl aj aj aj (fun _ _ _ h=>h) (Or.inl ⟨aF,?_⟩) aZ ?_);rotate_left;(focus((intro w hSw);(try dsimp only at hSw);go_simp;(try with_reducible rfl)));(try simp only[pt]))
 ((refine wpAnyH_take (i:=5) (oi:=⟨some 11,_,_,_,_,_⟩) (v:=?_) rfl aj aj aj (fun _ _ _ h=>h) (Or.inl ⟨aF,?_⟩) aZ ?_);rotate_left;(focus((intro w hSw);(try dsimp only at hSw);go_simp;(try with_reducible rfl)));(try simp only[pt]))
 ((refine wpAnyH_take (i:=9) (oi:=⟨some 15,_,_,_,_,_⟩) (v:=?_) rfl aj aj aj (fun _ _ _ h=>h) (Or.inl ⟨aF,?_⟩) aZ ?_);rotate_left;(focus((intro w hSw);(try dsimp only at hSw);go_simp;(try with_reducible rfl)));(try simp only[pt]))
 refine wpAnyH_ready (rs:=[2,6]) aj aI ?_
 refine AllReadyH.cons (o:=⟨some 8,_,_,_,_,_⟩) rfl (fun K hK=>?_) (AllReadyH.cons (o:=⟨some 12,_,_,_,_,_⟩) rfl (fun K hK=>?_) AllReadyH.nil)
 ·go_simp
  with_reducible refine(Np _ (nV l) _ ((HV.out W hW).below (Below.refl _ _).drew)).mono ?_
  rintro en w2 ⟨⟨ao,rfl,DK⟩,rfl⟩
  have HC0:=Lib.hid DK
  clear DK
  dsimp only
  refine hK.out _ _ (HKP.out _ (Below.refl _ _).drew) (fun hHeld=>?_)
  clear hK K
  (try simp only[pt])
  refine wpAnyH_ready (rs:=[6]) aj aI ?_
  refine AllReadyH.cons (o:=⟨some 12,_,_,_,_,_⟩) rfl (fun K hK=>?_) AllReadyH.nil
  go_simp
  refine hK.out _ _ (HKP.out _ ((Below.refl _ _).alloc (Nat.le_refl _) _).drew) (fun hHeld=>?_)
  clear hK K
  (try simp only[pt])
  have HC:=Lib.hid (show Sl (W.alloc (.cells #[.int .i64 size,.int .i64 0,.int .i64 0] 164)).drew true 3 (.slice ao (nV l).length (nV l).length) (nV l) from HC0.out.below (show Below W.heap.size W.drew _ from Oh ((Below.refl W.heap.size W).alloc (Nat.le_refl _) _).drew))
  exact ahw
 ·go_simp
  refine hK.out _ _ (HKP.out _ ((Below.refl W.heap.size W).alloc (Nat.le_refl _) _).drew) (fun hHeld=>?_)
  clear hK K
  (try simp only[pt])
  refine wpAnyH_ready (rs:=[2]) aj aI ?_
  refine AllReadyH.cons (o:=⟨some 8,_,_,_,_,_⟩) rfl (fun K hK=>?_) AllReadyH.nil
  go_simp
  with_reducible refine(Np _ (nV l) _ ((HV.out W hW).below ((Below.refl W.heap.size W).alloc (Nat.le_refl _) _).drew)).mono ?_
  rintro en w2 ⟨⟨ao,rfl,DK⟩,rfl⟩
  have HC:=Lib.hid DK
  clear DK
  dsimp only
  refine hK.out _ _ (HKP.out _ ((Below.refl W.heap.size W).alloc (Nat.le_refl _) _).drew) (fun hHeld=>?_)
  clear hK K
  (try simp only[pt])
  exact ahw
end Go.Proofs.YtgmodehldmahiaaGreatDoor.Heap
namespace Go.Proofs.YtgmodehldmahiaaGreatDoor.Heap
open Go Go.RowKit Go.Tm
attribute [local go_sem] Oper.semAt_some
theorem fI{β:Type}(B:Nat)(t:TypeId)(f:β→Array Value):Own (fun s W=>aC W B (f s) t):=fun s X Y row hs hg hrow=>
 hs.grown hg (fun e'=>XW)
end Go.Proofs.YtgmodehldmahiaaGreatDoor.Heap
namespace Go.Proofs.YtgmodehldmahiaaGreatDoor.Heap
open Go Go.RowKit Go.Tm
attribute [local go_sem] Oper.semAt_some
theorem NZ:Body Tryz.prog 126:=eZ Tryz.func126 aj aj
end Go.Proofs.YtgmodehldmahiaaGreatDoor.Heap
namespace Go.Proofs.YtgmodehldmahiaaGreatDoor.Heap
open Go Go.RowKit Go.Tm
attribute [local go_sem] Oper.semAt_some
def DW(n:Int)(x:Sp):Bool:=decide (n≤x.2.1)
noncomputable def fZ(size:Int)(l:List Sp)(n who:Int):List Sp×Int×Int:=
 if n<1∨yZ size l=false then(l,0,1) else match(wO size l).find? (DW n) with|some x=>(ins l (x.1,n,who),x.1,0)|none=>(l,0,5)
theorem I8{size:Int}{l:List Sp}{n who:Int}(h:n<1∨¬qA size l):fZ size l n who=(l,0,1):=by
 unfold fZ;rw[if_pos (h.imp id jN)]
theorem QM{size:Int}{l:List Sp}{n who:Int}(h:¬n<1)(hr:qA size l)(hf:(wO size l).find? (DW n)=none):fZ size l n who=(l,0,5):=by
 unfold fZ;rw[if_neg (by rw[sS hr];simp[h]),hf]
theorem QL{size:Int}{l:List Sp}{n who:Int}(h:¬n<1)(hr:qA size l){x:Sp}(hf:(wO size l).find? (DW n)=some x):fZ size l n who=(ins l (x.1,n,who),x.1,0):=by
 unfold fZ;rw[if_neg (by rw[sS hr];simp[h]),hf]
def Am(n:Int)(pre:List Sp):Prop:=∀x∈pre,DW n x=false
theorem Am.snoc{n:Int}{pre:List Sp}{x:Sp}(h:Am n pre)(hx:DW n x=false):Am n (pre++[x]):=Y5
theorem Am.none{n:Int}{za:List Sp}(h:Am n za):za.find? (DW n)=none:=by
 rw[List.find?_eq_none];intro x hx;rw[h x hx];simp
theorem Am.some{n:Int}{ys:List Sp}{x:Sp}{za:List Sp}(h:Am n ys)(hx:DW n x=true)(hp:ys++[x]<+:za):za.find? (DW n)=some x:=by
 obtain⟨r,rfl⟩:=hp
 rw[List.append_assoc,List.find?_append,h.none]
 simp[hx]
def afe(n:Int)(B:Nat)(w2:World)(pre:List Sp)(W:World):Prop:=
 ∃(x:Sp) (ys:List Sp),pre=ys++[x]∧Am n ys∧DW n x=true∧aC W B #[.int .i64 x.1] 3∧iy B w2 W
theorem iy.own{β:Type}{B n:Nat}{w2:World}(hB:B<n):OwnFrom n (fun(_:β) W=>iy B w2 W):=by
 intro s X Y row hs hg hr
 have hBX:B<X.heap.size:=Nat.lt_of_lt_of_le hs.2.1 hs.size
 have hrow:∀b (o:Obj),X.heap[b]?=some o→o.isCells=true→Y.heap[b]?=some o:=fun b o h1 h2=>by
  rw[hg.block b (Array.getElem?_eq_some_iff.1 h1).1 (fun e=>by obtain⟨_,o',h3,h4⟩:=hr b e.symm;rw[h1] at h3;cases h3;rw[h2] at h4;cases h4)]
  exact h1
 have hne:Y.heap[B]?=X.heap[B]?:=hg.block B hBX (fun e=>by have:=(hr B e.symm).1;omega)
 refine hs.trans ⟨(Below.refl B X).grown hg ah (fun k e=>Nat.le_of_lt (Nat.lt_of_lt_of_le hB (hr k e).1)),hBX,fun b o h1 h2 h3=>⟨hrow b o h1 h2,fun k=>h3 (k.same hne)⟩,fun h1 b k=>Nat.lt_of_lt_of_le (h1 b (k.same hne)) hg.size⟩
theorem V9{n:Int}{B m:Nat}{w2:World}(hB:B<m):OwnFrom m (afe n B w2):=by
 intro pre X Y row hs hg hr
 obtain⟨x,ys,h1,h2,h3,h4,h5⟩:=hs
 exact⟨x,ys,h1,h2,h3,Own.from (fI (β:=Unit) _ 3 (fun _=>#[.int .i64 x.1])) _ () X Y row h4 hg hr,iy.own (β:=Unit) hB () X Y row h5 hg hr⟩
theorem Z6(x:Sp):(GV x).cells=#[.int .i64 x.1,.int .i64 x.2.1,.int .i64 x.2.2]:=rfl
def SK(X0:World)(h b1 b2:Nat)(n p:Int)(W':World):Prop:=W'.cell? ⟨b1,0,none⟩=some (.int .i64 n)∧W'.cell? ⟨b2,0,none⟩=some (.int .i64 p)∧∃X,Below X0.heap.size X0 X∧(W'=X∨∃u,W'=X.setCell ⟨h,1,none⟩ u)
theorem SK.of{X0 X:World}{h b1 b2:Nat}{n p:Int}(hc:X0.cell? ⟨b1,0,none⟩=some (.int .i64 n)∧X0.cell? ⟨b2,0,none⟩=some (.int .i64 p))(hh:h<X0.heap.size)(hb:Below X0.heap.size X0 X):SK X0 h b1 b2 n p X:=
 ⟨(hb.cell (p:=⟨b1,0,none⟩) (World.block_lt_of_cell? _ _ hc.1)).trans hc.1,(hb.cell (p:=⟨b2,0,none⟩) (World.block_lt_of_cell? _ _ hc.2)).trans hc.2,X,hb,.inl rfl⟩
theorem SK.set{X0 X:World}{h b1 b2:Nat}{n p:Int}(hc:X0.cell? ⟨b1,0,none⟩=some (.int .i64 n)∧X0.cell? ⟨b2,0,none⟩=some (.int .i64 p))(h1:h≠b1)(h2:h≠b2)(hl1:b1<X0.heap.size)(hl2:b2<X0.heap.size)(u:Value)(hb:Below X0.heap.size X0 X):SK X0 h b1 b2 n p (X.setCell ⟨h,1,none⟩ u):=
 ⟨(World.cell?_setCell_far _ _ _ _ h1).trans ((hb.cell (p:=⟨b1,0,none⟩) hl1).trans hc.1),(World.cell?_setCell_far _ _ _ _ h2).trans ((hb.cell (p:=⟨b2,0,none⟩) hl2).trans hc.2),X,hb,.inr ⟨u,rfl⟩⟩
theorem noGoto_ret{Q:Exit→Act→World→Prop}{a:Act}{w:World}(h:Q .ret a w):Exit.noGoto Q .ret a w:=h
set_option maxRecDepth 100000 in
set_option maxHeartbeats 8000000 in
theorem ko(size:Int)(v:Value)(l:List Sp)(n who:Int)(w:World)(hv:Sl w true 3 v (nV l))(hs:(Lit.int .i64 size).wf=true)(hw:∀x∈l,Po x)(hby:(l.length+1)*24≤140737488355328):
  Calls Tryz.prog 86 #[.agg #[.int .i64 size,v],.int .i64 n,.int .i64 who] w fun e w'=>∃v',e=.returned (.tuple #[.agg #[.int .i64 size,v'],.int .i64 (fZ size l n who).2.1,.int .i64 (fZ size l n who).2.2])∧Sl w' true 3 v' (nV (fZ size l n who).1)∧vD w.heap.size v (nV l) v' (nV (fZ size l n who).1)∧Below w.heap.size w w':=by
 have HV:=Lib.hid hv
 have HR:=Lib.hid (fun W h=>Vb size v l W h hs hw)
 have HS:=Lib.hid hs
 have HBY:=Lib.hid hby
 obtain⟨a,cap,rfl,hl⟩:=hv.shape
 rw[lF] at hl HV HR⊢
 clear hv hw hs hby
 by_cases hn:n<1
 ·have hd:decide (n<1)=true:=by simpa using hn
  have HT:=Lib.hid (I8 (size:=size) (l:=l) (who:=who) (.inl hn))
  rw[HT.out]
  go_enter Tryz.func86,Tryz.ntmps86
  go_wp2_with fail
  refine wp_scope_straight ?_
  go_wp2_with fail
  refine noGoto_ret ?_
  refine bodyPost_ret (v:= .tuple #[.agg #[.int .i64 size,.slice a l.length cap],.int .i64 0,.int .i64 1]) (by simp[results,Tryz.results86,go_sem]) rfl ⟨_,rfl,?_,vD.same,aD⟩
  exact HV.out.below aD
 have hd:decide (n<1)=false:=by simpa using hn
 have HN:=Lib.hid hn
 by_cases hr:qA size l
 rotate_left
 ·rw[jN hr] at HR
  have HT:=Lib.hid (I8 (size:=size) (l:=l) (n:=n) (who:=who) (.inr hr))
  rw[HT.out]
  clear hr hn
  go_enter Tryz.func86,Tryz.ntmps86
  go_wp2_with fail
  refine wp_scope_straight ?_
  go_wp2_with fail
  with_reducible refine(HR.out _ (HV.out.below aD)).mono ?_
  rintro e w1 ⟨rfl,hb1⟩
  have hz1:=hb1.size
  simp only[World.size_alloc] at hz1
  have bx1:aC w1 w.heap.size #[.int .i64 size,.slice a l.length cap] 51:=(((aC.new _ _ _).alloc _).alloc _).below hb1 cZ
  have OP:aC w1 (w.heap.size+1+1) #[.int .i64 0,.slice none 0 0] 51:=aC.below (aC.new1 _ _ _ aI) hb1 cZ
  have bP:Below w.heap.size w w1:=aD
  obtain⟨c1,f1,l1,n1,m1⟩:=bx1.rules
  obtain⟨c3,f3,l3,n3,m3⟩:=OP.rules
  clear bx1 OP hb1
  go_wp2_with fail
  refine noGoto_ret ?_
  refine bodyPost_ret (v:= .tuple #[.agg #[.int .i64 size,.slice a l.length cap],.int .i64 0,.int .i64 1]) (by simp[results,Tryz.results86,go_sem,c1,c3]) rfl ⟨_,rfl,?_,vD.same,aD⟩
  exact HV.out.below aD
 rw[sS hr] at HR
 have HRR:=Lib.hid hr
 clear hr hn
 refine(callsIn_wide (n:=3)).1 ?_
 ((refine callsIn_of_wp_marks Tryz.func86 rfl trivial ?_ rfl);(simp only[Tryz.ntmps86,List.size_toArray,List.length_cons,List.length_nil,Nat.reduceAdd,Nat.reduceSub,Array.replicate_succ,Array.replicate_zero,List.push_toArray,List.append_toArray,List.nil_append,List.cons_append]))
 refine wpIn_wide.2 ?_
 go_wp2_with fail
 refine wp_scope_straight ?_
 go_wp2_with fail
 with_reducible refine(HR.out _ (HV.out.below aD)).mono ?_
 rintro e w1 ⟨rfl,hb1⟩
 have hz1:=hb1.size
 simp only[World.size_alloc] at hz1
 have bx1:aC w1 w.heap.size #[.int .i64 size,.slice a l.length cap] 51:=(((aC.new _ _ _).alloc _).alloc _).below hb1 cZ
 have qU:aC w1 (w.heap.size+1) #[.int .i64 n] 3:=aC.below ((aC.new1 _ _ _ aI).alloc _) hb1 cZ
 have OP:aC w1 (w.heap.size+1+1) #[.int .i64 0,.slice none 0 0] 51:=aC.below (aC.new1 _ _ _ aI) hb1 cZ
 have bP:Below w.heap.size w w1:=aD
 have HB1:=Lib.hid bx1
 have HB2:=Lib.hid qU
 have HB3:=Lib.hid OP
 obtain⟨c1,f1,l1,n1,m1⟩:=bx1.rules
 obtain⟨c2,f2,l2,n2,m2⟩:=qU.rules
 clear bx1 qU OP hb1
 go_wp2_with fail
 refine wp_label ?_
 go_wp2_with fail
 with_reducible refine(VY _ _ _).mono ?_
 rintro e w2 ⟨rfl,hw2⟩
 have hq0:aC (w1.alloc (.cells #[.int .i64 (-1)] 3)) w1.heap.size #[.int .i64 (-1)] 3:=aC.new _ _ _
 have hb2:Below (w1.heap.size+1) (w1.alloc (.cells #[.int .i64 (-1)] 3)) w2:=EW
 have hs1:aC w2 (w1.heap.size+1) #[.int .i64 size,.slice a l.length cap] 51:=Fh
 have hq2:aC w2 w1.heap.size #[.int .i64 (-1)] 3:=hq0.below hb2 ah
 have hbw2:Below w.heap.size w w2:=(bP.alloc bP.size _).trans (hb2.mono ah)
 have hzz:=hs1.lt
 have eP:Below w1.heap.size w1 w2:=((Below.refl w1.heap.size w1).alloc (Nat.le_refl _) _).trans (hb2.mono ah)
 clear hw2 hq0 hb2 c1 f1 l1 n1 m1 c2 f2 l2 n2 m2
 have hbody:=NZ
 unfold Body at hbody
 have Mw:∀b,uN w1.heap.size b w2→b=w1.heap.size:=fun b h=>uN.lt hq2 rfl rfl h
 have Hq:=Lib.hid hq2
 have Ma:=Lib.hid eP
 have Pv:=Lib.hid hbw2
 have TV:=Lib.hid hs1
 have HFE:=Lib.hid Mw
 clear hq2 eP hs1 Mw hbw2
 go_wp2_with fail
 refine(wpIn_wide (n:=3)).1 ?_
 refine wpIn_rangeFunc_ownH rfl ah (gf:=126) (lb:=#[.pointer (some ⟨w1.heap.size+1,0,none⟩)]) rfl trivial hbody
  (NW 2 w1.heap.size (w1.heap.size+1) (.slice a l.length cap) size l w2 ah ah HFE.out HRR.out HS.out HBY.out (fun W h=>HV.out.below (Pv.out.trans (h.1.mono bP.size))) (fun W h=>h.box TV.out (fun k=>by have:=HFE.out _ k;omega)))
  iy.trans (fun W l o o' h1 h2 h3 h4=>iy.putObj (n:=w2.heap.size) ah W l o o' h1 h2 h3 h4) (Below.refl _ _) (fun _=>rfl)
  (fun pre W=>Am n pre∧iy w1.heap.size w2 W∧aC W w1.heap.size #[.int .i64 (-1)] 3)
  (fun c pre W=>c=.exit 0∧afe n w1.heap.size w2 pre W)
  (OwnFrom.and (ownFrom_pure _ _) (OwnFrom.and (iy.own ah) (Own.from (fI w1.heap.size 3 (fun _=>#[.int .i64 (-1)])) _)))
  (fun c=>OwnFrom.and (ownFrom_pure _ (fun _=>c=.exit 0)) (V9 ah))
  ⟨JV,iy.refl ah,Hq.out⟩
  (fun x a' W=>∃Bx,aC W Bx #[.int .i64 x.1,.int .i64 x.2.1,.int .i64 x.2.2] 164∧
   a'={tmps:=#[.agg #[.int .i64 size,.slice a l.length cap],.int .i64 n,.int .i64 who,.pointer (some ⟨w.heap.size,0,none⟩),.pointer (some ⟨w.heap.size+1,0,none⟩),undef,.pointer (some ⟨w.heap.size+1+1,0,none⟩),.int .i64 0,.int .i64 0,.pointer (some ⟨w1.heap.size,0,none⟩),.pointer (some ⟨Bx,0,none⟩),undef,.int .i64 n,.bool false,.bool false,.agg #[.int .i64 size,.slice a l.length cap],.bool true,.bool false,.bool false,undef,.agg #[.int .i64 size,.slice a l.length cap],.func (.func 126) #[] #[.pointer (some ⟨w1.heap.size+1,0,none⟩)],GV x,undef,undef,undef,undef,undef,undef,undef,undef,undef,undef,undef,undef,undef,undef,undef,undef,undef,undef,undef,undef,undef,undef,undef,undef,undef,undef,undef,undef,undef,undef,undef,undef,undef,undef,undef,undef,undef,undef,undef],defers:=[]})
  (fun x a' _ X Y row hs hg hr=>by
   obtain⟨Bx,hb,rfl⟩:=hs
   exact⟨Bx,Own.from (fI (β:=Unit) Bx 164 (fun _=>#[.int .i64 x.1,.int .i64 x.2.1,.int .i64 x.2.2])) _ () X Y row hb hg hr,rfl⟩) ?assign ?body ?done ?stop
 case assign=>
  rintro l' pre x W K ⟨hno,hB,hq⟩ hK
  gi_wp2
  exact hK _ _ ((KeepsOthers.alloc _ _).from _) (iy.of ((Below.refl _ W).alloc (Nat.le_refl _) _) hq.lt) ⟨hno,hB.trans (iy.of ((Below.refl _ W).alloc (Nat.le_refl _) _) hq.lt),hq.alloc _⟩ ⟨W.heap.size,aC.new W _ _,rfl⟩
 case body=>
  rintro l' pre x a' W hl' ⟨r,hr⟩ ⟨hno,hB,hq⟩ ⟨Bx,hb,rfl⟩ hlt
  have Um:=(HB2.out.below Ma.out HB2.out.lt).below hB.1 HB2.out.lt
  obtain⟨c2,f2,l2,n2,m2⟩:=hb.rules
  obtain⟨c3,f3,l3,n3,m3⟩:=hq.rules
  obtain⟨c4,f4,l4,n4,m4⟩:=Um.rules
  have LJ:=Lib.hid hno
  have hset:=iy.set hq aI (.int .i64 x.1) rfl
  have yF:=hq.set 0 (.int .i64 x.1)
  have aiA:=Lib.hid (And.intro hset yF)
  have HQ:=Lib.hid hq
  clear hno hset yF Um hb hq
  by_cases g1:n≤x.2.1
  ·have g1b:decide (n≤x.2.1)=true:=by simpa using g1
   gi_wp2
   exact⟨(KeepsOthers.setCell _ _ _).from _,rfl,x,pre,rfl,LJ.out,by unfold DW;simpa using g1,aiA.out.2,hB.trans aiA.out.1⟩
  ·have g1b:decide (n≤x.2.1)=false:=by simpa using g1
   gi_wp2
   exact⟨KeepsFrom.refl _ _,iy.refl HQ.out.lt,LJ.out.snoc (by unfold DW;simpa using g1),hB,HQ.out⟩
 case done=>
  rintro D ys W hD rfl ⟨hno,hB,hq⟩ hK
  have HAT:=Lib.hid (QM (who:=who) (by have:=HN.out;omega) HRR.out hno.none)
  have HB:=Lib.hid hB
  have b1:=(HB1.out.below Ma.out HB1.out.lt).below hB.1 HB1.out.lt
  have b3:=(HB3.out.below Ma.out HB3.out.lt).below hB.1 HB3.out.lt
  have hwz:=hB.1.size
  clear hno hB
  obtain⟨c1,f1,l1,n1,m1⟩:=b1.rules
  obtain⟨c3,f3,l3,n3,m3⟩:=b3.rules
  obtain⟨c4,f4,l4,n4,m4⟩:=hq.rules
  have HQ:=Lib.hid hq
  have H3:=Lib.hid b3
  have HK:=Lib.hid hK
  clear hq b1 b3 hK
  go_wp2_with fail
  refine noGoto_ret ?_
  have hset:aC ((W.setCell ⟨w.heap.size+1+1,0,none⟩ (.int .i64 size)).setCell ⟨w.heap.size+1+1,1,none⟩ (.slice a l.length cap)) (w.heap.size+1+1) #[.int .i64 size,.slice a l.length cap] 51:=(H3.out.set 0 (.int .i64 size)).set 1 (.slice a l.length cap)
  have xZ:((W.setCell ⟨w.heap.size+1+1,0,none⟩ (.int .i64 size)).setCell ⟨w.heap.size+1+1,1,none⟩ (.slice a l.length cap)).heap[D]?=some (.deferred (some [])):=by
   rw[heap_setCell_other _ _ _ _ tJ,heap_setCell_other _ _ _ _ tJ];exact HK.out
  have hbe:Below w.heap.size w ((W.setCell ⟨w.heap.size+1+1,0,none⟩ (.int .i64 size)).setCell ⟨w.heap.size+1+1,1,none⟩ (.slice a l.length cap)):=
   ((Pv.out.trans (HB.out.1.mono bP.size)).setCell (p:=⟨w.heap.size+1+1,0,none⟩) rM _).setCell (p:=⟨w.heap.size+1+1,1,none⟩) rM _
  refine⟨aI,.inl ⟨_,_,rfl,run_takeDeferred xZ,?_⟩⟩
  have b1:=((Own.from (fI (β:=Unit) _ 51 (fun _=>_)) w2.heap.size).putObj (s:=()) (Obj.deferred none) hset hD xZ rfl).rules.1
  have b10:=b1 0
  have b11:=b1 1
  have Bw:=hbe.trans (belowK_b (w:=w2) Pv.out.size _ D _ (Obj.deferred none) hD xZ rfl rfl)
  exact⟨.tuple #[.agg #[.int .i64 size,.slice a l.length cap],.int .i64 0,.int .i64 5],J_,_,EP,by rw[HAT.out];exact HV.out.below Bw,by rw[HAT.out];exact vD.same,Bw⟩
 case stop=>
  rintro D c pre W hD hpre ⟨rfl,x,ys,rfl,h2,h3,h4,h5⟩ hK
  have hat:=QL (who:=who) (by have:=HN.out;omega) HRR.out (h2.some h3 hpre)
  obtain⟨l1,l2,hl12,hins,-,hp0,hpq,hlt1,hlt2,-⟩:=VQ (who:=who) HRR.out (List.mem_of_find?_eq_some (h2.some h3 hpre)) HN.out (by simpa[DW] using h3)
  rw[hins] at hat
  have HAT:=Lib.hid hat
  have b1:=(HB1.out.below Ma.out HB1.out.lt).below h5.1 HB1.out.lt
  have b2:=(HB2.out.below Ma.out HB2.out.lt).below h5.1 HB2.out.lt
  have b3:=(HB3.out.below Ma.out HB3.out.lt).below h5.1 HB3.out.lt
  have hwz:=h5.1.size
  have Sc:=Lib.hid (Pv.out.trans (h5.1.mono bP.size))
  clear h2 h3 hpre h5 hat hins
  obtain⟨p,q,u⟩:=x
  dsimp only at h4 HAT hp0 hpq hlt1 hlt2
  obtain⟨c1,f1,Ll,n1,m1⟩:=b1.rules
  obtain⟨c4,f4,l4',n4,m4⟩:=h4.rules
  have H1:=Lib.hid b1
  have H2:=Lib.hid b2
  have H3:=Lib.hid b3
  have H4:=Lib.hid h4
  have HK:=Lib.hid hK
  have HL1:=Lib.hid hlt1
  have HL2:=Lib.hid hlt2
  have HL:=Lib.hid hl12
  have hll:l1.length+l2.length=l.length:=by rw[hl12];simp
  obtain⟨zs,hz1,hz2⟩:∃zs,List.take l1.length (nV l)++GV (p,n,who)::List.drop l1.length (nV l)=zs∧zs=nV (fZ size l n who).1:=⟨_,rfl,by
   rw[HAT.out,hl12]
   simp[nV]⟩
  have HZ1:=Lib.hid hz1
  have HZ2:=Lib.hid hz2
  clear hz1 hz2
  clear b1 b2 b3 h4 hK hlt1 hlt2 hl12
  have hpd:decide (p<0)=false:=by simpa using hp0
  refine wpIn_wide.2 ?_
  go_wp2_with fail
  clear c1 f1 Ll n1 m1 c4 f4 l4' n4 m4
  go_loopw [11] (fun t W'=>∃i:Nat,i≤l1.length∧t=.int .i64 i∧Below W.heap.size W W') (fun t _=>l1.length-(intOf t).toNat)
  case atStart=>exact⟨0,Nat.zero_le _,rfl,Below.refl _ _⟩
  case round=>
   obtain⟨i,hi,rfl,hbw⟩:=hrel
   have hby:=HBY.out
   have hwr:IntKind.i64.wrap ((i:Int)+1)=i+1:=IntWalk.i64_in _ ah
   clear hby
   have b1:=H1.out.below hbw H1.out.lt
   have b4:=H4.out.below hbw H4.out.lt
   have g1:=b1.qL
   have g4:=b4.qL
   by_cases hlt:i<l1.length
   ·have hx:l[i]?=some l1[i]:=by rw[HL.out,List.getElem?_append_left hlt];exact List.getElem?_eq_getElem hlt
    have hxp:=HL1.out _ (List.getElem_mem hlt)
    generalize l1[i]=x at hx hxp
    obtain⟨b,off,rfl,hb,d0,d1,d2⟩:=Sl.sp (HV.out.below (Sc.out.trans (hbw.mono Sc.out.size))) hx
    have k0:=Az d0 hb
    have hil:i<l.length:=ah
    have e1:decide ((i:Int)<(l.length:Int))=true:=aR
    have e2:decide (x.1<p)=true:=by simpa using hxp
    clear d0 d1 d2
    go_wp2_with fail
    ((refine wp_region_quiet_below aj aj ?_);(repeat(go_big_quiet_step (fail)));(refine wpQuiet_nil ?_);(intro _ hw');(obtain⟨⟨dq,osq⟩,hw''⟩:=hw');(subst hw'');(have oZ:=below_regrown wr dq osq);(generalize Go.Sort.grow (redrawn wr dq) osq=w7 at*);(have Io:=oZ.size))
    clear g1 g4 k0
    go_wp2_with fail
    go_roundw
    case rel=>exact⟨i+1,ah,bI,hbw.trans (oZ.mono hbw.size)⟩
    case measure=>simp[intOf];omega
   ·obtain rfl:i=l1.length:=by omega
    by_cases hlt2:l1.length<l.length
    ·obtain⟨x,hx,hxp⟩:∃x,l[l1.length]?=some x∧p<x.1:=by
      cases l2 with
      |nil=>simp at hll;omega
      |cons y r=>exact⟨y,by rw[HL.out];simp,HL2.out y aI⟩
     obtain⟨b,off,rfl,hb,d0,d1,d2⟩:=Sl.sp (HV.out.below (Sc.out.trans (hbw.mono Sc.out.size))) hx
     have k0:=Az d0 hb
     have e1:decide ((l1.length:Int)<(l.length:Int))=true:=aR
     have e2:decide (x.1<p)=false:=aR
     clear d0 d1 d2
     go_wp2_with fail
     ((refine wp_region_quiet_below aj aj ?_);(repeat(go_big_quiet_step (fail)));(refine wpQuiet_nil ?_);(intro _ hw');(obtain⟨⟨dq,osq⟩,hw''⟩:=hw');(subst hw'');(have oZ:=below_regrown wr dq osq);(generalize Go.Sort.grow (redrawn wr dq) osq=w7 at*);(have Io:=oZ.size))
     clear g1 g4 k0
     exact ahx
    ·have e1:decide ((l1.length:Int)<(l.length:Int))=false:=by simp;omega
     go_wp2_with fail
     ((refine wp_region_quiet_below aj aj ?_);(repeat(go_big_quiet_step (fail)));(refine wpQuiet_nil ?_);(intro _ hw');(obtain⟨⟨dq,osq⟩,hw''⟩:=hw');(subst hw'');(have oZ:=below_regrown wr dq osq);(generalize Go.Sort.grow (redrawn wr dq) osq=w7 at*);(have Io:=oZ.size))
     clear g1 g4
     exact ahx
end Go.Proofs.YtgmodehldmahiaaGreatDoor.Heap
namespace Go.Proofs.YtgmodehldmahiaaGreatDoor.Heap
open Go Go.RowKit Go.Tm
end Go.Proofs.YtgmodehldmahiaaGreatDoor.Heap
