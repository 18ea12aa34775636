/- Part 6 of 50 of the proof of topWindows_holds. Conditions: see each. -/
import Derived.Test.YtgmodehldmahiaaGreatDoorW01
import Derived.Test.YtgmodehldmahiaaGreatDoorW02
set_option linter.unusedVariables false
set_option linter.unusedSimpArgs false
set_option maxRecDepth 8192
set_option maxHeartbeats 40000000
namespace Go.Proofs.YtgmodehldmahiaaGreatDoor.Sleep
open Go Go.RowKit Go.Tm
theorem iO:Ty Tryz.prog 129 2 true:=⟨aj,aj,aB,aj⟩
theorem zy:(Tryz.prog.info? 129).map (fun i=>(i.zero,i.size,i.bytes))=some (some (.agg #[.int .u64 0,.int .i64 0]),2,16):=by kernel_rfl
theorem DJ(v:Value)(xs:List Value)(w:World)(hsl:Sl w true 2 v xs)(hbytes:xs.length*16≤140737488355328):
  Calls Tryz.prog 181 #[v] w fun e w'=>∃v',e=.returned v'∧bB w' w.heap.size 129 true 2 v' xs∧Below w.heap.size w w':=by
 have hsl0:=Lib.hid hsl
 obtain⟨hsz,a,cap,rfl,hl,hm,hform⟩:=hsl
 have hlen:xs.length≤maxLen:=ah
 cases a with
 |none=>
  have h0:xs=[]:=yu
  subst h0
  have hnil:=fun(n c:Nat) (w:World)=>eD Tryz.prog (t:=47) (n:=n) (c:=c) Tryz.underlying47 w
  clear hform hsz hl hm hlen
  go_enter Tryz.func181,Tryz.ntmps181
  exact yw
 |some a=>
  have hnil:=fun(n c:Nat) (w:World)=>eB Tryz.prog (t:=47) (a:=a) (n:=n) (c:=c) Tryz.underlying47 w
  obtain⟨i0,hi,hz0,hz1,hz2⟩:=info_parts zy
  have HI:=Lib.hid hi
  have HZ:=Lib.hid (And.intro hz0 (And.intro hz1 hz2))
  have HS:=Lib.hid hsz
  clear hi hz0 hz1 hz2 hform hl hm hsz
  go_enter Tryz.func181,Tryz.ntmps181
  go_wp2_with(first|(refine wpList_append_own _ rfl _ _ 47 rfl w.heap.size 129 i0 (.agg #[.int .u64 0,.int .i64 0]) 2 16 Tryz.underlying47 HI.out HZ.out.1 HZ.out.2.1 HZ.out.2.2 rfl aB (.slice (some ⟨w.heap.size,0,none⟩) 0 0) 0 [] bT (World.ownsRow_made w #[] 0 (Nat.le_refl _) (Nat.zero_le _) rfl) a xs.length cap (flat xs) bT ?c1 ?c2 ?c3 ?c4 ?c5 ?c6 ?_)|fail)
  case c1=>exact dX HS.out
  case c2=>exact(hsl0.out.below ((Below.refl _ _).alloc (Nat.le_refl _) _)).news
  case c3=>exact iD HS.out
  case c4=>omega
  case c5=>omega
  case c6=>simp
  exact yC
theorem F7:Val true 2 (.agg #[.int .u64 0,.int .i64 0]):=⟨_,rfl,rfl,CW⟩
theorem Bf(v:Value)(xs:List Value)(i:Nat)(x:Value)(U:Nat)(w:World)(base:Nat)(ho:bB w base 129 true 2 v xs)(hi:i≤xs.length)(hx:Val true 2 x)(hbx:aC w U x.cells 129)
  (hU:∀b,v.ownBlock=some b→b≠U)(hbase:base≤w.heap.size)(hby:(xs.length+1)*16≤140737488355328):
  Calls Tryz.prog 180 #[v,.int .i64 i,.slice (some ⟨U,0,none⟩) 1 1] w fun e w'=>∃v',e=.returned v'∧bB w' base 129 true 2 v' (xs.take i++x::xs.drop i)∧w.grownBy w' v.ownBlock:=by
 obtain⟨i0,hi0,hq0,hq1,hq2⟩:=info_parts zy
 have HI:=Lib.hid (And.intro hi0 (And.intro hq0 (And.intro hq1 hq2)))
 clear hi0 hq0 hq1 hq2
 have HU:=Lib.hid (Sl.IK (ag:=true) (k:=2) hx hbx)
 have HO:=Lib.hid ho
 have Zq:xs.length+1≤9223372036854775807:=ah
 by_cases hin:i=xs.length
 ·subst hin
  obtain⟨_,a,cap,rfl,hlc,hcm,_⟩:=ho.sl
  have HL:=Lib.hid (show xs.take xs.length++x::xs.drop xs.length=xs++[x] by simp)
  clear ho hbx hU
  by_cases hce:cap=xs.length
  ·subst hce
   go_enter Tryz.func180,Tryz.ntmps180
   go_wp2_with(first|(refine eO (v:= .slice a xs.length xs.length) (xs:=xs) (base:=base) rfl _ _ 47 rfl iO i0 (.agg #[.int .u64 0,.int .i64 0]) 16 Tryz.underlying47 HI.out.1 HI.out.2.1 HI.out.2.2.1 HI.out.2.2.2 rfl ?_ ?_ (.slice (some ⟨U,0,none⟩) 1 1) ([x]) ?_ ?_ ?_ ?_ ?_ ?_;(exact aG);(focus(exact HO.out));(exact aG);(focus(exact HU.out));(exact yh);(exact yg);(exact yj);(intro v4 w4 qR hg4 xY;(have sj:=Lib.hid qR);(have Iz:=Lib.hid hg4);(clear qR hg4 xY)))|fail)
   exact IG
  ·go_enter Tryz.func180,Tryz.ntmps180
   go_wp2_with(first|(refine eO (v:= .slice a xs.length cap) (xs:=xs) (base:=base) rfl _ _ 47 rfl iO i0 (.agg #[.int .u64 0,.int .i64 0]) 16 Tryz.underlying47 HI.out.1 HI.out.2.1 HI.out.2.2.1 HI.out.2.2.2 rfl ?_ ?_ (.slice (some ⟨U,0,none⟩) 1 1) ([x]) ?_ ?_ ?_ ?_ ?_ ?_;(exact aG);(focus(exact HO.out));(exact aG);(focus(exact HU.out));(exact yh);(exact yg);(exact yj);(intro v4 w4 qR hg4 xY;(have sj:=Lib.hid qR);(have Iz:=Lib.hid hg4);(clear qR hg4 xY)))|fail)
   exact IG
 have hlt:i<xs.length:=ah
 obtain⟨g,cap,rfl,hlc,hcm,hbg,hgw,_,_⟩:=ho.form ah
 unfold maxLen at hcm
 have Ip:(Value.slice (some ⟨g,0,none⟩) xs.length cap).ownBlock=some g:=rfl
 rw[Ip]
 have hgU:g≠U:=hU g rfl
 have hilt:(i:Int)<xs.length:=ah
 have ahX:((i:Int)==xs.length)=false:=mF
 have hwn:IntKind.i64.wrap ((xs.length:Int)+1)=xs.length+1:=IntWalk.i64_in _ ah
 have hwi:IntKind.i64.wrap ((i:Int)+1)=i+1:=IntWalk.i64_in _ ah
 have hci:¬cap=i:=ah
 have tV:=fun n W (h:n≤cap) (h':i≤n)=>oH (P:=Tryz.prog) (t:=47) iO Tryz.underlying47 g 0 n cap i i rfl h' h ah W
 by_cases hroom:xs.length+1≤cap
 ·--in place
  have hroom':¬(cap:Int)<(xs.length:Int)+1:=ah
  have Zp:(xs.length:Int)+1≤cap:=ah
  have ah6:¬cap=i+1:=ah
  obtain⟨cur,hg,hcs,htk⟩:∃cur,w.heap[g]?=some (.cells cur 129 (0,0))∧cur.size=cap*2∧cur.toList.take (xs.length*2)=flat xs:=Yg
  have hgb:aC w g cur 129:=hg
  have hsz:∀w,(Go.sizeOf 129).run Tryz.prog w=.ok 2 w:=fun w=>by simp[sizeOf,typeInfo,HI.out.1,HI.out.2.2.1]
  have hov:∀lb cb,(callFunc 207 #[.slice (some ⟨U,0,none⟩) 1 1,.slice (some ⟨g,(i+1)*2,none⟩) lb cb]).run Tryz.prog w=.ok (.value (.bool false)) w:=fun lb cb=>by
   rw[run_callFunc_extern Tryz.func207 aj aj aj (e:=Extern.SlicesOverlaps.overlaps #[47,47] #[4]) aj,
    Lib.run_overlaps_apart w 47 4 129 Tryz.underlying47 2 hsz ⟨U,0,none⟩ ⟨g,(i+1)*2,none⟩ 1 1 lb cb (Ne.symm hgU) _ _ _ _ hbx.shape hgb.shape (by rw[hcs];omega) (hbx.rules.2.1 0) (hbx.rules.2.1 _)]
   rfl
  have Er:=fun W=>oH (P:=Tryz.prog) (t:=47) iO Tryz.underlying47 g 0 (xs.length+1) cap ((i:Int)+1) (i+1) ah ah hroom ah W
  have tV:=fun W=>tV (xs.length+1) W hroom ah
  have hval:=ho.val
  have hDl:(flat (xs.drop i)).length=(xs.length-i)*2:=XU
  have hD1:∀u∈flat (xs.drop i),u.oneCell'=true:=iD (fun y hy=>hval y (List.mem_of_mem_drop hy))
  have hDn:=(HO.out.sl.BZ (m:=i) ah).news
  simp only[Nat.zero_add] at Er tV hDn
  have HDN:=Lib.hid hDn
  have HD1:=Lib.hid hD1
  have He:=Lib.hid hbx
  have Xh:=Lib.hid hgb
  have G8:=Lib.hid htk
  have agj:=Lib.hid hval
  clear ho hU hg hgb hsz hDn hD1 hval htk hbx
  go_enter Tryz.func180,Tryz.ntmps180
  go_wp2_with fail
  clear hov
  ((refine fT 8 aj aj ?_);(simp only[List.take_succ_cons,List.take_zero,List.drop_succ_cons,List.drop_zero]);(repeat(go_big_quiet_step (fail)));(refine wpQuiet_nil ?_);(intro _ hw');(obtain⟨⟨dq,osq⟩,hw''⟩:=hw');(subst hw'');(have hq:=below_regrown w dq osq);(generalize Go.Sort.grow (redrawn w dq) osq=w3 at*);(have hz3:=hq.size))
  have hb3:aC w3 g cur 129:=Xh.out.below hq Xh.out.lt
  have HB3:=Lib.hid hb3
  have Ez:∀j u,(flat (xs.drop i))[j]?=some u→w3.cell? ((⟨g,i*2,none⟩:Addr).add j)=some u:=fun j u hu=>by
   have:=HDN.out j u hu
   rw[addr_add] at this⊢
   exact(hq.cell (p:=⟨g,i*2+j,none⟩) Xh.out.lt).trans this
  have aiH:=Lib.hid Ez
  have hfit:(i+1)*2+(flat (xs.drop i)).length≤cur.size:=by
   have e3:(xs.length+1)*2≤cap*2:=Nat.mul_le_mul_right _ hroom
   rw[hDl,hcs];omega
  have hmin:min (xs.length+1-i) (xs.length-i)=xs.length-i:=ah
  have hcp:=fun ty=>lS (P:=Tryz.prog) (t:=47) (ty:=ty) (k:=2) (ag:=true) (c:=cap-(i+1)) (cs:=cap-i) (n:=xs.length+1-i) (m:=xs.length-i) (o:=(i+1)*2) iO Tryz.underlying47 hb3 PE Ez HD1.out hfit
  obtain⟨C1,OM⟩:∃C1,C1=(cur.toList.take ((i+1)*2)++flat (xs.drop i)++cur.toList.drop ((i+1)*2+(flat (xs.drop i)).length)).toArray:=⟨_,rfl⟩
  rw[←OM] at hcp
  have LZ:C1.size=cur.size:=Ya
  have Yu:i*2+2≤C1.size:=by rw[LZ];omega
  have HC1:=Lib.hid OM
  have HCP:=Lib.hid hcp
  clear hb3 Ez hcp OM LZ
  go_wp2_with(first|(refine wpList_copy_run rfl _ _ 47 47 rfl _ _ ?_ ?_ (HCP.out _) ?_;(focus(simp[Act.eval]));(focus(simp[Act.eval]));(generalize Ow:w3.setRow g C1=w4);((have hg4:aC w4 g C1 129:=by rw[←Ow];exact setRow_heap w3 g cur _ _ (0,0) HB3.out);(have hu4:aC w4 U x.cells 129:=by rw[←Ow];exact((He.out.below hq He.out.lt).row g _ (Ne.symm hgU)));(have LW:w3.grownBy w4 (some g):=by rw[←Ow];exact⟨rfl,rfl,rfl,uP,fun b hb hne=>setRow_other w3 g b _ uQ⟩);(have Iz:=Lib.hid hg4);(have HU4:=Lib.hid (Sl.IK (ag:=true) (k:=2) hx hu4));(have agn:=Lib.hid LW);(clear hg4 hu4 LW Ow)))|((have hl4:x.cells.toList.length=min 1 (xs.length+1-i)*2:=by rw[show min 1 (xs.length+1-i)=1 by omega,hx.len]);(have DL:∀j u,x.cells.toList[j]?=some u→w4.cell? ((⟨U,0,none⟩:Addr).add j)=some u:=by(have hnw:=HU4.out.news);simpa[flat] using hnw);(refine wpList_copy_run rfl _ _ 47 47 rfl (.slice (some ⟨g,i*2,none⟩) (xs.length+1-i) (cap-i)) (.slice (some ⟨U,0,none⟩) 1 1) ?_ ?_ (lS iO Tryz.underlying47 Iz.out hl4 DL hx.one PL) ?_);(focus(simp[Act.eval]));(focus(simp[Act.eval]));(clear hl4 DL);(generalize Lr:w4.setRow g (C1.toList.take (i*2)++x.cells.toList++C1.toList.drop (i*2+x.cells.toList.length)).toArray=w5);(have TT:=Lib.hid Lr);(clear Lr))|fail)
  go_ret
  have Lr:=TT.out
  subst Lr
  have hC2:C1.toList.take (i*2)++x.cells.toList++C1.toList.drop (i*2+x.cells.toList.length)=cur.toList.take (i*2)++x.cells.toList++flat (xs.drop i)++cur.toList.drop (i*2+2+(flat (xs.drop i)).length):=by
   have h:=zq cur.toList (flat (xs.drop i)) x.cells.toList (i*2) 2 hx.len E8
   rw[HC1.out,show(i+1)*2=i*2+2 from Nat.succ_mul _ _]
   exact h
  exact Yj
 ·--a new row
  obtain⟨m,hm⟩:∃m,i+m=xs.length+1:=⟨xs.length+1-i,ah⟩
  have hroom':(cap:Int)<(xs.length:Int)+1:=ah
  have hwm:IntKind.i64.wrap ((xs.length:Int)+1-i)=m:=BO
  have tV:=fun W=>tV xs.length W hlc ah
  simp only[Nat.zero_add] at tV
  have HDA:=Lib.hid (HO.out.sl.BZ (m:=i) ah)
  have hvz:Val true 2 (.agg #[.int .u64 0,.int .i64 0]):=F7
  clear ho hbx hU
  go_enter Tryz.func180,Tryz.ntmps180
  go_wp2_with(first|(refine kW (base:=base) rfl _ _ 47 3 rfl iO i0 (.agg #[.int .u64 0,.int .i64 0]) .i64 16 Tryz.underlying47 Tryz.underlying3 HI.out.1 HI.out.2.1 HI.out.2.2.1 HI.out.2.2.2 hvz g xs.length cap HO.out i m ah ah ah wJ (by rw[hm];exact hby) hbase ?_ ?_ ?_;(focus(simp[Act.eval]));(focus(simp[Act.eval]));(intro cap2 w2 hc2 ho2 hg2;(have hb2:Below w.heap.size w w2:=bq hg2);(have hne2:¬cap2=i:=by omega);(have lV:=Lib.hid ho2);(have HU2:=Lib.hid (HU.out.below hb2));(clear ho2 hg2)))|(refine wpList_copy_own (base:=base) rfl _ _ 47 rfl iO Tryz.underlying47 w.heap.size (i+m) cap2 (xs.take i++List.replicate m (.agg #[.int .u64 0,.int .i64 0])) [x] lV.out i (xs.length+1-i) (cap2-i) ⟨U,0,none⟩ 1 HU2.out ?_ ?_ ?_ ?_ ?_;(focus(simp;omega));(focus(simp;omega));(focus(simp[Act.eval]));(focus(simp[Act.eval]));(intro w3 ho3 hg3;(have r_:=Lib.hid ho3);(have hb3:Below w.heap.size w w3:=hb2.grown hg3 hb2.size BQ);(clear ho3 hg3)))|fail)
  have Er:=fun W=>oH (P:=Tryz.prog) (t:=47) iO Tryz.underlying47 w.heap.size 0 (xs.length+1) cap2 ((i:Int)+1) (i+1) ah ah ah ah W
  simp only[Nat.zero_add] at Er
  simp only[Act.put,List.setIfInBounds_toArray,List.set_cons_succ,List.set_cons_zero,goInt,List.length_cons,List.length_nil]
  ((refine fT 8 aj aj ?_);(simp only[List.take_succ_cons,List.take_zero,List.drop_succ_cons,List.drop_zero]);(repeat(go_big_quiet_step (fail)));(refine wpQuiet_nil ?_);(intro _ hw');(obtain⟨⟨dq,osq⟩,hw''⟩:=hw');(subst hw'');(have hq:=below_regrown w3 dq osq);(generalize Go.Sort.grow (redrawn w3 dq) osq=w4 at*);(have vT:=hq.size))
  have hb4:Below w.heap.size w w4:=hb3.trans (hq.mono hb3.size)
  have sj:=Lib.hid (r_.out.kept hq)
  have XL:=Lib.hid (HDA.out.below hb4)
  go_wp2_with(first|(refine wpList_copy_own (base:=base) rfl _ _ 47 rfl iO Tryz.underlying47 w.heap.size (i+m) cap2 _ (xs.drop i) sj.out (i+1) (xs.length-i) (cap2-(i+1)) ⟨g,0+i*2,none⟩ (cap-i) XL.out ?_ ?_ ?_ ?_ ?_;(focus(simp));(focus(simp;omega));(focus(simp[Act.eval]));(focus(simp[Act.eval]));(intro w5 Iq hg5;(have LG:=Lib.hid Iq);(have hb5:Below w.heap.size w w5:=hb4.grown hg5 hb4.size BQ);(clear Iq hg5)))|fail)
  go_ret
  refine⟨_,rfl,?_,ay hb5 _⟩
  have h:=LG.out
  rw[hm] at h
  rw[←FX (z:= .agg #[.int .u64 0,.int .i64 0]) (x:=x) hlt hm]
  exact h
end Go.Proofs.YtgmodehldmahiaaGreatDoor.Sleep
namespace Go.Proofs.YtgmodehldmahiaaGreatDoor.Sleep
open Go Go.RowKit Go.Tm
theorem vM(v:Value)(xs:List Value)(fid:FuncId)(caps:Array Value)(p:Value→Bool)(w:World)(hsl:Sl w true 2 v xs)(hp:Pred Tryz.prog w none fid caps p xs):
  Calls Tryz.prog 177 #[v,.func (.func fid) #[] caps] w fun e w'=>e=.returned (.int .i64 (idx p xs))∧Below w.heap.size w w':=by
 obtain⟨hsz,a,cap,rfl,hl,hm,hform⟩:=hsl
 unfold maxLen at hm
 have hlen:xs.length≤9223372036854775807:=ah
 go_enter Tryz.func177,Tryz.ntmps177
 go_wp2_with fail
 go_loopw [8] (fun t wr=>∃i:Nat,i≤xs.length∧t=.int .i64 i∧Below w.heap.size w wr∧∀j y,j<i→xs[j]?=some y→p y=false) (fun t _=>xs.length-(intOf t).toNat)
 case atStart=>exact⟨0,Nat.zero_le _,rfl,Below.refl _ _,tF⟩
 case round=>
  obtain⟨i,hi,rfl,hbw,fG⟩:=hrel
  have HP:=Lib.hid fG
  clear fG
  by_cases hlt:i<xs.length
  ·obtain⟨x,hx⟩:∃x,xs[i]?=some x:=⟨_,List.getElem?_eq_getElem hlt⟩
   have hmem:x∈xs:=List.mem_of_getElem? hx
   have HV:=Lib.hid (hsz _ hmem)
   obtain⟨b,off,rfl,hb,hcell⟩:∃b off,a=some ⟨b,off,none⟩∧b<w.heap.size∧Cells wr b (off+i*2) x.cells.toList:=yx
   have HX:=Lib.hid hx
   have nu:=Lib.hid hcell
   clear hx hcell hform hsz
   have hcall:=hp.asks wr (ay hbw none) _ hmem
   have hbody:=hp.body
   unfold Body at hbody
   have HC:=Lib.hid hcall
   clear hcall hp
   cases hpx:p x
   ·have uG:=Lib.hid hpx
    rw[hpx] at HC
    clear hpx
    go_wp2_with(first|(refine aO rfl 129 _ rfl b (off+i*2) bT x iO HV.out nu.out ?_)|fail)
    exact Hr
   ·have uG:=Lib.hid hpx
    rw[hpx] at HC
    clear hpx
    go_wp2_with(first|(refine aO rfl 129 _ rfl b (off+i*2) bT x iO HV.out nu.out ?_)|fail)
    exact yA
  ·exact yB
def ahu(x:Value):Prop:=∃(fa fb:Int),x=.agg #[.int .u64 fa,.int .i64 fb]
theorem CO(v:Value)(xs:List Value)(fid:FuncId)(caps:Array Value)(p:Value→Bool)(w:World)(base:Nat)(hform:∀x∈xs,ahu x)(ho:bB w base 129 true 2 v xs)(hp:Pred Tryz.prog w v.ownBlock fid caps p xs):
  Calls Tryz.prog 188 #[v,.func (.func fid) #[] caps] w fun e w'=>∃v',e=.returned v'∧Sl w' true 2 v' (xs.filter fun x=>!p x)∧v'.ownBlock=v.ownBlock∧w.grownBy w' v.ownBlock:=by
 have hI:=vM v xs fid caps p w ho.sl ⟨hp.body,fun w' hg x hx=>hp.asks w' ⟨hg.os,hg.tape,hg.output,hg.size,fun b hb _=>hg.block b hb aI⟩ x hx⟩
 rcases jH p xs with⟨hi,hall⟩|⟨i0,x0,hi,hx0,Hw,fG⟩
 ·rw[hi] at hI
  have HF:=Lib.hid (show xs.filter (fun x=>!p x)=xs from List.filter_eq_self.2 (fun x hx=>EX))
  have HO:=Lib.hid ho
  clear hp ho hall
  go_enter Tryz.func188,Tryz.ntmps188
  exact Mi
 ·rw[hi] at hI
  have aby:i0<xs.length:=(List.getElem?_eq_some_iff.1 hx0).1
  obtain⟨g,cap,rfl,hlc,hcm,hbg,hgw,hfz,_⟩:=ho.form ah
  have hlen:xs.length≤9223372036854775807:=E5
  have Ip:(Value.slice (some ⟨g,0,none⟩) xs.length cap).ownBlock=some g:=rfl
  rw[Ip] at hp⊢
  obtain⟨i1,hi0,hq0,hq1,hq2⟩:=info_parts zy
  have hzv:∀w,(zeroValue 129).run Tryz.prog w=.ok (.agg #[.int .u64 0,.int .i64 0]) w:=fun w=>by simp[zeroValue,typeInfo,hi0,hq0]
  have HZV:=Lib.hid hzv
  clear hi0 hq0 hq1 hq2 hzv hfz
  have R_:=Lib.hid ho
  have TW:=Lib.hid hp
  have hbody:=hp.body
  unfold Body at hbody
  have zS:xs.take i0=(xs.take (i0+1)).filter (fun x=>!p x):=Mj
  have BD:=Lib.hid zS
  have abt:IntKind.i64.wrap ((i0:Int)+1)=i0+1:=IntWalk.i64_in _ ah
  have hne1:((i0:Int)==-1)=false:=mF
  clear ho hp fG zS hx0 Hw
  go_enter Tryz.func188,Tryz.ntmps188
  go_wp2_with fail
  with_reducible refine hI.mono ?_
  rintro e w1 ⟨rfl,hb1⟩
  have hz1:=hb1.size
  go_wp2_with fail
  go_loopw [5,6] (fun u t W=>∃(i j:Nat) (zs:List Value),i<j∧j≤xs.length∧u=.int .i64 i∧t=.int .i64 j∧zs.length=xs.length∧bB W base 129 true 2 (.slice (some ⟨g,0,none⟩) xs.length cap) zs∧w.grownBy W (some g)∧
   zs.take i=(xs.take j).filter (fun x=>!p x)∧∀r,j≤r→zs[r]?=xs[r]?) (fun _ t _=>xs.length-(intOf t).toNat)
  case atStart=>exact⟨i0,i0+1,xs,ah,ah,rfl,bI,rfl,R_.out.kept hb1,ay hb1 _,BD.out,fun _ _=>rfl⟩
  case round=>
   obtain⟨i,j,zs,hij,hj,rfl,rfl,hzl,how,hgw,htk,hdr⟩:=hrel
   have HO:=Lib.hid how
   have Xd:=Lib.hid hzl
   have G8:=Lib.hid htk
   have HDR:=Lib.hid hdr
   have HG:=Lib.hid hgw
   clear how hzl htk hdr hgw
   by_cases hlt:j<xs.length
   ·obtain⟨x,hx⟩:∃x,xs[j]?=some x:=⟨_,List.getElem?_eq_getElem hlt⟩
    have hzx:zs[j]?=some x:=(HDR.out j (Nat.le_refl _)).trans hx
    obtain⟨b',off',CU,hblt,hcell⟩:=HO.out.sl.at hzx
    simp only[Option.some.injEq,Addr.mk.injEq,and_true] at CU
    obtain⟨rfl,rfl⟩:=CU
    rw[Nat.zero_add] at hcell
    have nu:=Lib.hid hcell
    have HV:=Lib.hid (HO.out.val x (List.mem_of_getElem? hzx))
    have HC:=Lib.hid (fun W h=>TW.out.asks W h x (List.mem_of_getElem? hx))
    obtain⟨fa,fb,rfl⟩:=hform x (List.mem_of_getElem? hx)
    have HX:=Lib.hid hx
    have hwj:IntKind.i64.wrap ((j:Int)+1)=j+1:=IntWalk.i64_in _ ah
    have hwi:IntKind.i64.wrap ((i:Int)+1)=i+1:=IntWalk.i64_in _ ah
    clear hx hzx hcell
    cases hpx:p (.agg #[.int .u64 fa,.int .i64 fb])
    ·have uG:=Lib.hid hpx
     rw[hpx] at HC
     clear hpx
     have tX:i<zs.length:=tH
     go_wp2_with(first|(refine aO rfl 129 _ rfl g (j*2) bT (.agg #[.int .u64 fa,.int .i64 fb]) iO HV.out nu.out ?_)|((with_reducible refine(HC.out _ ?_).mono ?_);(focus exact aA HG.out (World.grownBy_alloc _ _ _));rintro e w2 ⟨rfl,hb2⟩;(have hz2:=hb2.size);(simp only[World.size_alloc] at hz2);(have hb2':Below wr.heap.size wr w2:=((Below.refl wr.heap.size wr).alloc (Nat.le_refl _) _).trans (hb2.mono cZ));(have lV:=Lib.hid (HO.out.kept hb2'));(have qU:aC w2 wr.heap.size #[.int .u64 fa,.int .i64 fb] 129:=aC.below (aC.new wr _ _) hb2 cZ);(obtain⟨hcx,hfx,hlx,hnx,hmx⟩:=qU.rules);(clear qU))|(refine dw (base:=base) rfl _ _ rfl iO g xs.length cap lV.out i tX ?_ (.agg #[.int .u64 fa,.int .i64 fb]) ?_ HV.out ?_;(focus(simp[Act.eval]));(focus(simp[Act.eval]));(intro w3 ho3 hg3;(have r_:=Lib.hid ho3);(have hg3':=aA HG.out (aA (ay hb2' (some g)) hg3));(have zO:=Lib.hid hg3');clear ho3 hg3 hg3'))|fail)
     go_roundw
     case rel=>
      refine⟨i+1,j+1,_,ah,ah,bI,bI,?_,r_.out,zO.out,?_,?_⟩
      ·exact Fp
      ·rw[eH HX.out,List.filter_append,←G8.out,eH (i:=i) (x:= .agg #[.int .u64 fa,.int .i64 fb]) E9,List.take_set_of_le (Nat.le_refl _)]
       simp[uG.out]
      ·exact Mg
     case measure=>simp[intOf];omega
    ·have uG:=Lib.hid hpx
     rw[hpx] at HC
     clear hpx
     go_wp2_with(first|(refine aO rfl 129 _ rfl g (j*2) bT (.agg #[.int .u64 fa,.int .i64 fb]) iO HV.out nu.out ?_)|((with_reducible refine(HC.out _ ?_).mono ?_);(focus exact aA HG.out (World.grownBy_alloc _ _ _));rintro e w2 ⟨rfl,hb2⟩;(have hz2:=hb2.size);(simp only[World.size_alloc] at hz2);(have hb2':Below wr.heap.size wr w2:=((Below.refl wr.heap.size wr).alloc (Nat.le_refl _) _).trans (hb2.mono cZ));(have lV:=Lib.hid (HO.out.kept hb2'));(have qU:aC w2 wr.heap.size #[.int .u64 fa,.int .i64 fb] 129:=aC.below (aC.new wr _ _) hb2 cZ);(obtain⟨hcx,hfx,hlx,hnx,hmx⟩:=qU.rules);(clear qU))|fail)
     exact Sr
   ·have hjl:j=xs.length:=by omega
    subst hjl
    have tX:i<zs.length:=tH
    have hsub:zs.length-i=xs.length-i:=ER
    go_wp2_with(first|(refine kG (base:=base) rfl _ 47 rfl iO Tryz.underlying47 HZV.out F7 g xs.length cap (cap-i) HO.out i tX ?_ ?_;(focus(rw[hsub];simp[Act.eval]));(intro w3 ho3 hg3;(have r_:=Lib.hid ho3);(have zO:=Lib.hid (aA HG.out hg3));clear ho3 hg3))|fail)
    exact Mh
abbrev Al:=Int×Int
abbrev Lu(a:Al):Value:= .agg #[.int .u64 a.1,.int .i64 a.2]
abbrev qh(l:List Al):List Value:=l.map Lu
theorem ahr(a:Al):Val true 2 (Lu a):=⟨_,rfl,rfl,CW⟩
theorem qO(l:List Al):(qh l).length=l.length:=by simp
theorem ac8{l:List Al}{i:Nat}{a:Al}(h:l[i]?=some a):(qh l)[i]?=some (Lu a):=by simp[h]
theorem Sl.al{w:World}{a:Option Addr}{n cap:Nat}{l:List Al}(h:Sl w true 2 (.slice a n cap) (qh l)){i:Nat}{x:Al}(hx:l[i]?=some x):
  ∃b off,a=some ⟨b,off,none⟩∧b<w.heap.size∧w.cell? ⟨b,off+i*2,none⟩=some (.int .u64 x.1)∧w.cell? ⟨b,off+i*2+1,none⟩=some (.int .i64 x.2):=by
 obtain⟨b,off,ha,hb,hcell⟩:=h.at (ac8 hx)
 exact⟨b,off,ha,hb,hcell 0 _ rfl,hcell 1 _ rfl⟩
def behind(a b:Al):Bool:=decide (b.1<a.1)||(decide (a.1=b.1)&&decide (b.2<a.2))
theorem RO(a b:Al)(w:World):Calls Tryz.prog 179 #[Lu a,Lu b] w fun e w'=>e=.returned (.bool (behind a b))∧Below w.heap.size w w':=by
 obtain⟨t,p⟩:=a
 obtain⟨s,q⟩:=b
 unfold behind
 dsimp only
 by_cases h1:s<t
 ·go_enter Tryz.func179,Tryz.ntmps179
  go_wp2_with fail
  go_ret
  exact⟨rH,aD⟩
 by_cases h2:t=s
 ·subst h2
  by_cases h3:q<p
  ·exact Y3
  ·exact Y3
 ·have h2':(t==s)=false:=by simpa using h2
  go_enter Tryz.func179,Tryz.ntmps179
  go_wp2_with fail
  go_ret
  exact⟨by simp[h1,h2],aD⟩
def Hz(a:Al):Value→Bool:=fun v=>match v with|.agg cs=>(match cs.toList with|[.int _ t,.int _ p]=>behind (t,p) a|_=>false)|_=>false
theorem Em(a x:Al):Hz a (Lu x)=behind x a:=rfl
theorem WK:Body Tryz.prog 178:=eZ Tryz.func178 aj aj
theorem abf(x a:Al)(B:Nat)(w:World)(hB:B<w.heap.size)(hc0:w.cell? ⟨B,0,none⟩=some (.int .u64 a.1))(hc1:w.cell? ⟨B,1,none⟩=some (.int .i64 a.2)):
  Calls Tryz.prog 178 #[Lu x,.pointer (some ⟨B,0,none⟩)] w fun e w'=>e=.returned (.bool (Hz a (Lu x)))∧Below w.heap.size w w':=by
 rw[Em]
 have hb:=fun W=>RO x a W
 generalize behind x a=r at*
 obtain⟨s,q⟩:=a
 dsimp only at hc0 hc1
 have hne:¬B=w.heap.size:=ah
 go_enter Tryz.func178,Tryz.ntmps178
 ((go_wp2_with fail);(with_reducible refine(hb _).mono ?_);(rintro e w1 ⟨rfl,hb1⟩);(have hz1:=hb1.size);(try simp only[World.size_alloc,World.size_setCell] at hz1))
 go_wp2_with fail
 go_ret
 exact⟨rfl,aD⟩
theorem WJ(l:List Al)(a:Al)(B:Nat)(w:World)(hB:B<w.heap.size)(hc0:w.cell? ⟨B,0,none⟩=some (.int .u64 a.1))(hc1:w.cell? ⟨B,1,none⟩=some (.int .i64 a.2))(g:Option Nat)(hg:some B≠g):
  Pred Tryz.prog w g 178 #[.pointer (some ⟨B,0,none⟩)] (Hz a) (qh l):=
 ⟨WK,fun w' hw x hm=>by
  obtain⟨n,_,rfl⟩:=List.mem_map.1 hm
  exact abf n a B w' (Nat.lt_of_lt_of_le hB hw.size) ((World.cell?_of_block (a:=⟨B,0,none⟩) (hw.block B hB hg)).trans hc0) ((World.cell?_of_block (a:=⟨B,1,none⟩) (hw.block B hB hg)).trans hc1)⟩
def Ep(pid:Int):Value→Bool:=fun v=>match v with|.agg cs=>(match cs.toList with|[_,.int _ p]=>decide (p=pid)|_=>false)|_=>false
theorem SN(pid:Int)(x:Al):Ep pid (Lu x)=decide (x.2=pid):=rfl
theorem pJ:Body Tryz.prog 189:=eZ Tryz.func189 aj aj
theorem qW(x:Al)(pid:Int)(B:Nat)(w:World)(hB:B<w.heap.size)(hc0:w.cell? ⟨B,0,none⟩=some (.int .i64 pid)):
  Calls Tryz.prog 189 #[Lu x,.pointer (some ⟨B,0,none⟩)] w fun e w'=>e=.returned (.bool (Ep pid (Lu x)))∧Below w.heap.size w w':=by
 rw[SN]
 have hne:¬B=w.heap.size:=ah
 obtain⟨t,p⟩:=x
 dsimp only
 by_cases h:p=pid
 ·subst h
  go_enter Tryz.func189,Tryz.ntmps189
  exact IE
 ·have h':(p==pid)=false:=by simpa using h
  go_enter Tryz.func189,Tryz.ntmps189
  exact oO
theorem zB(l:List Al)(pid:Int)(B:Nat)(w:World)(hB:B<w.heap.size)(hc0:w.cell? ⟨B,0,none⟩=some (.int .i64 pid))(g:Option Nat)(hg:some B≠g):
  Pred Tryz.prog w g 189 #[.pointer (some ⟨B,0,none⟩)] (Ep pid) (qh l):=
 ⟨pJ,fun w' hw x hm=>by
  obtain⟨n,_,rfl⟩:=List.mem_map.1 hm
  exact qW n pid B w' (Nat.lt_of_lt_of_le hB hw.size) ((World.cell?_of_block (a:=⟨B,0,none⟩) (hw.block B hB hg)).trans hc0)⟩
def gM(l:List Al)(pid:Int):List Al:=l.filter fun a=>decide (a.2≠pid)
theorem Wj(l:List Al)(pid:Int):(qh l).filter (fun v=>!Ep pid v)=qh (gM l pid):=by
 rw[qh,qh,List.filter_map]
 congr 1
 apply List.filter_congr
 intro y _
 simp[SN]
theorem AY(v:Value)(l:List Al)(pid:Int)(w:World)(hv:Sl w true 2 v (qh l))(hby:l.length*16≤140737488355328):
  Calls Tryz.prog 152 #[v,.int .i64 pid] w fun e w'=>∃v',e=.returned v'∧Sl w' true 2 v' (qh (gM l pid))∧(∀b,v'.ownBlock=some b→w.heap.size≤b)∧Below w.heap.size w w':=by
 have HV:=Lib.hid hv
 have HE:=Lib.hid (Wj l pid)
 clear hv
 go_enter Tryz.func152,Tryz.ntmps152
 go_wp2_with fail
 with_reducible refine(DJ v (qh l) _ (HV.out.below aD) (by rw[qO];exact hby)).mono ?_
 rintro e w2 ⟨v2,rfl,ho2,hb2⟩
 have hz2:=hb2.size
 simp only[World.size_alloc] at hz2
 (have b1:aC w2 w.heap.size #[.int .i64 pid] 3:=pW);(obtain⟨hc1,hf1,hl1,hn1,hm1⟩:=b1.rules);(have K1:=Lib.hid b1);(clear b1)
 have lV:=Lib.hid (ho2.le (base':=w.heap.size+1) cZ)
 have hB2:some w.heap.size≠v2.ownBlock:=fun h=>by have:=lV.out.fP _ h.symm;omega
 have yO:=CO v2 (qh l) 189 #[.pointer (some ⟨w.heap.size,0,none⟩)] (Ep pid) w2 (w.heap.size+1) (fun x hx=>by obtain⟨a,_,rfl⟩:=List.mem_map.1 hx;exact⟨_,_,rfl⟩) lV.out (zB l pid w.heap.size w2 hl1 (hc1 0) v2.ownBlock hB2)
 rw[HE.out] at yO
 have HD:=Lib.hid yO
 have hbw:Below w.heap.size w w2:=aD
 clear ho2 yO hc1 hf1 hl1 hn1 hm1
 go_wp2_with fail
 with_reducible refine HD.out.mono ?_
 rintro e w4 ⟨v4,rfl,hs4,hw4,hg4⟩
 have G9:=Lib.hid hs4
 have HW4:=Lib.hid hw4
 have hb4:Below w.heap.size w w4:=lV.out.below hg4 hbw ah ah
 clear hs4 hg4 hw4
 go_wp2_with fail
 go_ret
 exact⟨_,rfl,G9.out,fun b hb=>by have:=lV.out.fP b (by rw[←HW4.out];exact hb);omega,hb4⟩
theorem AZ(v:Value)(l:List Al)(pid:Int)(w:World)(hv:Sl w true 2 v (qh l))(hby:l.length*16≤140737488355328):
  Calls Tryz.prog 152 #[v,.int .i64 pid] w fun e w'=>∃v',e=.returned v'∧Sl w' true 2 v' (qh (gM l pid))∧Below w.heap.size w w':=
 (AY v l pid w hv hby).mono fun e w' ⟨v',h1,h2,_,h3⟩=>⟨v',h1,h2,h3⟩
end Go.Proofs.YtgmodehldmahiaaGreatDoor.Sleep
namespace Go.Proofs.YtgmodehldmahiaaGreatDoor.Sleep
open Go Go.RowKit Go.Tm
def oL(l:List Al)(a:Al):List Al:=l.takeWhile (fun x=>!behind x a)++a::l.dropWhile (fun x=>!behind x a)
theorem rX{α:Type}(p:α→Bool)(l:List α):l.take (l.takeWhile p).length=l.takeWhile p∧l.drop (l.takeWhile p).length=l.dropWhile p:=by
 have h:=List.takeWhile_append_dropWhile (p:=p) (l:=l)
 constructor
 ·conv=>lhs;rw[←h]
  rw[List.takeWhile_append_dropWhile]
  conv=>lhs;arg 2;rw[←h]
  exact List.take_left' rfl
 ·conv=>lhs;arg 2;rw[←h]
  exact List.drop_left' rfl
theorem uE{α:Type}(p:α→Bool)(l:List α):(l.takeWhile p).length≤l.length:=by
 have h:=congrArg List.length (List.takeWhile_append_dropWhile (p:=p) (l:=l))
 simp only[List.length_append] at h
 omega
theorem WI(l:List Al)(a:Al):(qh l).take (l.takeWhile (fun x=>!behind x a)).length++Lu a::(qh l).drop (l.takeWhile (fun x=>!behind x a)).length=qh (oL l a):=by
 have h:=rX (fun x=>!behind x a) l
 unfold oL
 rw[qh,qh,←List.map_take,←List.map_drop,h.1,h.2,List.map_append,List.map_cons]
theorem VW(l:List Al)(a:Al):(idx (Hz a) (qh l)=-1∧(l.takeWhile (fun x=>!behind x a)).length=l.length)∨
  ((l.takeWhile (fun x=>!behind x a)).length<l.length∧idx (Hz a) (qh l)=((l.takeWhile (fun x=>!behind x a)).length:Nat)):=by
 induction l with
 |nil=>left;exact⟨rfl,rfl⟩
 |cons x r ih=>
  by_cases hb:behind x a=true
  ·right
   have h1:(x::r).takeWhile (fun x=>!behind x a)=[]:=by simp[hb]
   rw[h1]
   exact⟨aI,AQ (i:=0) (x:=Lu x) rfl (by rw[Em];exact hb) (by intro j y hj;omega)⟩
  ·have hb':behind x a=false:=by simpa using hb
   have h1:(x::r).takeWhile (fun x=>!behind x a)=x::r.takeWhile (fun x=>!behind x a):=by simp[hb']
   rw[h1]
   rcases ih with⟨h2,h3⟩|⟨h2,h3⟩
   ·left
    refine⟨?_,o_⟩
    rcases jH (Hz a) (qh (x::r)) with⟨h,_⟩|⟨i,y,h,hy,hp,fG⟩
    ·exact h
    ·exfalso
     cases i with
     |zero=>
      simp at hy
      subst hy
      rw[Em,hb'] at hp
      cases hp
     |succ i=>
      have hy':(qh r)[i]?=some y:=by simpa using hy
      rcases jH (Hz a) (qh r) with⟨_,hall⟩|⟨j,z,hj,_⟩
      ·rw[hall y (List.mem_of_getElem? hy')] at hp;cases hp
      ·omega
   ·right
    refine⟨BI,?_⟩
    rcases jH (Hz a) (qh r) with⟨h,_⟩|⟨j,z,hj,hz,hp,fG⟩
    ·omega
    ·have hje:j=(r.takeWhile (fun x=>!behind x a)).length:=by omega
     have:=AQ (p:=Hz a) (xs:=qh (x::r)) (i:=j+1) (x:=z) (by simpa using hz) hp (by
      intro k y hk hy
      cases k with
      |zero=>simp at hy;subst hy;rw[Em];exact hb'
      |succ k=>exact fG k y ah (by simpa using hy))
     rw[this]
     simp[hje]
theorem Ny(a:Al):(Lu a).cells=#[.int .u64 a.1,.int .i64 a.2]:=rfl
def SA(w:World)(p:Nat)(a:Al)(W:World):Prop:=
 W.cell? ⟨p,0,none⟩=some (.int .u64 a.1)∧W.cell? ⟨p,1,none⟩=some (.int .i64 a.2)∧Below w.heap.size w W
theorem Nq{W W':World}{a:Addr}{v:Value}(hb:Below W.heap.size W W')(h:W.cell? a=some v):W'.cell? a=some v:=(Below.cell hb (block_lt_of_cell h)).trans h
theorem SA.keep{w:World}{p:Nat}{a:Al}{W W':World}(h:SA w p a W)(hb:Below W.heap.size W W'):SA w p a W':=by
 obtain⟨h0,h1,h4⟩:=h
 exact⟨Nq hb h0,Nq hb h1,h4.trans (hb.mono h4.size)⟩
theorem TJ(v:Value)(l:List Al)(a:Al)(w:World)(hv:Sl w true 2 v (qh l))(hby:(l.length+1)*16≤140737488355328):
  Calls Tryz.prog 148 #[v,Lu a] w fun e w'=>∃v',e=.returned v'∧Sl w' true 2 v' (qh (oL l a))∧(∀b,v'.ownBlock=some b→w.heap.size≤b)∧Below w.heap.size w w':=by
 have HV:=Lib.hid hv
 have HAS:=Lib.hid (WI l a)
 have hI:=fun W hs hB h0 h1=>vM v (qh l) 178 #[.pointer (some ⟨w.heap.size,0,none⟩)] (Hz a) W hs (WJ l a w.heap.size W hB h0 h1 none aI)
 have hil:=uE (fun x=>!behind x a) l
 have hcl:=fun W h=>DJ v (qh l) W h (by rw[qO];omega)
 have hidx:=VW l a
 generalize(l.takeWhile (fun x=>!behind x a)).length=i at*
 have HI:=Lib.hid hI
 have OG:=Lib.hid hcl
 obtain⟨av,cap,rfl,hl⟩:=hv.shape
 rw[qO] at hl HV HI OG⊢
 clear hv hI hcl
 have hax:=ahr a
 rcases hidx with⟨hi1,hi2⟩|⟨hi1,hi2⟩
 ·
  subst hi2
  rw[hi1] at HI
  clear hi1
  go_enter Tryz.func148,Tryz.ntmps148
  go_wp2_with fail
  with_reducible refine(HI.out _ (HV.out.below ?_) ?_ ?_ ?_).mono ?_
  focus exact bl
  focus(simp only[World.size_alloc];omega)
  focus exact(aC.new _ _ _).rules.1 0
  focus exact(aC.new _ _ _).rules.1 1
  rintro e w1 ⟨rfl,hb1⟩
  have hz1:=hb1.size
  simp only[World.size_alloc] at hz1
  (have b1:aC w1 w.heap.size #[.int .u64 a.1,.int .i64 a.2] 129:=pW);(obtain⟨hc1,hf1,hl1,hn1,hm1⟩:=b1.rules);(have K1:=Lib.hid b1);(clear b1)
  have hbw:Below w.heap.size w w1:=aD
  have TU:=Lib.hid (HV.out.below hbw)
  have hP0:=hc1 0
  have hP1:=hc1 1
  have hS0:SA w1 w.heap.size a w1:=⟨hP0,hP1,Below.refl _ _⟩
  clear hc1 hf1 hl1 hn1 hm1 HI hb1
  go_wp2_with fail
  go_region_held3 (fun W=>W.cell? ⟨w.heap.size,0,none⟩=some (.int .u64 a.1)∧W.cell? ⟨w.heap.size,1,none⟩=some (.int .i64 a.2)∧Below w1.heap.size w1 W) ((refine SA.keep hS0 ?_;exact bl))
   ((first
     |(go_at_call 181;with_reducible refine(OG.out _ (TU.out.below aD)).mono ?_;rintro en w3 ⟨v3,rfl,ho3,hb3⟩;(have hz3:=hb3.size);(try simp only[bE,dh,World.size_alloc] at hz3);(have r_:=Lib.hid ho3);clear ho3)
     |(go_at_call 180;with_reducible refine(Bf v3 (qh l) l.length (Lu a) _ _ w1.heap.size ((r_.out.le (base':=w1.heap.size) ru).kept aD) ?_ hax ?_ ?_ ?_ ?_).mono ?_;(focus(rw[qO];omega));(focus(rw[Ny];exact bx));(focus(intro b hb;(have h1:=r_.out.fP b hb);(have h2:=(r_.out.row.lt b hb).2);(try simp only[bE,dh,World.size_alloc] at h1 h2⊢);omega));(exact adL);(focus(rw[qO];exact hby));rintro en w5 ⟨v5,rfl,Iq,hg5⟩;(have hb5:Below w1.heap.size w1 w5:=(((r_.out.le (base':=w1.heap.size) ru).kept aD)).below hg5 aD (Nat.le_refl _) ru);(have LG:=Lib.hid Iq);clear Iq hg5)))
  all_goals
   go_wp2_with fail
   go_ret
   refine⟨_,rfl,?_,fun b hb=>by have:=LG.out.fP b hb;omega,hbw.trans (hb5.mono hbw.size)⟩
   have h:=LG.out.sl
   rw[HAS.out] at h
   exact h
 ·
  rw[hi2] at HI
  clear hi2
  have hn1:¬(i:Int)<0:=ah
  go_enter Tryz.func148,Tryz.ntmps148
  go_wp2_with fail
  with_reducible refine(HI.out _ (HV.out.below ?_) ?_ ?_ ?_).mono ?_
  focus exact bl
  focus(simp only[World.size_alloc];omega)
  focus exact(aC.new _ _ _).rules.1 0
  focus exact(aC.new _ _ _).rules.1 1
  rintro e w1 ⟨rfl,hb1⟩
  have hz1:=hb1.size
  simp only[World.size_alloc] at hz1
  (have b1:aC w1 w.heap.size #[.int .u64 a.1,.int .i64 a.2] 129:=pW);(obtain⟨hc1,hf1,hl1,hn1,hm1⟩:=b1.rules);(have K1:=Lib.hid b1);(clear b1)
  have hbw:Below w.heap.size w w1:=aD
  have TU:=Lib.hid (HV.out.below hbw)
  have hP0:=hc1 0
  have hP1:=hc1 1
  have hS0:SA w1 w.heap.size a w1:=⟨hP0,hP1,Below.refl _ _⟩
  clear hc1 hf1 hl1 hn1 hm1 HI hb1
  go_wp2_with fail
  go_region_held3 (fun W=>W.cell? ⟨w.heap.size,0,none⟩=some (.int .u64 a.1)∧W.cell? ⟨w.heap.size,1,none⟩=some (.int .i64 a.2)∧Below w1.heap.size w1 W) ((refine SA.keep hS0 ?_;exact bl))
   ((first
     |(go_at_call 181;with_reducible refine(OG.out _ (TU.out.below aD)).mono ?_;rintro en w3 ⟨v3,rfl,ho3,hb3⟩;(have hz3:=hb3.size);(try simp only[bE,dh,World.size_alloc] at hz3);(have r_:=Lib.hid ho3);clear ho3)
     |(go_at_call 180;with_reducible refine(Bf v3 (qh l) i (Lu a) _ _ w1.heap.size ((r_.out.le (base':=w1.heap.size) ru).kept aD) ?_ hax ?_ ?_ ?_ ?_).mono ?_;(focus(rw[qO];omega));(focus(rw[Ny];exact bx));(focus(intro b hb;(have h1:=r_.out.fP b hb);(have h2:=(r_.out.row.lt b hb).2);(try simp only[bE,dh,World.size_alloc] at h1 h2⊢);omega));(exact adL);(focus(rw[qO];exact hby));rintro en w5 ⟨v5,rfl,Iq,hg5⟩;(have hb5:Below w1.heap.size w1 w5:=(((r_.out.le (base':=w1.heap.size) ru).kept aD)).below hg5 aD (Nat.le_refl _) ru);(have LG:=Lib.hid Iq);clear Iq hg5)))
  all_goals
   go_wp2_with fail
   go_ret
   refine⟨_,rfl,?_,fun b hb=>by have:=LG.out.fP b hb;omega,hbw.trans (hb5.mono hbw.size)⟩
   have h:=LG.out.sl
   rw[HAS.out] at h
   exact h
theorem KH(v:Value)(l:List Al)(a:Al)(w:World)(hv:Sl w true 2 v (qh l))(hby:(l.length+1)*16≤140737488355328):
  Calls Tryz.prog 148 #[v,Lu a] w fun e w'=>∃v',e=.returned v'∧Sl w' true 2 v' (qh (oL l a))∧Below w.heap.size w w':=
 (TJ v l a w hv hby).mono fun e w' ⟨v',h1,h2,_,h3⟩=>⟨v',h1,h2,h3⟩
end Go.Proofs.YtgmodehldmahiaaGreatDoor.Sleep
namespace Go.Proofs.YtgmodehldmahiaaGreatDoor.Sleep
open Go Go.RowKit Go.Tm
end Go.Proofs.YtgmodehldmahiaaGreatDoor.Sleep
namespace Go.Proofs.YtgmodehldmahiaaGreatDoor.Sleep
open Go Go.RowKit Go.Tm
theorem j5:Ty Tryz.prog 3 1 false:=⟨aj,aj,aB,aj⟩
theorem p9:(Tryz.prog.info? 3).map (fun i=>(i.zero,i.size,i.bytes))=some (some (.int .i64 0),1,8):=by kernel_rfl
def sG(l:List Al)(now:Int):Nat:=(l.takeWhile (fun x=>decide (x.1≤now))).length
def qI(l:List Al)(now:Int):List Int:=(l.takeWhile (fun x=>decide (x.1≤now))).map Prod.snd
def Pj(l:List Al)(now:Int):List Al:=l.dropWhile (fun x=>decide (x.1≤now))
theorem TD(l:List Al)(now:Int):sG l now≤l.length:=uE _ l
theorem acH(l:List Al)(now:Int):qI l now=(l.take (sG l now)).map Prod.snd:=by unfold qI sG;rw[(rX _ l).1]
theorem acG(l:List Al)(now:Int):Pj l now=l.drop (sG l now):=by unfold Pj sG;rw[(rX _ l).2]
theorem Nk(l:List Al)(now:Int):(qI l now).length=sG l now:=by simp[qI,sG]
theorem ag5{l:List Al}{now:Int}{i:Nat}{x:Al}(hx:l[i]?=some x)(h:i<sG l now):x.1≤now:=by
 unfold sG at h
 have h1:l.take (l.takeWhile (fun x=>decide (x.1≤now))).length=_:=(rX (fun x:Al=>decide (x.1≤now)) l).1
 have h2:(l.takeWhile (fun x=>decide (x.1≤now)))[i]?=some x:=by rw[←h1,List.getElem?_take,if_pos h];exact hx
 have:=List.all_eq_true.1 (List.all_takeWhile (p:=fun x:Al=>decide (x.1≤now)) (l:=l)) x (List.mem_of_getElem? h2)
 simpa using this
theorem acu(n:Int):Val false 1 (.int .i64 n):=⟨rfl,rfl⟩
theorem aaV{l:List Al}{now:Int}{x:Al}(hx:l[sG l now]?=some x):now<x.1:=by
 have h2:=(rX (fun x:Al=>decide (x.1≤now)) l).2
 have h3:(l.drop (sG l now))[0]?=some x:=by rw[List.getElem?_drop,Nat.add_zero];exact hx
 unfold sG at h3
 rw[h2] at h3
 cases hd:l.dropWhile (fun x=>decide (x.1≤now)) with
 |nil=>rw[hd] at h3;simp at h3
 |cons y r=>
  rw[hd] at h3
  simp at h3
  subst h3
  have hne:l.dropWhile (fun x=>decide (x.1≤now))≠[]:=by rw[hd];simp
  have:=List.head_dropWhile_not (fun x:Al=>decide (x.1≤now)) hne
  simp only[hd,List.head_cons] at this
  simpa using this
theorem acE(v:Value)(l:List Al)(now:Int)(w:World)(hv:Sl w true 2 v (qh l))(hby:l.length*16≤140737488355328):
  Calls Tryz.prog 108 #[v,.int .u64 now] w fun e w'=>∃v1 v2,e=.returned (.tuple #[v1,v2])∧bB w' w.heap.size 3 false 1 v1 (ints (qI l now))∧Sl w' true 2 v2 (qh (Pj l now))∧(∀b,v2.ownBlock=some b→v.ownBlock=some b)∧Below w.heap.size w w':=by
 have HV:=Lib.hid hv
 have hkl:=TD l now
 obtain⟨i0,hi0,hq0,hq1,hq2⟩:=info_parts p9
 have HI:=Lib.hid (And.intro hi0 (And.intro hq0 (And.intro hq1 hq2)))
 clear hi0 hq0 hq1 hq2
 obtain⟨u2,hrd,hsd,Ip⟩:=hv.U9 (t:=47) iO Tryz.underlying47 (sG l now) (sG l now) rfl (by rw[qO];exact hkl)
 have HSD:=Lib.hid (show Sl w true 2 u2 (qh (Pj l now)) by rw[acG,qh,List.map_drop];exact hsd)
 have HRD:=Lib.hid hrd
 have HOB:=Lib.hid Ip
 obtain⟨a,cap,rfl,hl⟩:=hv.shape
 rw[qO] at hl HV HRD HOB⊢
 clear hv hrd hsd Ip
 go_enter Tryz.func108,Tryz.ntmps108
 go_wp2_with fail
 go_loopw [6,10] (fun u t W=>∃(i:Nat) (s:Value),i≤sG l now∧s=u∧t=.int .i64 i∧Below w.heap.size w W∧bB W w.heap.size 3 false 1 u (ints ((l.take i).map Prod.snd))) (fun _ t _=>l.length-(intOf t).toNat)
 case atStart=>exact⟨0,_,Nat.zero_le _,rfl,rfl,Below.refl _ _,bB.nil⟩
 case round=>
  obtain⟨i,s,hi,rfl,rfl,hbw,hown⟩:=hrel
  have hws:=hbw.size
  have HO:=Lib.hid hown
  clear hown
  have hwr:IntKind.i64.wrap ((i:Int)+1)=i+1:=IntWalk.i64_in _ ah
  by_cases hk:i<sG l now
  ·have hil:i<l.length:=by omega
   obtain⟨x,hx⟩:∃x,l[i]?=some x:=⟨_,List.getElem?_eq_getElem hil⟩
   have hle:=ag5 hx hk
   have hle':¬now<x.1:=ah
   obtain⟨b,off,rfl,hb,c0,c1⟩:=Sl.al (HV.out.below hbw) hx
   have HT:=Lib.hid (show ints ((l.take (i+1)).map Prod.snd)=ints ((l.take i).map Prod.snd)++[.int .i64 x.2] by rw[eH hx];simp)
   clear hx
   go_wp2_with(first|(refine eO (v:=s) (xs:=ints ((l.take i).map Prod.snd)) (base:=w.heap.size) rfl _ _ 44 rfl j5 i0 (.int .i64 0) 8 Tryz.underlying44 HI.out.1 HI.out.2.1 HI.out.2.2.1 HI.out.2.2.2 rfl ?_ ?_ (.slice (some ⟨wr.heap.size,0,none⟩) 1 1) ([.int .i64 x.2]) ?_ ?_ ?_ ?_ ?_ ?_;(exact aG);(focus(exact(HO.out.kept aD)));(exact aG);(focus(exact(Sl.qE (acu x.2) rfl)));(exact yh);(exact yg);(exact yj);(intro v4 w4 qR hg4 xY;(have hb4:Below w.heap.size w w4:=(HO.out.kept aD).below hg4 aD (Nat.le_refl _) cZ);(have sj:=Lib.hid qR);(clear qR hg4 xY)))|fail)
   go_roundw
   case rel=>exact⟨i+1,_,ah,rfl,bI,hb4,by rw[HT.out];exact sj.out⟩
   case measure=>simp[intOf];omega
  ·obtain rfl:i=sG l now:=by omega
   have hlen:((l.take (sG l now)).map Prod.snd).length=sG l now:=aR
   have HOP:=Lib.hid (show bB wr w.heap.size 3 false 1 s (ints (qI l now)) by rw[acH];exact HO.out)
   obtain⟨as_,caps,hs,_⟩:=HOP.out.sl.shape
   rw[gT,Nk] at hs
   subst hs
   have hrd:=HRD.out
   by_cases hil:sG l now<l.length
   ·obtain⟨x,hx⟩:∃x,l[sG l now]?=some x:=⟨_,List.getElem?_eq_getElem hil⟩
    have hgt:=aaV hx
    obtain⟨b,off,rfl,hb,c0,c1⟩:=Sl.al (HV.out.below hbw) hx
    clear hx
    exact aeH
   ·exact aeH
end Go.Proofs.YtgmodehldmahiaaGreatDoor.Sleep
namespace Go.Proofs.YtgmodehldmahiaaGreatDoor.Sleep
open Go Go.RowKit Go.Tm
def akO(x:Al):Prop:=(Lit.int .u64 x.1).wf=true∧(Lit.int .i64 x.2).wf=true
theorem ZB(n:Nat)(h:n<18446744073709551616):18446744073709551615^^^n=18446744073709551615-n:=by
 have h1:=BitVec.toNat_xor (BitVec.allOnes 64) (BitVec.ofNat 64 n)
 rw[BitVec.allOnes_xor,BitVec.toNat_not,BitVec.toNat_allOnes,BitVec.toNat_ofNat,Nat.mod_eq_of_lt (show n<2^64 by omega)] at h1
 rw[show(2:Nat)^64-1=18446744073709551615 by decide] at h1
 exact h1.symm
theorem Ca(now n:Int)(w:World)(h1:0≤now∧now≤18446744073709551615)(h2:0≤n∧n≤4294967295):
  Calls Tryz.prog 92 #[.int .u64 now,.int .u32 n] w fun e w'=>e=.returned (.int .u64 (now+min n (18446744073709551615-now)))∧Below w.heap.size w w':=by
 obtain⟨N,rfl⟩:∃N:Nat,now=N:=⟨now.toNat,ah⟩
 have hx:bits .xor .u64 IntKind.u64.max (N:Int)=18446744073709551615-N:=by
  have:=bits_xor_u64_nat 18446744073709551615 N ah ah
  rw[ZB N ah] at this
  have he:((18446744073709551615-N:Nat):Int)=18446744073709551615-N:=ah
  rw[he] at this
  exact this
 have hw1:IntKind.u64.wrap ((N:Int)+n)=if n≤18446744073709551615-N then(N:Int)+n else N+n-18446744073709551616:=by
  rw[IntKind.wrap_u64];split<;>omega
 have hw2:IntKind.u64.wrap ((N:Int)+(18446744073709551615-N))=18446744073709551615:=by
  rw[IntKind.wrap_u64];omega
 have hsg:IntKind.u64.signed=false:=rfl
 have hmx:IntKind.u64.max=18446744073709551615:=rfl
 have hx':bits .xor .u64 18446744073709551615 (N:Int)=18446744073709551615-N:=hx
 by_cases hle:n≤18446744073709551615-(N:Int)
 ·rw[if_pos hle] at hw1
  have hmin:min n (18446744073709551615-(N:Int))=n:=ah
  rw[hmin]
  go_enter Tryz.func92,Tryz.ntmps92
  go_wp2_with fail
  all_goals go_ret
  all_goals exact⟨by first|(simp[hw1];done)|(simp[hw2];omega)|(simp[hw1,hw2];omega),aD⟩
 ·rw[if_neg hle] at hw1
  have hmin:min n (18446744073709551615-(N:Int))=18446744073709551615-N:=ah
  rw[hmin]
  go_enter Tryz.func92,Tryz.ntmps92
  go_wp2_with fail
  all_goals go_ret
  all_goals exact⟨by first|(simp[hw2];done)|(simp[hw2];omega)|(simp[hw1,hw2];omega),aD⟩
end Go.Proofs.YtgmodehldmahiaaGreatDoor.Sleep
