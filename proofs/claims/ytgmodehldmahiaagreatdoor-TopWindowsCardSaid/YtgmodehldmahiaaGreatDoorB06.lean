/- Part 6 of 53 of the proof of topAlone_and_topApart. Conditions: see each. -/
import Derived.Test.YtgmodehldmahiaaGreatDoorB01
import Derived.Test.YtgmodehldmahiaaGreatDoorRows
import Derived.Test.YtgmodehldmahiaaGreatDoorB02
set_option linter.unusedVariables false
set_option linter.unusedSimpArgs false
set_option maxRecDepth 8192
set_option maxHeartbeats 40000000
namespace Go.Proofs.YtgmodehldmahiaaGreatDoor.Sleep
open Go Go.RowKit Go.Tm
theorem jG:Ty Tryz.prog 129 2 true:=⟨ay,ay,aC,ay⟩
theorem Cz:(Tryz.prog.info? 129).map (fun i=>(i.zero,i.size,i.bytes))=some (some (.agg #[.int .u64 0,.int .i64 0]),2,16):=by kernel_rfl
theorem GJ(v:Value)(xs:List Value)(w:World)(hsl:Sl w true 2 v xs)(hbytes:xs.length*16≤140737488355328):
  Calls Tryz.prog 181 #[v] w fun e w'=>∃v',e=.returned v'∧bI w' w.heap.size 129 true 2 v' xs∧Below w.heap.size w w':=by
 have rF:=ah hsl
 obtain⟨hsz,a,cap,rfl,hl,hm,dL⟩:=hsl
 have hlen:xs.length≤maxLen:=aj
 cases a with
 |none=>
  have h0:xs=[]:=Bp
  subst h0
  have hnil:=fun(n c:Nat) (w:World)=>fE Tryz.prog (t:=47) (n:=n) (c:=c) Tryz.underlying47 w
  clear dL hsz hl hm hlen
  go_enter Tryz.func181,Tryz.ntmps181
  exact Bq
 |some a=>
  have hnil:=fun(n c:Nat) (w:World)=>fD Tryz.prog (t:=47) (a:=a) (n:=n) (c:=c) Tryz.underlying47 w
  obtain⟨i0,hi,hz0,hz1,hz2⟩:=info_parts Cz
  have HI:=ah hi
  have HZ:=ah (And.intro hz0 (And.intro hz1 hz2))
  have HS:=ah hsz
  clear hi hz0 hz1 hz2 dL hl hm hsz
  go_enter Tryz.func181,Tryz.ntmps181
  go_wp2_with(first|(refine wpList_append_own _ rfl _ _ 47 rfl w.heap.size 129 i0 (.agg #[.int .u64 0,.int .i64 0]) 2 16 Tryz.underlying47 HI.out HZ.out.1 HZ.out.2.1 HZ.out.2.2 rfl aC (.slice (some ⟨w.heap.size,0,none⟩) 0 0) 0 [] dw (World.ownsRow_made w #[] 0 (Nat.le_refl _) (Nat.zero_le _) rfl) a xs.length cap (flat xs) dw ?c1 ?c2 ?c3 ?c4 ?c5 ?c6 ?_)|fail)
  case c1=>exact fA HS.out
  case c2=>exact(rF.out.below ((Below.refl _ _).alloc (Nat.le_refl _) _)).news
  case c3=>exact jq HS.out
  case c4=>omega
  case c5=>omega
  case c6=>simp
  exact L9
theorem J8:Val true 2 (.agg #[.int .u64 0,.int .i64 0]):=⟨_,rfl,rfl,FX⟩
theorem Ei(v:Value)(xs:List Value)(i:Nat)(x:Value)(U:Nat)(w:World)(base:Nat)(ho:bI w base 129 true 2 v xs)(hi:i≤xs.length)(hx:Val true 2 x)(jo:aD w U x.cells 129)
  (hU:∀b,v.ownBlock=some b→b≠U)(hbase:base≤w.heap.size)(hby:(xs.length+1)*16≤140737488355328):
  Calls Tryz.prog 180 #[v,.int .i64 i,.slice (some ⟨U,0,none⟩) 1 1] w fun e w'=>∃v',e=.returned v'∧bI w' base 129 true 2 v' (xs.take i++x::xs.drop i)∧w.grownBy w' v.ownBlock:=by
 obtain⟨i0,qN,oq,gD,mh⟩:=info_parts Cz
 have HI:=ah (And.intro qN (And.intro oq (And.intro gD mh)))
 clear qN oq gD mh
 have HU:=ah (Sl.Nn (ag:=true) (k:=2) hx jo)
 have HO:=ah ho
 have ad6:xs.length+1≤9223372036854775807:=aj
 by_cases CW:i=xs.length
 ·subst CW
  obtain⟨_,a,cap,rfl,hlc,hcm,_⟩:=ho.sl
  have HL:=ah (show xs.take xs.length++x::xs.drop xs.length=xs++[x] by simp)
  clear ho jo hU
  by_cases hce:cap=xs.length
  ·subst hce
   go_enter Tryz.func180,Tryz.ntmps180
   go_wp2_with(first|(refine dJ (v:= .slice a xs.length xs.length) (xs:=xs) (base:=base) rfl _ _ 47 rfl jG i0 (.agg #[.int .u64 0,.int .i64 0]) 16 Tryz.underlying47 HI.out.1 HI.out.2.1 HI.out.2.2.1 HI.out.2.2.2 rfl ?_ ?_ (.slice (some ⟨U,0,none⟩) 1 1) ([x]) ?_ ?_ ?_ ?_ ?_ ?_;(exact aM);(focus(exact HO.out));(exact aM);(focus(exact HU.out));(exact vV);(exact vU);(exact vW);(intro v4 w4 qz hg4 xQ;have sD:=ah qz;have M6:=ah hg4;clear qz hg4 xQ))|fail)
   exact Ni
  ·go_enter Tryz.func180,Tryz.ntmps180
   go_wp2_with(first|(refine dJ (v:= .slice a xs.length cap) (xs:=xs) (base:=base) rfl _ _ 47 rfl jG i0 (.agg #[.int .u64 0,.int .i64 0]) 16 Tryz.underlying47 HI.out.1 HI.out.2.1 HI.out.2.2.1 HI.out.2.2.2 rfl ?_ ?_ (.slice (some ⟨U,0,none⟩) 1 1) ([x]) ?_ ?_ ?_ ?_ ?_ ?_;(exact aM);(focus(exact HO.out));(exact aM);(focus(exact HU.out));(exact vV);(exact vU);(exact vW);(intro v4 w4 qz hg4 xQ;have sD:=ah qz;have M6:=ah hg4;clear qz hg4 xQ))|fail)
   exact Ni
 have hlt:i<xs.length:=aj
 obtain⟨g,cap,rfl,hlc,hcm,hbg,qI,_,_⟩:=ho.form aj
 unfold maxLen at hcm
 have MO:(Value.slice (some ⟨g,0,none⟩) xs.length cap).ownBlock=some g:=rfl
 rw[MO]
 have hgU:g≠U:=hU g rfl
 have amU:(i:Int)<xs.length:=aj
 have amT:((i:Int)==xs.length)=false:=qW
 have hwn:IntKind.i64.wrap ((xs.length:Int)+1)=xs.length+1:=IntWalk.i64_in _ aj
 have hwi:IntKind.i64.wrap ((i:Int)+1)=i+1:=IntWalk.i64_in _ aj
 have LV:¬cap=i:=aj
 have xq:=fun n W (h:n≤cap) (h':i≤n)=>rz (P:=Tryz.prog) (t:=47) jG Tryz.underlying47 g 0 n cap i i rfl h' h aj W
 by_cases hroom:xs.length+1≤cap
 ·
  have JD:¬(cap:Int)<(xs.length:Int)+1:=aj
  have ad5:(xs.length:Int)+1≤cap:=aj
  have am3:¬cap=i+1:=aj
  obtain⟨cur,hg,hcs,wK⟩:∃cur,w.heap[g]?=some (.cells cur 129 (0,0))∧cur.size=cap*2∧cur.toList.take (xs.length*2)=flat xs:=acJ
  have hgb:aD w g cur 129:=hg
  have hsz:∀w,(Go.sizeOf 129).run Tryz.prog w=.ok 2 w:=fun w=>by simp[sizeOf,typeInfo,HI.out.1,HI.out.2.2.1]
  have hov:∀lb cb,(callFunc 207 #[.slice (some ⟨U,0,none⟩) 1 1,.slice (some ⟨g,(i+1)*2,none⟩) lb cb]).run Tryz.prog w=.ok (.value (.bool false)) w:=fun lb cb=>by
   rw[run_callFunc_extern Tryz.func207 ay ay ay (e:=Extern.SlicesOverlaps.overlaps #[47,47] #[4]) ay,
    Lib.run_overlaps_apart w 47 4 129 Tryz.underlying47 2 hsz ⟨U,0,none⟩ ⟨g,(i+1)*2,none⟩ 1 1 lb cb (Ne.symm hgU) _ _ _ _ jo.shape hgb.shape (by rw[hcs];omega) (jo.rules.2.1 0) (jo.rules.2.1 _)]
   rfl
  have Iw:=fun W=>rz (P:=Tryz.prog) (t:=47) jG Tryz.underlying47 g 0 (xs.length+1) cap ((i:Int)+1) (i+1) aj aj hroom aj W
  have xq:=fun W=>xq (xs.length+1) W hroom aj
  have hval:=ho.val
  have hDl:(flat (xs.drop i)).length=(xs.length-i)*2:=acn
  have hD1:∀u∈flat (xs.drop i),u.oneCell'=true:=jq (fun y hy=>hval y (List.mem_of_mem_drop hy))
  have hDn:=(HO.out.sl.EX (m:=i) aj).news
  simp only[Nat.zero_add] at Iw xq hDn
  have HDN:=ah hDn
  have HD1:=ah hD1
  have XF:=ah jo
  have HGB:=ah hgb
  have L6:=ah wK
  have ak0:=ah hval
  clear ho hU hg hgb hsz hDn hD1 hval wK jo
  go_enter Tryz.func180,Tryz.ntmps180
  go_wp2_with fail
  clear hov
  ((refine gX 8 ay ay ?_);simp only[List.take_succ_cons,List.take_zero,List.drop_succ_cons,List.drop_zero];(repeat(go_big_quiet_step (fail)));(refine wpQuiet_nil ?_);intro _ hw';obtain⟨⟨dq,osq⟩,hw''⟩:=hw';subst hw'';have hq:=below_regrown w dq osq;generalize Go.Sort.grow (redrawn w dq) osq=w3 at*;have hz3:=hq.size)
  have hb3:aD w3 g cur 129:=HGB.out.below hq HGB.out.lt
  have QE:=ah hb3
  have IJ:∀j u,(flat (xs.drop i))[j]?=some u→w3.cell? ((⟨g,i*2,none⟩:Addr).add j)=some u:=fun j u hu=>by
   have:=HDN.out j u hu
   rw[addr_add] at this⊢
   exact(hq.cell (p:=⟨g,i*2+j,none⟩) HGB.out.lt).trans this
  have anP:=ah IJ
  have vP:(i+1)*2+(flat (xs.drop i)).length≤cur.size:=by
   have e3:(xs.length+1)*2≤cap*2:=Nat.mul_le_mul_right _ hroom
   rw[hDl,hcs];omega
  have Oz:min (xs.length+1-i) (xs.length-i)=xs.length-i:=aj
  have fF:=fun ty=>oh (P:=Tryz.prog) (t:=47) (ty:=ty) (k:=2) (ag:=true) (c:=cap-(i+1)) (cs:=cap-i) (n:=xs.length+1-i) (m:=xs.length-i) (o:=(i+1)*2) jG Tryz.underlying47 hb3 Vb IJ HD1.out vP
  obtain⟨C1,hC1⟩:∃C1,C1=(cur.toList.take ((i+1)*2)++flat (xs.drop i)++cur.toList.drop ((i+1)*2+(flat (xs.drop i)).length)).toArray:=⟨_,rfl⟩
  rw[←hC1] at fF
  have Ra:C1.size=cur.size:=acD
  have ac3:i*2+2≤C1.size:=by rw[Ra];omega
  have HC1:=ah hC1
  have HCP:=ah fF
  clear hb3 IJ fF hC1 Ra
  go_wp2_with(first|(refine wpList_copy_run rfl _ _ 47 47 rfl _ _ ?_ ?_ (HCP.out _) ?_;(focus(simp[Act.eval]));(focus(simp[Act.eval]));generalize XB:w3.setRow g C1=w4;((have hg4:aD w4 g C1 129:=by rw[←XB];exact setRow_heap w3 g cur _ _ (0,0) QE.out);(have hu4:aD w4 U x.cells 129:=by rw[←XB];exact((XF.out.below hq XF.out.lt).row g _ (Ne.symm hgU)));(have Q5:w3.grownBy w4 (some g):=by rw[←XB];exact⟨rfl,rfl,rfl,yx,fun b hb hne=>setRow_other w3 g b _ yB⟩);have M6:=ah hg4;have HU4:=ah (Sl.Nn (ag:=true) (k:=2) hx hu4);have ak5:=ah Q5;clear hg4 hu4 Q5 XB))|((have hl4:x.cells.toList.length=min 1 (xs.length+1-i)*2:=by rw[show min 1 (xs.length+1-i)=1 by omega,hx.len]);(have GR:∀j u,x.cells.toList[j]?=some u→w4.cell? ((⟨U,0,none⟩:Addr).add j)=some u:=by(have hnw:=HU4.out.news);simpa[flat] using hnw);(refine wpList_copy_run rfl _ _ 47 47 rfl (.slice (some ⟨g,i*2,none⟩) (xs.length+1-i) (cap-i)) (.slice (some ⟨U,0,none⟩) 1 1) ?_ ?_ (oh jG Tryz.underlying47 M6.out hl4 GR hx.one Vg) ?_);(focus(simp[Act.eval]));(focus(simp[Act.eval]));clear hl4 GR;generalize QA:w4.setRow g (C1.toList.take (i*2)++x.cells.toList++C1.toList.drop (i*2+x.cells.toList.length)).toArray=w5;have Y1:=ah QA;clear QA)|fail)
  go_ret
  have QA:=Y1.out
  subst QA
  have hC2:C1.toList.take (i*2)++x.cells.toList++C1.toList.drop (i*2+x.cells.toList.length)=cur.toList.take (i*2)++x.cells.toList++flat (xs.drop i)++cur.toList.drop (i*2+2+(flat (xs.drop i)).length):=by
   have h:=Cv cur.toList (flat (xs.drop i)) x.cells.toList (i*2) 2 hx.len Jh
   rw[HC1.out,show(i+1)*2=i*2+2 from Nat.succ_mul _ _]
   exact h
  exact acL
 ·
  obtain⟨m,hm⟩:∃m,i+m=xs.length+1:=⟨xs.length+1-i,aj⟩
  have JD:(cap:Int)<(xs.length:Int)+1:=aj
  have hwm:IntKind.i64.wrap ((xs.length:Int)+1-i)=m:=Jk
  have xq:=fun W=>xq xs.length W hlc aj
  simp only[Nat.zero_add] at xq
  have HDA:=ah (HO.out.sl.EX (m:=i) aj)
  have Qs:Val true 2 (.agg #[.int .u64 0,.int .i64 0]):=J8
  clear ho jo hU
  go_enter Tryz.func180,Tryz.ntmps180
  go_wp2_with(first|(refine ny (base:=base) rfl _ _ 47 3 rfl jG i0 (.agg #[.int .u64 0,.int .i64 0]) .i64 16 Tryz.underlying47 Tryz.underlying3 HI.out.1 HI.out.2.1 HI.out.2.2.1 HI.out.2.2.2 Qs g xs.length cap HO.out i m aj aj aj yA (by rw[hm];exact hby) hbase ?_ ?_ ?_;(focus(simp[Act.eval]));(focus(simp[Act.eval]));(intro jl w2 hc2 o7 hg2;have hb2:Below w.heap.size w w2:=bJ hg2;(have akg:¬jl=i:=by omega);have nR:=ah o7;have HU2:=ah (HU.out.below hb2);clear o7 hg2))|(refine wpList_copy_own (base:=base) rfl _ _ 47 rfl jG Tryz.underlying47 w.heap.size (i+m) jl (xs.take i++List.replicate m (.agg #[.int .u64 0,.int .i64 0])) [x] nR.out i (xs.length+1-i) (jl-i) ⟨U,0,none⟩ 1 HU2.out ?_ ?_ ?_ ?_ ?_;(focus(simp;omega));(focus(simp;omega));(focus(simp[Act.eval]));(focus(simp[Act.eval]));(intro w3 pz hg3;have uH:=ah pz;have hb3:Below w.heap.size w w3:=hb2.grown hg3 hb2.size ER;clear pz hg3))|fail)
  have Iw:=fun W=>rz (P:=Tryz.prog) (t:=47) jG Tryz.underlying47 w.heap.size 0 (xs.length+1) jl ((i:Int)+1) (i+1) aj aj aj aj W
  simp only[Nat.zero_add] at Iw
  simp only[Act.put,List.setIfInBounds_toArray,List.set_cons_succ,List.set_cons_zero,goInt,List.length_cons,List.length_nil]
  ((refine gX 8 ay ay ?_);simp only[List.take_succ_cons,List.take_zero,List.drop_succ_cons,List.drop_zero];(repeat(go_big_quiet_step (fail)));(refine wpQuiet_nil ?_);intro _ hw';obtain⟨⟨dq,osq⟩,hw''⟩:=hw';subst hw'';have hq:=below_regrown w3 dq osq;generalize Go.Sort.grow (redrawn w3 dq) osq=w4 at*;have xU:=hq.size)
  have hb4:Below w.heap.size w w4:=hb3.trans (hq.mono hb3.size)
  have sD:=ah (uH.out.kept hq)
  have ab7:=ah (HDA.out.below hb4)
  go_wp2_with(first|(refine wpList_copy_own (base:=base) rfl _ _ 47 rfl jG Tryz.underlying47 w.heap.size (i+m) jl _ (xs.drop i) sD.out (i+1) (xs.length-i) (jl-(i+1)) ⟨g,0+i*2,none⟩ (cap-i) ab7.out ?_ ?_ ?_ ?_ ?_;(focus(simp));(focus(simp;omega));(focus(simp[Act.eval]));(focus(simp[Act.eval]));(intro w5 MP nK;have Ht:=ah MP;have kV:Below w.heap.size w w5:=hb4.grown nK hb4.size ER;clear MP nK))|fail)
  go_ret
  refine⟨_,rfl,?_,aA kV _⟩
  have h:=Ht.out
  rw[hm] at h
  rw[←JY (z:= .agg #[.int .u64 0,.int .i64 0]) (x:=x) hlt hm]
  exact h
end Go.Proofs.YtgmodehldmahiaaGreatDoor.Sleep
namespace Go.Proofs.YtgmodehldmahiaaGreatDoor.Sleep
open Go Go.RowKit Go.Tm
theorem zu(v:Value)(xs:List Value)(mG:FuncId)(gI:Array Value)(p:Value→Bool)(w:World)(hsl:Sl w true 2 v xs)(hp:Pred Tryz.prog w none mG gI p xs):
  Calls Tryz.prog 177 #[v,.func (.func mG) #[] gI] w fun e w'=>e=.returned (.int .i64 (idx p xs))∧Below w.heap.size w w':=by
 obtain⟨hsz,a,cap,rfl,hl,hm,dL⟩:=hsl
 unfold maxLen at hm
 have hlen:xs.length≤9223372036854775807:=aj
 go_enter Tryz.func177,Tryz.ntmps177
 go_wp2_with fail
 go_loopw [8] (fun t wr=>∃i:Nat,i≤xs.length∧t=.int .i64 i∧Below w.heap.size w wr∧∀j y,j<i→xs[j]?=some y→p y=false) (fun t _=>xs.length-(intOf t).toNat)
 case atStart=>exact⟨0,Nat.zero_le _,rfl,Below.refl _ _,wR⟩
 case round=>
  obtain⟨i,hi,rfl,bZ,iq⟩:=hrel
  have HP:=ah iq
  clear iq
  by_cases hlt:i<xs.length
  ·obtain⟨x,hx⟩:∃x,xs[i]?=some x:=⟨_,List.getElem?_eq_getElem hlt⟩
   have jW:x∈xs:=List.mem_of_getElem? hx
   have HV:=ah (hsz _ jW)
   obtain⟨b,off,rfl,hb,hcell⟩:∃b off,a=some ⟨b,off,none⟩∧b<w.heap.size∧Cells wr b (off+i*2) x.cells.toList:=Br
   have HX:=ah hx
   have qP:=ah hcell
   clear hx hcell dL hsz
   have jS:=hp.asks wr (aA bZ none) _ jW
   have fJ:=hp.body
   unfold Body at fJ
   have HC:=ah jS
   clear jS hp
   cases jJ:p x
   ·have xS:=ah jJ
    rw[jJ] at HC
    clear jJ
    go_wp2_with(first|(refine aN rfl 129 _ rfl b (off+i*2) dw x jG HV.out qP.out ?_)|fail)
    exact L_
   ·have xS:=ah jJ
    rw[jJ] at HC
    clear jJ
    go_wp2_with(first|(refine aN rfl 129 _ rfl b (off+i*2) dw x jG HV.out qP.out ?_)|fail)
    exact Bt
  ·exact Bu
def amg(x:Value):Prop:=∃(fa fb:Int),x=.agg #[.int .u64 fa,.int .i64 fb]
theorem FI(v:Value)(xs:List Value)(mG:FuncId)(gI:Array Value)(p:Value→Bool)(w:World)(base:Nat)(dL:∀x∈xs,amg x)(ho:bI w base 129 true 2 v xs)(hp:Pred Tryz.prog w v.ownBlock mG gI p xs):
  Calls Tryz.prog 188 #[v,.func (.func mG) #[] gI] w fun e w'=>∃v',e=.returned v'∧Sl w' true 2 v' (xs.filter fun x=>!p x)∧v'.ownBlock=v.ownBlock∧w.grownBy w' v.ownBlock:=by
 have hI:=zu v xs mG gI p w ho.sl ⟨hp.body,fun w' hg x hx=>hp.asks w' ⟨hg.os,hg.tape,hg.output,hg.size,fun b hb _=>hg.block b hb aI⟩ x hx⟩
 rcases kU p xs with⟨hi,hall⟩|⟨i0,x0,hi,hx0,Mc,iq⟩
 ·rw[hi] at hI
  have HF:=ah (show xs.filter (fun x=>!p x)=xs from List.filter_eq_self.2 (fun x hx=>Je))
  have HO:=ah ho
  clear hp ho hall
  go_enter Tryz.func188,Tryz.ntmps188
  exact Rq
 ·rw[hi] at hI
  have af6:i0<xs.length:=(List.getElem?_eq_some_iff.1 hx0).1
  obtain⟨g,cap,rfl,hlc,hcm,hbg,qI,Hr,_⟩:=ho.form aj
  have hlen:xs.length≤9223372036854775807:=Jg
  have MO:(Value.slice (some ⟨g,0,none⟩) xs.length cap).ownBlock=some g:=rfl
  rw[MO] at hp⊢
  obtain⟨i1,qN,oq,gD,mh⟩:=info_parts Cz
  have GL:∀w,(zeroValue 129).run Tryz.prog w=.ok (.agg #[.int .u64 0,.int .i64 0]) w:=fun w=>by simp[zeroValue,typeInfo,qN,oq]
  have HZV:=ah GL
  clear qN oq gD mh GL Hr
  have Y6:=ah ho
  have HPR:=ah hp
  have fJ:=hp.body
  unfold Body at fJ
  have Da:xs.take i0=(xs.take (i0+1)).filter (fun x=>!p x):=Rs
  have EH:=ah Da
  have afY:IntKind.i64.wrap ((i0:Int)+1)=i0+1:=IntWalk.i64_in _ aj
  have abH:((i0:Int)==-1)=false:=qW
  clear ho hp iq Da hx0 Mc
  go_enter Tryz.func188,Tryz.ntmps188
  go_wp2_with fail
  with_reducible refine hI.mono ?_
  rintro e w1 ⟨rfl,hb1⟩
  have hz1:=hb1.size
  go_wp2_with fail
  go_loopw [5,6] (fun u t W=>∃(i j:Nat) (zs:List Value),i<j∧j≤xs.length∧u=.int .i64 i∧t=.int .i64 j∧zs.length=xs.length∧bI W base 129 true 2 (.slice (some ⟨g,0,none⟩) xs.length cap) zs∧w.grownBy W (some g)∧
   zs.take i=(xs.take j).filter (fun x=>!p x)∧∀r,j≤r→zs[r]?=xs[r]?) (fun _ t _=>xs.length-(intOf t).toNat)
  case atStart=>exact⟨i0,i0+1,xs,aj,aj,rfl,dn,rfl,Y6.out.kept hb1,aA hb1 _,EH.out,fun _ _=>rfl⟩
  case round=>
   obtain⟨i,j,zs,hij,hj,rfl,rfl,hzl,how,qI,wK,hdr⟩:=hrel
   have HO:=ah how
   have HZL:=ah hzl
   have L6:=ah wK
   have UJ:=ah hdr
   have HG:=ah qI
   clear how hzl wK hdr qI
   by_cases hlt:j<xs.length
   ·obtain⟨x,hx⟩:∃x,xs[j]?=some x:=⟨_,List.getElem?_eq_getElem hlt⟩
    have Bh:zs[j]?=some x:=(UJ.out j (Nat.le_refl _)).trans hx
    obtain⟨b',off',FN,agf,hcell⟩:=HO.out.sl.at Bh
    simp only[Option.some.injEq,Addr.mk.injEq,and_true] at FN
    obtain⟨rfl,rfl⟩:=FN
    rw[Nat.zero_add] at hcell
    have qP:=ah hcell
    have HV:=ah (HO.out.val x (List.mem_of_getElem? Bh))
    have HC:=ah (fun W h=>HPR.out.asks W h x (List.mem_of_getElem? hx))
    obtain⟨fa,fb,rfl⟩:=dL x (List.mem_of_getElem? hx)
    have HX:=ah hx
    have hwj:IntKind.i64.wrap ((j:Int)+1)=j+1:=IntWalk.i64_in _ aj
    have hwi:IntKind.i64.wrap ((i:Int)+1)=i+1:=IntWalk.i64_in _ aj
    clear hx Bh hcell
    cases jJ:p (.agg #[.int .u64 fa,.int .i64 fb])
    ·have xS:=ah jJ
     rw[jJ] at HC
     clear jJ
     have xu:i<zs.length:=wS
     go_wp2_with(first|(refine aN rfl 129 _ rfl g (j*2) dw (.agg #[.int .u64 fa,.int .i64 fb]) jG HV.out qP.out ?_)|((with_reducible refine(HC.out _ ?_).mono ?_);(focus exact aB HG.out (World.grownBy_alloc _ _ _));rintro e w2 ⟨rfl,hb2⟩;have hz2:=hb2.size;simp only[World.size_alloc] at hz2;have xw:Below wr.heap.size wr w2:=((Below.refl wr.heap.size wr).alloc (Nat.le_refl _) _).trans (hb2.mono dF);have nR:=ah (HO.out.kept xw);have tu:aD w2 wr.heap.size #[.int .u64 fa,.int .i64 fb] 129:=aD.below (aD.new wr _ _) hb2 dF;obtain⟨gL,iZ,hlx,iY,hmx⟩:=tu.rules;clear tu)|(refine eB (base:=base) rfl _ _ rfl jG g xs.length cap nR.out i xu ?_ (.agg #[.int .u64 fa,.int .i64 fb]) ?_ HV.out ?_;(focus(simp[Act.eval]));(focus(simp[Act.eval]));(intro w3 pz hg3;have uH:=ah pz;have hg3':=aB HG.out (aB (aA xw (some g)) hg3);have CZ:=ah hg3';clear pz hg3 hg3'))|fail)
     go_roundw
     case rel=>
      refine⟨i+1,j+1,_,aj,aj,dn,dn,?_,uH.out,CZ.out,?_,?_⟩
      ·exact Jr
      ·rw[eO HX.out,List.filter_append,←L6.out,eO (i:=i) (x:= .agg #[.int .u64 fa,.int .i64 fb]) Ji,List.take_set_of_le (Nat.le_refl _)]
       simp[xS.out]
      ·exact Ro
     case measure=>simp[intOf];omega
    ·have xS:=ah jJ
     rw[jJ] at HC
     clear jJ
     go_wp2_with(first|(refine aN rfl 129 _ rfl g (j*2) dw (.agg #[.int .u64 fa,.int .i64 fb]) jG HV.out qP.out ?_)|((with_reducible refine(HC.out _ ?_).mono ?_);(focus exact aB HG.out (World.grownBy_alloc _ _ _));rintro e w2 ⟨rfl,hb2⟩;have hz2:=hb2.size;simp only[World.size_alloc] at hz2;have xw:Below wr.heap.size wr w2:=((Below.refl wr.heap.size wr).alloc (Nat.le_refl _) _).trans (hb2.mono dF);have nR:=ah (HO.out.kept xw);have tu:aD w2 wr.heap.size #[.int .u64 fa,.int .i64 fb] 129:=aD.below (aD.new wr _ _) hb2 dF;obtain⟨gL,iZ,hlx,iY,hmx⟩:=tu.rules;clear tu)|fail)
     exact XO
   ·have YO:j=xs.length:=by omega
    subst YO
    have xu:i<zs.length:=wS
    have zC:zs.length-i=xs.length-i:=I_
    go_wp2_with(first|(refine l5 (base:=base) rfl _ 47 rfl jG Tryz.underlying47 HZV.out J8 g xs.length cap (cap-i) HO.out i xu ?_ ?_;(focus(rw[zC];simp[Act.eval]));(intro w3 pz hg3;have uH:=ah pz;have CZ:=ah (aB HG.out hg3);clear pz hg3))|fail)
    exact Rp
abbrev Al:=Int×Int
abbrev QD(a:Al):Value:= .agg #[.int .u64 a.1,.int .i64 a.2]
abbrev sM(l:List Al):List Value:=l.map QD
theorem ame(a:Al):Val true 2 (QD a):=⟨_,rfl,rfl,FX⟩
theorem sH(l:List Al):(sM l).length=l.length:=by simp
theorem ahG{l:List Al}{i:Nat}{a:Al}(h:l[i]?=some a):(sM l)[i]?=some (QD a):=by simp[h]
theorem Sl.al{w:World}{a:Option Addr}{n cap:Nat}{l:List Al}(h:Sl w true 2 (.slice a n cap) (sM l)){i:Nat}{x:Al}(hx:l[i]?=some x):
  ∃b off,a=some ⟨b,off,none⟩∧b<w.heap.size∧w.cell? ⟨b,off+i*2,none⟩=some (.int .u64 x.1)∧w.cell? ⟨b,off+i*2+1,none⟩=some (.int .i64 x.2):=by
 obtain⟨b,off,ha,hb,hcell⟩:=h.at (ahG hx)
 exact⟨b,off,ha,hb,hcell 0 _ rfl,hcell 1 _ rfl⟩
def behind(a b:Al):Bool:=decide (b.1<a.1)||(decide (a.1=b.1)&&decide (b.2<a.2))
theorem Xm(a b:Al)(w:World):Calls Tryz.prog 179 #[QD a,QD b] w fun e w'=>e=.returned (.bool (behind a b))∧Below w.heap.size w w':=by
 obtain⟨t,p⟩:=a
 obtain⟨s,q⟩:=b
 unfold behind
 dsimp only
 by_cases h1:s<t
 ·go_enter Tryz.func179,Tryz.ntmps179
  go_wp2_with fail
  go_ret
  exact⟨yt,aG⟩
 by_cases h2:t=s
 ·subst h2
  by_cases h3:q<p
  ·exact adH
  ·exact adH
 ·have h2':(t==s)=false:=by simpa using h2
  go_enter Tryz.func179,Tryz.ntmps179
  go_wp2_with fail
  go_ret
  exact⟨by simp[h1,h2],aG⟩
def Mf(a:Al):Value→Bool:=fun v=>match v with|.agg cs=>(match cs.toList with|[.int _ t,.int _ p]=>behind (t,p) a|_=>false)|_=>false
theorem Ic(a x:Al):Mf a (QD x)=behind x a:=rfl
theorem abx:Body Tryz.prog 178:=gq Tryz.func178 ay ay
theorem afN(x a:Al)(B:Nat)(w:World)(hB:B<w.heap.size)(hc0:w.cell? ⟨B,0,none⟩=some (.int .u64 a.1))(hc1:w.cell? ⟨B,1,none⟩=some (.int .i64 a.2)):
  Calls Tryz.prog 178 #[QD x,.pointer (some ⟨B,0,none⟩)] w fun e w'=>e=.returned (.bool (Mf a (QD x)))∧Below w.heap.size w w':=by
 rw[Ic]
 have hb:=fun W=>Xm x a W
 generalize behind x a=r at*
 obtain⟨s,q⟩:=a
 dsimp only at hc0 hc1
 have hne:¬B=w.heap.size:=aj
 go_enter Tryz.func178,Tryz.ntmps178
 (go_wp2_with fail;(with_reducible refine(hb _).mono ?_);rintro e w1 ⟨rfl,hb1⟩;have hz1:=hb1.size;(try simp only[World.size_alloc,World.size_setCell] at hz1))
 go_wp2_with fail
 go_ret
 exact⟨rfl,aG⟩
theorem abw(l:List Al)(a:Al)(B:Nat)(w:World)(hB:B<w.heap.size)(hc0:w.cell? ⟨B,0,none⟩=some (.int .u64 a.1))(hc1:w.cell? ⟨B,1,none⟩=some (.int .i64 a.2))(g:Option Nat)(hg:some B≠g):
  Pred Tryz.prog w g 178 #[.pointer (some ⟨B,0,none⟩)] (Mf a) (sM l):=
 ⟨abx,fun w' hw x hm=>by
  obtain⟨n,_,rfl⟩:=List.mem_map.1 hm
  exact afN n a B w' (Nat.lt_of_lt_of_le hB hw.size) ((World.cell?_of_block (a:=⟨B,0,none⟩) (hw.block B hB hg)).trans hc0) ((World.cell?_of_block (a:=⟨B,1,none⟩) (hw.block B hB hg)).trans hc1)⟩
def Iq(pid:Int):Value→Bool:=fun v=>match v with|.agg cs=>(match cs.toList with|[_,.int _ p]=>decide (p=pid)|_=>false)|_=>false
theorem X7(pid:Int)(x:Al):Iq pid (QD x)=decide (x.2=pid):=rfl
theorem r_:Body Tryz.prog 189:=gq Tryz.func189 ay ay
theorem uF(x:Al)(pid:Int)(B:Nat)(w:World)(hB:B<w.heap.size)(hc0:w.cell? ⟨B,0,none⟩=some (.int .i64 pid)):
  Calls Tryz.prog 189 #[QD x,.pointer (some ⟨B,0,none⟩)] w fun e w'=>e=.returned (.bool (Iq pid (QD x)))∧Below w.heap.size w w':=by
 rw[X7]
 have hne:¬B=w.heap.size:=aj
 obtain⟨t,p⟩:=x
 dsimp only
 by_cases h:p=pid
 ·subst h
  go_enter Tryz.func189,Tryz.ntmps189
  exact Nh
 ·have h':(p==pid)=false:=by simpa using h
  go_enter Tryz.func189,Tryz.ntmps189
  exact rO
theorem CF(l:List Al)(pid:Int)(B:Nat)(w:World)(hB:B<w.heap.size)(hc0:w.cell? ⟨B,0,none⟩=some (.int .i64 pid))(g:Option Nat)(hg:some B≠g):
  Pred Tryz.prog w g 189 #[.pointer (some ⟨B,0,none⟩)] (Iq pid) (sM l):=
 ⟨r_,fun w' hw x hm=>by
  obtain⟨n,_,rfl⟩:=List.mem_map.1 hm
  exact uF n pid B w' (Nat.lt_of_lt_of_le hB hw.size) ((World.cell?_of_block (a:=⟨B,0,none⟩) (hw.block B hB hg)).trans hc0)⟩
def iX(l:List Al)(pid:Int):List Al:=l.filter fun a=>decide (a.2≠pid)
theorem abe(l:List Al)(pid:Int):(sM l).filter (fun v=>!Iq pid v)=sM (iX l pid):=by
 rw[sM,sM,List.filter_map]
 congr 1
 apply List.filter_congr
 intro y _
 simp[X7]
theorem Ea(v:Value)(l:List Al)(pid:Int)(w:World)(hv:Sl w true 2 v (sM l))(hby:l.length*16≤140737488355328):
  Calls Tryz.prog 152 #[v,.int .i64 pid] w fun e w'=>∃v',e=.returned v'∧Sl w' true 2 v' (sM (iX l pid))∧(∀b,v'.ownBlock=some b→w.heap.size≤b)∧Below w.heap.size w w':=by
 have HV:=ah hv
 have HE:=ah (abe l pid)
 clear hv
 go_enter Tryz.func152,Tryz.ntmps152
 go_wp2_with fail
 with_reducible refine(GJ v (sM l) _ (HV.out.below aG) (by rw[sH];exact hby)).mono ?_
 rintro e w2 ⟨v2,rfl,o7,hb2⟩
 have hz2:=hb2.size
 simp only[World.size_alloc] at hz2
 have b1:aD w2 w.heap.size #[.int .i64 pid] 3:=sP;obtain⟨hc1,mF,jO,mE,oz⟩:=b1.rules;have K1:=ah b1;clear b1
 have nR:=ah (o7.le (base':=w.heap.size+1) dF)
 have uh:some w.heap.size≠v2.ownBlock:=fun h=>by have:=nR.out.iy _ h.symm;omega
 have BQ:=FI v2 (sM l) 189 #[.pointer (some ⟨w.heap.size,0,none⟩)] (Iq pid) w2 (w.heap.size+1) (fun x hx=>by obtain⟨a,_,rfl⟩:=List.mem_map.1 hx;exact⟨_,_,rfl⟩) nR.out (CF l pid w.heap.size w2 jO (hc1 0) v2.ownBlock uh)
 rw[HE.out] at BQ
 have HD:=ah BQ
 have bZ:Below w.heap.size w w2:=aG
 clear o7 BQ hc1 mF jO mE oz
 go_wp2_with fail
 with_reducible refine HD.out.mono ?_
 rintro e w4 ⟨v4,rfl,mg,hw4,hg4⟩
 have LJ:=ah mg
 have HW4:=ah hw4
 have hb4:Below w.heap.size w w4:=nR.out.below hg4 bZ aj aj
 clear mg hg4 hw4
 go_wp2_with fail
 go_ret
 exact⟨_,rfl,LJ.out,fun b hb=>by have:=nR.out.iy b (by rw[←HW4.out];exact hb);omega,hb4⟩
theorem Eb(v:Value)(l:List Al)(pid:Int)(w:World)(hv:Sl w true 2 v (sM l))(hby:l.length*16≤140737488355328):
  Calls Tryz.prog 152 #[v,.int .i64 pid] w fun e w'=>∃v',e=.returned v'∧Sl w' true 2 v' (sM (iX l pid))∧Below w.heap.size w w':=
 (Ea v l pid w hv hby).mono fun e w' ⟨v',h1,h2,_,h3⟩=>⟨v',h1,h2,h3⟩
end Go.Proofs.YtgmodehldmahiaaGreatDoor.Sleep
namespace Go.Proofs.YtgmodehldmahiaaGreatDoor.Sleep
open Go Go.RowKit Go.Tm
def rG(l:List Al)(a:Al):List Al:=l.takeWhile (fun x=>!behind x a)++a::l.dropWhile (fun x=>!behind x a)
theorem vH{α:Type}(p:α→Bool)(l:List α):l.take (l.takeWhile p).length=l.takeWhile p∧l.drop (l.takeWhile p).length=l.dropWhile p:=by
 have h:=List.takeWhile_append_dropWhile (p:=p) (l:=l)
 constructor
 ·conv=>lhs;rw[←h]
  rw[List.takeWhile_append_dropWhile]
  conv=>lhs;arg 2;rw[←h]
  exact List.take_left' rfl
 ·conv=>lhs;arg 2;rw[←h]
  exact List.drop_left' rfl
theorem xO{α:Type}(p:α→Bool)(l:List α):(l.takeWhile p).length≤l.length:=by
 have h:=congrArg List.length (List.takeWhile_append_dropWhile (p:=p) (l:=l))
 simp only[List.length_append] at h
 omega
theorem abv(l:List Al)(a:Al):(sM l).take (l.takeWhile (fun x=>!behind x a)).length++QD a::(sM l).drop (l.takeWhile (fun x=>!behind x a)).length=sM (rG l a):=by
 have h:=vH (fun x=>!behind x a) l
 unfold rG
 rw[sM,sM,←List.map_take,←List.map_drop,h.1,h.2,List.map_append,List.map_cons]
theorem aaZ(l:List Al)(a:Al):(idx (Mf a) (sM l)=-1∧(l.takeWhile (fun x=>!behind x a)).length=l.length)∨
  ((l.takeWhile (fun x=>!behind x a)).length<l.length∧idx (Mf a) (sM l)=((l.takeWhile (fun x=>!behind x a)).length:Nat)):=by
 induction l with
 |nil=>left;exact⟨rfl,rfl⟩
 |cons x r ih=>
  by_cases hb:behind x a=true
  ·right
   have h1:(x::r).takeWhile (fun x=>!behind x a)=[]:=by simp[hb]
   rw[h1]
   exact⟨aI,D8 (i:=0) (x:=QD x) rfl (by rw[Ic];exact hb) (by intro j y hj;omega)⟩
  ·have hb':behind x a=false:=by simpa using hb
   have h1:(x::r).takeWhile (fun x=>!behind x a)=x::r.takeWhile (fun x=>!behind x a):=by simp[hb']
   rw[h1]
   rcases ih with⟨h2,h3⟩|⟨h2,h3⟩
   ·left
    refine⟨?_,rV⟩
    rcases kU (Mf a) (sM (x::r)) with⟨h,_⟩|⟨i,y,h,hy,hp,iq⟩
    ·exact h
    ·exfalso
     cases i with
     |zero=>
      simp at hy
      subst hy
      rw[Ic,hb'] at hp
      cases hp
     |succ i=>
      have hy':(sM r)[i]?=some y:=by simpa using hy
      rcases kU (Mf a) (sM r) with⟨_,hall⟩|⟨j,z,hj,_⟩
      ·rw[hall y (List.mem_of_getElem? hy')] at hp;cases hp
      ·omega
   ·right
    refine⟨Jb,?_⟩
    rcases kU (Mf a) (sM r) with⟨h,_⟩|⟨j,z,hj,hz,hp,iq⟩
    ·omega
    ·have hje:j=(r.takeWhile (fun x=>!behind x a)).length:=by omega
     have:=D8 (p:=Mf a) (xs:=sM (x::r)) (i:=j+1) (x:=z) (by simpa using hz) hp (by
      intro k y hk hy
      cases k with
      |zero=>simp at hy;subst hy;rw[Ic];exact hb'
      |succ k=>exact iq k y aj (by simpa using hy))
     rw[this]
     simp[hje]
theorem Tf(a:Al):(QD a).cells=#[.int .u64 a.1,.int .i64 a.2]:=rfl
def SA(w:World)(p:Nat)(a:Al)(W:World):Prop:=
 W.cell? ⟨p,0,none⟩=some (.int .u64 a.1)∧W.cell? ⟨p,1,none⟩=some (.int .i64 a.2)∧Below w.heap.size w W
theorem S_{W W':World}{a:Addr}{v:Value}(hb:Below W.heap.size W W')(h:W.cell? a=some v):W'.cell? a=some v:=(Below.cell hb (block_lt_of_cell h)).trans h
theorem SA.keep{w:World}{p:Nat}{a:Al}{W W':World}(h:SA w p a W)(hb:Below W.heap.size W W'):SA w p a W':=by
 obtain⟨h0,h1,h4⟩:=h
 exact⟨S_ hb h0,S_ hb h1,h4.trans (hb.mono h4.size)⟩
theorem YE(v:Value)(l:List Al)(a:Al)(w:World)(hv:Sl w true 2 v (sM l))(hby:(l.length+1)*16≤140737488355328):
  Calls Tryz.prog 148 #[v,QD a] w fun e w'=>∃v',e=.returned v'∧Sl w' true 2 v' (sM (rG l a))∧(∀b,v'.ownBlock=some b→w.heap.size≤b)∧Below w.heap.size w w':=by
 have HV:=ah hv
 have HAS:=ah (abv l a)
 have hI:=fun W hs hB h0 h1=>zu v (sM l) 178 #[.pointer (some ⟨w.heap.size,0,none⟩)] (Mf a) W hs (abw l a w.heap.size W hB h0 h1 none aI)
 have xW:=xO (fun x=>!behind x a) l
 have nO:=fun W h=>GJ v (sM l) W h (by rw[sH];omega)
 have abM:=aaZ l a
 generalize(l.takeWhile (fun x=>!behind x a)).length=i at*
 have HI:=ah hI
 have Uq:=ah nO
 obtain⟨av,cap,rfl,hl⟩:=hv.shape
 rw[sH] at hl HV HI Uq⊢
 clear hv hI nO
 have hax:=ame a
 rcases abM with⟨hi1,hi2⟩|⟨hi1,hi2⟩
 ·
  subst hi2
  rw[hi1] at HI
  clear hi1
  go_enter Tryz.func148,Tryz.ntmps148
  go_wp2_with fail
  with_reducible refine(HI.out _ (HV.out.below ?_) ?_ ?_ ?_).mono ?_
  focus exact bl
  focus(simp only[World.size_alloc];omega)
  focus exact(aD.new _ _ _).rules.1 0
  focus exact(aD.new _ _ _).rules.1 1
  rintro e w1 ⟨rfl,hb1⟩
  have hz1:=hb1.size
  simp only[World.size_alloc] at hz1
  have b1:aD w1 w.heap.size #[.int .u64 a.1,.int .i64 a.2] 129:=sP;obtain⟨hc1,mF,jO,mE,oz⟩:=b1.rules;have K1:=ah b1;clear b1
  have bZ:Below w.heap.size w w1:=aG
  have Y2:=ah (HV.out.below bZ)
  have hP0:=hc1 0
  have hP1:=hc1 1
  have FQ:SA w1 w.heap.size a w1:=⟨hP0,hP1,Below.refl _ _⟩
  clear hc1 mF jO mE oz HI hb1
  go_wp2_with fail
  go_region_held3 (fun W=>W.cell? ⟨w.heap.size,0,none⟩=some (.int .u64 a.1)∧W.cell? ⟨w.heap.size,1,none⟩=some (.int .i64 a.2)∧Below w1.heap.size w1 W) ((refine SA.keep FQ ?_;exact bl))
   ((first
     |(go_at_call 181;with_reducible refine(Uq.out _ (Y2.out.below aG)).mono ?_;rintro en w3 ⟨v3,rfl,pz,hb3⟩;have hz3:=hb3.size;(try simp only[bQ,eG,World.size_alloc] at hz3);have uH:=ah pz;clear pz)
     |(go_at_call 180;with_reducible refine(Ei v3 (sM l) l.length (QD a) _ _ w1.heap.size ((uH.out.le (base':=w1.heap.size) uM).kept aG) ?_ hax ?_ ?_ ?_ ?_).mono ?_;(focus(rw[sH];omega));(focus(rw[Tf];exact bx));(focus(exact ajd));(exact ah9);(focus(rw[sH];exact hby));rintro en w5 ⟨v5,rfl,MP,nK⟩;have kV:Below w1.heap.size w1 w5:=(((uH.out.le (base':=w1.heap.size) uM).kept aG)).below nK aG (Nat.le_refl _) uM;have Ht:=ah MP;clear MP nK)))
  all_goals
   go_wp2_with fail
   go_ret
   refine⟨_,rfl,?_,fun b hb=>by have:=Ht.out.iy b hb;omega,bZ.trans (kV.mono bZ.size)⟩
   have h:=Ht.out.sl
   rw[HAS.out] at h
   exact h
 ·
  rw[hi2] at HI
  clear hi2
  have mE:¬(i:Int)<0:=aj
  go_enter Tryz.func148,Tryz.ntmps148
  go_wp2_with fail
  with_reducible refine(HI.out _ (HV.out.below ?_) ?_ ?_ ?_).mono ?_
  focus exact bl
  focus(simp only[World.size_alloc];omega)
  focus exact(aD.new _ _ _).rules.1 0
  focus exact(aD.new _ _ _).rules.1 1
  rintro e w1 ⟨rfl,hb1⟩
  have hz1:=hb1.size
  simp only[World.size_alloc] at hz1
  have b1:aD w1 w.heap.size #[.int .u64 a.1,.int .i64 a.2] 129:=sP;obtain⟨hc1,mF,jO,mE,oz⟩:=b1.rules;have K1:=ah b1;clear b1
  have bZ:Below w.heap.size w w1:=aG
  have Y2:=ah (HV.out.below bZ)
  have hP0:=hc1 0
  have hP1:=hc1 1
  have FQ:SA w1 w.heap.size a w1:=⟨hP0,hP1,Below.refl _ _⟩
  clear hc1 mF jO mE oz HI hb1
  go_wp2_with fail
  go_region_held3 (fun W=>W.cell? ⟨w.heap.size,0,none⟩=some (.int .u64 a.1)∧W.cell? ⟨w.heap.size,1,none⟩=some (.int .i64 a.2)∧Below w1.heap.size w1 W) ((refine SA.keep FQ ?_;exact bl))
   ((first
     |(go_at_call 181;with_reducible refine(Uq.out _ (Y2.out.below aG)).mono ?_;rintro en w3 ⟨v3,rfl,pz,hb3⟩;have hz3:=hb3.size;(try simp only[bQ,eG,World.size_alloc] at hz3);have uH:=ah pz;clear pz)
     |(go_at_call 180;with_reducible refine(Ei v3 (sM l) i (QD a) _ _ w1.heap.size ((uH.out.le (base':=w1.heap.size) uM).kept aG) ?_ hax ?_ ?_ ?_ ?_).mono ?_;(focus(rw[sH];omega));(focus(rw[Tf];exact bx));(focus(exact ajd));(exact ah9);(focus(rw[sH];exact hby));rintro en w5 ⟨v5,rfl,MP,nK⟩;have kV:Below w1.heap.size w1 w5:=(((uH.out.le (base':=w1.heap.size) uM).kept aG)).below nK aG (Nat.le_refl _) uM;have Ht:=ah MP;clear MP nK)))
  all_goals
   go_wp2_with fail
   go_ret
   refine⟨_,rfl,?_,fun b hb=>by have:=Ht.out.iy b hb;omega,bZ.trans (kV.mono bZ.size)⟩
   have h:=Ht.out.sl
   rw[HAS.out] at h
   exact h
theorem P5(v:Value)(l:List Al)(a:Al)(w:World)(hv:Sl w true 2 v (sM l))(hby:(l.length+1)*16≤140737488355328):
  Calls Tryz.prog 148 #[v,QD a] w fun e w'=>∃v',e=.returned v'∧Sl w' true 2 v' (sM (rG l a))∧Below w.heap.size w w':=
 (YE v l a w hv hby).mono fun e w' ⟨v',h1,h2,_,h3⟩=>⟨v',h1,h2,h3⟩
end Go.Proofs.YtgmodehldmahiaaGreatDoor.Sleep
namespace Go.Proofs.YtgmodehldmahiaaGreatDoor.Sleep
open Go Go.RowKit Go.Tm
end Go.Proofs.YtgmodehldmahiaaGreatDoor.Sleep
namespace Go.Proofs.YtgmodehldmahiaaGreatDoor.Sleep
open Go Go.RowKit Go.Tm
theorem lS:Ty Tryz.prog 3 1 false:=⟨ay,ay,aC,ay⟩
theorem sV:(Tryz.prog.info? 3).map (fun i=>(i.zero,i.size,i.bytes))=some (some (.int .i64 0),1,8):=by kernel_rfl
def vR(l:List Al)(now:Int):Nat:=(l.takeWhile (fun x=>decide (x.1≤now))).length
def um(l:List Al)(now:Int):List Int:=(l.takeWhile (fun x=>decide (x.1≤now))).map Prod.snd
def U1(l:List Al)(now:Int):List Al:=l.dropWhile (fun x=>decide (x.1≤now))
theorem YA(l:List Al)(now:Int):vR l now≤l.length:=xO _ l
theorem ahf(l:List Al)(now:Int):um l now=(l.take (vR l now)).map Prod.snd:=by unfold um vR;rw[(vH _ l).1]
theorem ahe(l:List Al)(now:Int):U1 l now=l.drop (vR l now):=by unfold U1 vR;rw[(vH _ l).2]
theorem SS(l:List Al)(now:Int):(um l now).length=vR l now:=by simp[um,vR]
theorem alP{l:List Al}{now:Int}{i:Nat}{x:Al}(hx:l[i]?=some x)(h:i<vR l now):x.1≤now:=by
 unfold vR at h
 have h1:l.take (l.takeWhile (fun x=>decide (x.1≤now))).length=_:=(vH (fun x:Al=>decide (x.1≤now)) l).1
 have h2:(l.takeWhile (fun x=>decide (x.1≤now)))[i]?=some x:=by rw[←h1,List.getElem?_take,if_pos h];exact hx
 have:=List.all_eq_true.1 (List.all_takeWhile (p:=fun x:Al=>decide (x.1≤now)) (l:=l)) x (List.mem_of_getElem? h2)
 simpa using this
theorem ag5(n:Int):Val false 1 (.int .i64 n):=⟨rfl,rfl⟩
theorem afn{l:List Al}{now:Int}{x:Al}(hx:l[vR l now]?=some x):now<x.1:=by
 have h2:=(vH (fun x:Al=>decide (x.1≤now)) l).2
 have h3:(l.drop (vR l now))[0]?=some x:=by rw[List.getElem?_drop,Nat.add_zero];exact hx
 unfold vR at h3
 rw[h2] at h3
 cases hd:l.dropWhile (fun x=>decide (x.1≤now)) with
 |nil=>rw[hd] at h3;simp at h3
 |cons y r=>
  rw[hd] at h3
  simp at h3
  subst h3
  have hne:l.dropWhile (fun x=>decide (x.1≤now))≠[]:=by rw[hd];simp
  have:=List.head_dropWhile_not (fun x:Al=>decide (x.1≤now)) hne
  simp only[hd,List.head_cons] at this
  simpa using this
theorem ahc(v:Value)(l:List Al)(now:Int)(w:World)(hv:Sl w true 2 v (sM l))(hby:l.length*16≤140737488355328):
  Calls Tryz.prog 108 #[v,.int .u64 now] w fun e w'=>∃v1 v2,e=.returned (.tuple #[v1,v2])∧bI w' w.heap.size 3 false 1 v1 (ints (um l now))∧Sl w' true 2 v2 (sM (U1 l now))∧(∀b,v2.ownBlock=some b→v.ownBlock=some b)∧Below w.heap.size w w':=by
 have HV:=ah hv
 have hkl:=YA l now
 obtain⟨i0,qN,oq,gD,mh⟩:=info_parts sV
 have HI:=ah (And.intro qN (And.intro oq (And.intro gD mh)))
 clear qN oq gD mh
 obtain⟨u2,hrd,hsd,MO⟩:=hv.Z_ (t:=47) jG Tryz.underlying47 (vR l now) (vR l now) rfl (by rw[sH];exact hkl)
 have HSD:=ah (show Sl w true 2 u2 (sM (U1 l now)) by rw[ahe,sM,List.map_drop];exact hsd)
 have HRD:=ah hrd
 have HOB:=ah MO
 obtain⟨a,cap,rfl,hl⟩:=hv.shape
 rw[sH] at hl HV HRD HOB⊢
 clear hv hrd hsd MO
 go_enter Tryz.func108,Tryz.ntmps108
 go_wp2_with fail
 go_loopw [6,10] (fun u t W=>∃(i:Nat) (s:Value),i≤vR l now∧s=u∧t=.int .i64 i∧Below w.heap.size w W∧bI W w.heap.size 3 false 1 u (ints ((l.take i).map Prod.snd))) (fun _ t _=>l.length-(intOf t).toNat)
 case atStart=>exact⟨0,_,Nat.zero_le _,rfl,rfl,Below.refl _ _,bI.nil⟩
 case round=>
  obtain⟨i,s,hi,rfl,rfl,bZ,hown⟩:=hrel
  have Bj:=bZ.size
  have HO:=ah hown
  clear hown
  have hwr:IntKind.i64.wrap ((i:Int)+1)=i+1:=IntWalk.i64_in _ aj
  by_cases hk:i<vR l now
  ·have xW:i<l.length:=by omega
   obtain⟨x,hx⟩:∃x,l[i]?=some x:=⟨_,List.getElem?_eq_getElem xW⟩
   have hle:=alP hx hk
   have asu:¬now<x.1:=aj
   obtain⟨b,off,rfl,hb,c0,c1⟩:=Sl.al (HV.out.below bZ) hx
   have HT:=ah (show ints ((l.take (i+1)).map Prod.snd)=ints ((l.take i).map Prod.snd)++[.int .i64 x.2] by rw[eO hx];simp)
   clear hx
   go_wp2_with(first|(refine dJ (v:=s) (xs:=ints ((l.take i).map Prod.snd)) (base:=w.heap.size) rfl _ _ 44 rfl lS i0 (.int .i64 0) 8 Tryz.underlying44 HI.out.1 HI.out.2.1 HI.out.2.2.1 HI.out.2.2.2 rfl ?_ ?_ (.slice (some ⟨wr.heap.size,0,none⟩) 1 1) ([.int .i64 x.2]) ?_ ?_ ?_ ?_ ?_ ?_;(exact aM);(focus(exact(HO.out.kept aG)));(exact aM);(focus(exact(Sl.pQ (ag5 x.2) rfl)));(exact vV);(exact vU);(exact vW);(intro v4 w4 qz hg4 xQ;have hb4:Below w.heap.size w w4:=(HO.out.kept aG).below hg4 aG (Nat.le_refl _) dF;have sD:=ah qz;clear qz hg4 xQ))|fail)
   go_roundw
   case rel=>exact⟨i+1,_,aj,rfl,dn,hb4,by rw[HT.out];exact sD.out⟩
   case measure=>simp[intOf];omega
  ·obtain rfl:i=vR l now:=by omega
   have hlen:((l.take (vR l now)).map Prod.snd).length=vR l now:=aV
   have HOP:=ah (show bI wr w.heap.size 3 false 1 s (ints (um l now)) by rw[ahf];exact HO.out)
   obtain⟨as_,gI,hs,_⟩:=HOP.out.sl.shape
   rw[gH,SS] at hs
   subst hs
   have hrd:=HRD.out
   by_cases xW:vR l now<l.length
   ·obtain⟨x,hx⟩:∃x,l[vR l now]?=some x:=⟨_,List.getElem?_eq_getElem xW⟩
    have hgt:=afn hx
    obtain⟨b,off,rfl,hb,c0,c1⟩:=Sl.al (HV.out.below bZ) hx
    clear hx
    exact ai0
   ·exact ai0
end Go.Proofs.YtgmodehldmahiaaGreatDoor.Sleep
namespace Go.Proofs.YtgmodehldmahiaaGreatDoor.Sleep
open Go Go.RowKit Go.Tm
def ab_(x:Al):Prop:=(Lit.int .u64 x.1).wf=true∧(Lit.int .i64 x.2).wf=true
theorem Te(x:Al)(h:ab_ x):Plain Tryz.prog 129 #[.int .u64 x.1,.int .i64 x.2] [.int .u64 x.1,.int .i64 x.2]:=by
 refine⟨ay,5,?_⟩
 have h1:Tryz.prog.cellsOf 129=2:=ay
 have h2:Tryz.prog.cellsOf 32=1:=ay
 have h3:Tryz.prog.cellsOf 3=1:=ay
 simp[Program.keyLits,Tryz.underlying129,Tryz.underlying32,Tryz.underlying3,h1,h2,h3,h.1,h.2]
theorem alO(x y:Al)(hx:ab_ x)(hy:ab_ y)(b:Bool)(hb:b=true↔x=y):
  ∀w,(Op.equalIn 10000 129 (.agg #[.int .u64 x.1,.int .i64 x.2]) (.agg #[.int .u64 y.1,.int .i64 y.2])).run Tryz.prog w=.ok b w:=by
 refine j_ (m:=5) aj ay ay (Te x hx) (Te y hy) b ?_
 rw[hb]
 obtain⟨t,p⟩:=x
 obtain⟨s,q⟩:=y
 simp
theorem Fe(v u:Value)(l:List Al)(w:World)(hv:Sl w true 2 v (sM l))(hu:Sl w true 2 u (sM l))(hw:∀x∈l,ab_ x):
  Calls Tryz.prog 26 #[v,u] w fun e w'=>e=.returned (.bool true)∧Below w.heap.size w w':=by
 have HV:=ah hv
 have HU:=ah hu
 have HW:=ah hw
 obtain⟨a,cap,rfl,hl⟩:=hv.shape
 obtain⟨a2,jl,rfl,_⟩:=hu.shape
 rw[sH] at hl HV HU⊢
 clear hv hu hw
 go_enter Tryz.func26,Tryz.ntmps26
 go_wp2_with fail
 go_loopw [5] (fun t W=>∃i:Nat,i≤l.length∧t=.int .i64 i∧Below w.heap.size w W) (fun t _=>l.length-(intOf t).toNat)
 case atStart=>exact⟨0,Nat.zero_le _,rfl,Below.refl _ _⟩
 case round=>
  obtain⟨i,hi,rfl,bZ⟩:=hrel
  have Bj:=bZ.size
  by_cases hlt:i<l.length
  ·obtain⟨x,hx⟩:∃x,l[i]?=some x:=⟨_,List.getElem?_eq_getElem hlt⟩
   have heq:=alO x x (HW.out x (List.mem_of_getElem? hx)) (HW.out x (List.mem_of_getElem? hx)) true aI
   obtain⟨b,off,rfl,hb,c0,c1⟩:=Sl.al (HV.out.below bZ) hx
   obtain⟨b2,nU,rfl,hb2,e0,e1⟩:=Sl.al (HU.out.below bZ) hx
   have hwr:IntKind.i64.wrap ((i:Int)+1)=i+1:=IntWalk.i64_in _ aj
   clear hx
   exact ai5
  ·exact Dm
theorem aeh(n:Nat)(h:n<18446744073709551616):18446744073709551615^^^n=18446744073709551615-n:=by
 have h1:=BitVec.toNat_xor (BitVec.allOnes 64) (BitVec.ofNat 64 n)
 rw[BitVec.allOnes_xor,BitVec.toNat_not,BitVec.toNat_allOnes,BitVec.toNat_ofNat,Nat.mod_eq_of_lt (show n<2^64 by omega)] at h1
 rw[show(2:Nat)^64-1=18446744073709551615 by decide] at h1
 exact h1.symm
theorem E5(now n:Int)(w:World)(h1:0≤now∧now≤18446744073709551615)(h2:0≤n∧n≤4294967295):
  Calls Tryz.prog 92 #[.int .u64 now,.int .u32 n] w fun e w'=>e=.returned (.int .u64 (now+min n (18446744073709551615-now)))∧Below w.heap.size w w':=by
 obtain⟨N,rfl⟩:∃N:Nat,now=N:=⟨now.toNat,aj⟩
 have hx:bits .xor .u64 IntKind.u64.max (N:Int)=18446744073709551615-N:=by
  have:=bits_xor_u64_nat 18446744073709551615 N aj aj
  rw[aeh N aj] at this
  have he:((18446744073709551615-N:Nat):Int)=18446744073709551615-N:=aj
  rw[he] at this
  exact this
 have hw1:IntKind.u64.wrap ((N:Int)+n)=if n≤18446744073709551615-N then(N:Int)+n else N+n-18446744073709551616:=by
  rw[IntKind.wrap_u64];split<;>omega
 have hw2:IntKind.u64.wrap ((N:Int)+(18446744073709551615-N))=18446744073709551615:=by
  rw[IntKind.wrap_u64];omega
 have hsg:IntKind.u64.signed=false:=rfl
 have hmx:IntKind.u64.max=18446744073709551615:=rfl
 have hx':bits .xor .u64 18446744073709551615 (N:Int)=18446744073709551615-N:=hx
 by_cases hle:n≤18446744073709551615-(N:Int)
 ·rw[if_pos hle] at hw1
  have Oz:min n (18446744073709551615-(N:Int))=n:=aj
  rw[Oz]
  go_enter Tryz.func92,Tryz.ntmps92
  go_wp2_with fail
  all_goals go_ret
  all_goals exact⟨by first|(simp[hw1];done)|(simp[hw2];omega)|(simp[hw1,hw2];omega),aG⟩
 ·rw[if_neg hle] at hw1
  have Oz:min n (18446744073709551615-(N:Int))=18446744073709551615-N:=aj
  rw[Oz]
  go_enter Tryz.func92,Tryz.ntmps92
  go_wp2_with fail
  all_goals go_ret
  all_goals exact⟨by first|(simp[hw2];done)|(simp[hw2];omega)|(simp[hw1,hw2];omega),aG⟩
end Go.Proofs.YtgmodehldmahiaaGreatDoor.Sleep
