/- Part 46 of 50 of the proof of topWindows_holds. Conditions: see each. -/
import Derived.Test.YtgmodehldmahiaaGreatDoorW14
import Derived.Test.YtgmodehldmahiaaGreatDoorW45
set_option linter.unusedVariables false
set_option linter.unusedSimpArgs false
set_option maxRecDepth 8192
set_option maxHeartbeats 40000000
section
namespace Go.Proofs.YtgmodehldmahiaaGreatDoor
open Go Go.RowKit Go.Tm
attribute [local go_sem] fB fA fu dR dA dQ dP dO dN dM dL dK dJ dI dH dG dF iq ig h_ g_ gZ gY gX gN gW gV fF fE fD fC eY eX eU
attribute [local go_sem] Dm Dl Dk Dj Di Aj Dh Df Dc Db wQ
theorem Gd.iX(pv wv cv iv:Value)(p:Plan.iE)(s:Hs)(h:Hn)(n k:Nat)(w:World)(hp:Plan.gq w pv wv cv p)(hi:kind iv=5)(hr:MR w s h n)(hT:iV w)(hok:Plan.dW p)(hg:Gd p k h)(hk:k≤2000)(hn:n+8≤1000000):
  Calls Tryz.prog 15 #[.agg (hC pv wv cv iv p s h)] w (FI w pv wv cv iv p s h (Go.Proofs.YtgmodehldmahiaaGreatDoor.iX p h) (n+8)):=
 agG pv wv cv iv p s h n (k*(k+40)+2) k w hp hi hr hT hok hg.len ⟨by rw[hg.now];omega,by rw[hg.now];omega⟩ hg.bd (by have:=aa6 hk;omega) ah hn
theorem aiR(pv wv cv iv:Value)(p:Plan.iE)(s:Hs)(h:Hn)(n k m:Nat)(w:World)(hp:Plan.gq w pv wv cv p)(hi:kind iv=5)(hr:MR w s h n)(hT:iV w)(hok:Plan.dW p)(hg:Gd p k h)(hk:k+m≤2000)(hn:n+8*m+8≤1000000):
  Calls Tryz.prog 10 #[.agg (hC pv wv cv iv p s h),.int .i64 m] w (FI w pv wv cv iv p s h (kX p h m) (n+8*m)):=by
 have HP:=Lib.hid hp
 have HM:=Lib.hid hr
 have Ec:=Lib.hid (fun W (h:Below w.heap.size w W)=>hT.below h)
 have HG:=Lib.hid (fun i=>hg.run hok i)
 obtain⟨a1,c1,a2,c2,a3,c3,rfl,rfl,rfl,hl1,hl2,hl3⟩:=hp.shape
 have hsz0:hC0.size=11:=rfl
 have hmx:max (m:Int) 0=m:=ah
 obtain⟨hq,WM⟩:∃hq,hq=kX p h m:=⟨_,rfl⟩
 rw[←WM]
 have Xg:=Lib.hid WM
 clear hp hr hT hg WM
 go_enter Tryz.func10,Tryz.ntmps10
 go_wp2_with fail
 ((generalize bN:World.alloc _ _=w0);(have KB:aC w0 (w.heap.size) (hC (.slice a1 p.parts.length c1) (.slice a2 p.wins.length c2) (.slice a3 p.chans.length c3) iv p s h) 36:=bA);(have KZ:aC w0 (w.heap.size+1) (hC0) 36:=bA);(have hb0:Below w.heap.size w w0:=bM);(have hz0:w0.heap.size=w.heap.size+1+1:=bX);(clear bN);(have KB:=Lib.hid KB);(have KZ:=Lib.hid KZ))
 go_loopw [7] (fun t W=>∃(i:Nat) (s':Hs),i≤m∧t=.int .i64 i∧aC W w.heap.size (hC (.slice a1 p.parts.length c1) (.slice a2 p.wins.length c2) (.slice a3 p.chans.length c3) iv p s' (kX p h i)) 36∧aC W (w.heap.size+1) hC0 36∧MR W s' (kX p h i) (n+8*i)∧(∀B,B<w.heap.size+2→gG B s h→gG B s' (kX p h i))∧Below w.heap.size w W) (fun t _=>m-(intOf t).toNat)
 case atStart=>exact⟨0,s,Nat.zero_le _,rfl,KB.out,KZ.out,HM.out.below hb0,fun _ _ h=>h,hb0⟩
 case round=>
  obtain⟨i,s',hi',rfl,hkb,hkz,hmr,haw,hbw⟩:=hrel
  have vV:=Lib.hid hkb
  have Bq:=Lib.hid hkz
  have HM1:=Lib.hid hmr
  have HA1:=Lib.hid haw
  have HB1:=Lib.hid hbw
  have hwz:=hbw.size
  have hltz:=hkz.lt
  have hv:=mJ (HP.out.below hbw) hi hmr
  have HV:=Lib.hid hv
  have hks:=oI (HP.out.below hbw) hi hmr
  have HKS:=Lib.hid hks
  clear hkb hkz hmr haw hv hks
  by_cases hil:i<m
  ·have HST:=Lib.hid (Gd.iX (.slice a1 p.parts.length c1) (.slice a2 p.wins.length c2) (.slice a3 p.chans.length c3) iv p s' (kX p h i) (n+8*i) (k+i) wr (HP.out.below hbw) hi HM1.out (Ec.out _ hbw) hok (HG.out i) ah ah)
   have hsz1:=jL (.slice a1 p.parts.length c1) (.slice a2 p.wins.length c2) (.slice a3 p.chans.length c3) iv p s' (kX p h i)
   have abr:IntKind.i64.wrap ((i:Int)+1)=i+1:=IntWalk.i64_in _ ah
   obtain⟨h2,hh2⟩:∃h2,h2=kX p h (i+1):=⟨_,rfl⟩
   have HH2:=Lib.hid hh2
   rw[show Go.Proofs.YtgmodehldmahiaaGreatDoor.iX p (kX p h i)=h2 from hh2.symm] at HST
   clear hh2
   generalize kX p h i=h1 at*
   go_wp2_with(first|((with_reducible refine bS 36 ?_);(refine aJ rfl 36 _ rfl (hC (.slice a1 p.parts.length c1) (.slice a2 p.wins.length c2) (.slice a3 p.chans.length c3) iv p s' h1) d_ (HV.out) vV.out ?_ ?_;(exact aG)))|fail)
   with_reducible refine HST.out.mono ?_
   rintro en w2 ⟨s2,rfl,hm2,aie,hb2⟩
   have hz2:=hb2.size
   have hbw2:=hbw.trans (hb2.mono hwz)
   have Eo:=Lib.hid (vV.out.below hb2 vV.out.lt)
   have Oz:=Lib.hid (Bq.out.below hb2 Bq.out.lt)
   have hv2:=mJ (HP.out.below hbw2) hi hm2
   have HV2:=Lib.hid hv2
   have HM2:=Lib.hid hm2
   have aiJ:=Lib.hid aie
   clear hv2 hm2 aie
   go_wp2_with(first|((with_reducible refine bO 36 ?_);(refine aN rfl 36 _ _ rfl Eo.out (.agg (hC (.slice a1 p.parts.length c1) (.slice a2 p.wins.length c2) (.slice a3 p.chans.length c3) iv p s2 h2)) d_ (HV2.out) ?_ (_) (gJ 11 hsz1 ()) ?_ ?_ ?_;(exact fK);(exact aG);(exact aG);(intro w3 bp3 hg3 hz3 hb3;(have BP3:=Lib.hid bp3);(have zO:=Lib.hid hg3);(clear bp3 hg3))))|fail)
   have ng:=HM2.out.bL (aiJ.out w.heap.size ah (HA1.out w.heap.size ah (HM.out.away (Nat.le_refl _)))) Eo.out HKS.out iA aB aB aB zO.out
   have kz3:=Oz.out.grown zO.out aI
   have fJ:Below w.heap.size w w3:=hbw2.trans (bq zO.out ah ah)
   go_roundw
   case rel=>exact⟨i+1,s2,ah,bI,by rw[←HH2.out];exact BP3.out,kz3,by rw[←HH2.out];exact ng.mono ah,by rw[←HH2.out];exact fun B hB ha=>aiJ.out B ah (HA1.out B hB ha),fJ⟩
   case measure=>simp[intOf];omega
  ·have hie:i=m:=by omega
   subst hie
   have hq1:=Xg.out
   clear Xg
   rw[←hq1] at vV HM1 HA1 HV
   have hsz1:=jL (.slice a1 p.parts.length c1) (.slice a2 p.wins.length c2) (.slice a3 p.chans.length c3) iv p s' hq
   have hdn:decide ((i:Int)<i)=false:=decide_eq_false ah
   clear hq1
   go_wp2_with(first|((with_reducible refine bS 36 ?_);(refine aJ rfl 36 _ rfl (hC (.slice a1 p.parts.length c1) (.slice a2 p.wins.length c2) (.slice a3 p.chans.length c3) iv p s' hq) d_ (HV.out) vV.out ?_ ?_;(exact aG)))|((with_reducible refine bO 36 ?_);(refine aN rfl 36 _ _ rfl Bq.out (.agg (hC (.slice a1 p.parts.length c1) (.slice a2 p.wins.length c2) (.slice a3 p.chans.length c3) iv p s' hq)) d_ (HV.out) ?_ (_) (gJ 11 mY ()) ?_ ?_ ?_;(exact fK);(exact aG);(exact aG);(intro GR jD jT tq eP;(have kY:=Lib.hid jD))))|fail)
   have hfr:=HM1.out.bL (R:=w.heap.size+1) (ks:=tO) (HA1.out (w.heap.size+1) ah (HM.out.away ah)) Bq.out rfl aB aB aB aB jT
   exact iP Tryz.results10 d_ HV.out aF kY.out rfl ⟨s',rfl,hfr,fun B hB h=>HA1.out B ah h,HB1.out.trans (eP.mono ah)⟩
end Go.Proofs.YtgmodehldmahiaaGreatDoor
end
section
namespace Go.Proofs.YtgmodehldmahiaaGreatDoor
open Go Go.RowKit Go.Tm
abbrev sJ:TypeId:=59
theorem Rk:(Tryz.prog.info? 59).map (fun i=>(i.zero,i.size,i.bytes))=some (some (.agg GX),19,336):=by kernel_rfl
theorem ML:∃i,TyM Tryz.prog 59 19 true i (.agg GX) 336 33:=by
 obtain⟨i,hi,hz,hs,hb⟩:=info_parts Rk
 exact⟨i,eF,Tryz.underlying33,hi,hz,hs,hb,rfl⟩
def WR(w:World)(v:Value):Prop:=∀g,v.ownBlock=some g→∃cs,aC w g cs sJ∧∀c∈cs.toList,kind c≠2
theorem aae{W:World}{s:Ks}{k:Kn}(h:KR W s k)(st bo:Int):∀c∈(xC s k (sx st bo)).toList,kind c≠2:=by
 intro c hc
 have hk:=rU h (sx st bo)
 have hm:kind c∈(xC s k (sx st bo)).toList.map kind:=List.mem_map.2 ⟨c,hc,rfl⟩
 rw[hk] at hm
 have:∀n∈lu++(sx st bo).toList.map kind,n≠2:=by
  show∀n∈lu++[1,1],n≠2
  decide
 exact this _ hm
theorem MB(n:Nat):∀c∈(Builtin.zeroCells (Value.agg GX).cells n).toList,kind c≠2:=by
 intro c hc
 unfold Builtin.zeroCells at hc
 simp only[Array.toList_map,List.mem_map] at hc
 obtain⟨i,_,rfl⟩:=hc
 have h19:(Value.agg GX).cells.size=19:=rfl
 rw[h19]
 have hlt:i%19<19:=Nat.mod_lt _ aB
 have hall:∀j:Fin 19,kind ((Value.agg GX).cells[j.1]!)≠2:=aB
 exact hall ⟨i%19,hlt⟩
theorem D7{w:World}{base:Nat}{v:Value}{xs:List Value}(ty:TypeId)(hown:bB w base sJ true 19 v xs)(hno:WR w v){u:Nat}{y:Array Value}(hy:Val true 19 (.agg y))(hyn:∀c∈y.toList,kind c≠2)
  (hsy:Sl w true 19 (.slice (some ⟨u,0,none⟩) 1 1) [.agg y])(h63:xs.length+1≤1000)(hbase:base≤w.heap.size):
  ∃v' w',(Builtin.append_ #[33,33] ty #[v,.slice (some ⟨u,0,none⟩) 1 1]).run Tryz.prog w=.ok v' w'∧bB w' base sJ true 19 v' (xs++[.agg y])∧WR w' v'∧w.grownBy w' v.ownBlock∧(v'.ownBlock=v.ownBlock∨v'.ownBlock=some w.heap.size):=by
 obtain⟨i,M⟩:=ML
 have hval:∀z∈xs++[.agg y],Val true 19 z:=by
  intro z hz
  rcases List.mem_append.1 hz with hz|hz
  ·exact hown.val z hz
  ·exact hsy.val z hz
 have hvy:∀z∈[Value.agg y],Val true 19 z:=hsy.val
 have hfl:(flat [Value.agg y]).length=1*i.size:=by rw[M.hs,dX hvy];rfl
 obtain⟨v',w',hr,h2,h3,_⟩:=run_append_own (P:=Tryz.prog) w base 33 ty sJ i (.agg GX) 19 336 M.ht M.hi M.hz M.hs M.hb M.hzs M.T.pos v xs.length (flat xs) hown.row ⟨u,0,none⟩ 1 1 (flat [Value.agg y]) (dX hvy) hsy.news (iD hvy) wJ ah hbase
 have hnews:∀c∈flat [Value.agg y],kind c≠2:=by
  intro c hc
  have e:flat [Value.agg y]=y.toList:=by simp[flat,Value.cells]
  rw[e] at hc
  exact hyn c hc
 refine⟨v',w',hr,⟨by rw[List.length_append,kK];exact h2,hval⟩,?_⟩
 rcases hown.row.2 with⟨rfl,h0⟩|⟨g,cap,cur,rfl,hbg,hg,hnc,hcm,hcs,htake⟩
 ·have hr2:=run_append_nil (P:=Tryz.prog) w 33 ty sJ i (.agg GX) M.ht M.hi M.hz ⟨u,0,none⟩ 1 1 (flat [Value.agg y]) hfl hsy.news aB aB (by rw[M.hb];decide)
  rw[hr] at hr2
  injection hr2 with e1 e2
  subst e1 e2
  refine⟨?_,h3,.inr rfl⟩
  intro g' hg'
  simp only[Value.ownBlock,Option.some.injEq] at hg'
  subst hg'
  refine⟨_,heap_alloc_new w.drew _,?_⟩
  intro c hc
  rw[Array.toList_append] at hc
  rcases List.mem_append.1 hc with hc|hc
  ·exact hnews c hc
  ·exact MB _ c hc
 ·obtain⟨cs,hbx,hcn⟩:=hno g rfl
  have hcur:cs=cur:=by
   unfold aC at hbx
   rw[hg] at hbx
   cases hbx;rfl
  subst hcur
  by_cases hroom:xs.length+1≤cap
  ·have hfit:xs.length*i.size+(flat [Value.agg y]).length≤cs.size:=by rw[hfl,M.hs,hcs];omega
   have hr2:=run_append_room (P:=Tryz.prog) w 33 ty sJ i M.ht M.hi g xs.length cap cs hg ⟨u,0,none⟩ 1 1 (flat [Value.agg y]) hfl hsy.news (iD hvy) hroom hfit
   rw[hr] at hr2
   injection hr2 with e1 e2
   subst e1 e2
   refine⟨?_,h3,.inl rfl⟩
   intro g' hg'
   simp only[Value.ownBlock,Option.some.injEq] at hg'
   subst hg'
   refine⟨_,setRow_heap w g cs _ sJ _ hg,?_⟩
   intro c hc
   simp only[List.mem_append] at hc
   rcases hc with(hc|hc)|hc
   ·exact hcn c (List.mem_of_mem_take hc)
   ·exact hnews c hc
   ·exact hcn c (List.mem_of_mem_drop hc)
  ·have holds:∀j c,(flat xs)[j]?=some c→w.cell? ((⟨g,0,none⟩:Addr).add j)=some c:=hown.row.cells (g:=g) rfl
   have hr2:=run_append_grow (P:=Tryz.prog) w 33 ty sJ i (.agg GX) M.ht M.hi M.hz ⟨g,0,none⟩ xs.length cap (flat xs) (by rw[M.hs];exact hown.row.1) holds ⟨u,0,none⟩ 1 1 (flat [Value.agg y]) hfl hsy.news ah ah (growslice_fits ah (by rw[M.hb];omega))
   rw[hr] at hr2
   injection hr2 with e1 e2
   subst e1 e2
   refine⟨?_,h3,.inr rfl⟩
   intro g' hg'
   simp only[Value.ownBlock,Option.some.injEq] at hg'
   subst hg'
   refine⟨_,heap_alloc_new w.drew _,?_⟩
   intro c hc
   simp only[Array.toList_append,List.mem_append] at hc
   rcases hc with(hc|hc)|hc
   ·have hmem:c∈cs.toList.take (xs.length*19):=by rw[htake];exact hc
    exact hcn c (List.mem_of_mem_take hmem)
   ·exact hnews c hc
   ·exact MB _ c hc
theorem KR.Nc{w w':World}{u:Ks}{k:Kn}(h:KR w u k)(ht:k.tr=[])(hs:k.se=[])(hb:∀x∈k.bx,x.ms=[]){v:Value}(hno:WR w v)(ha:∀g,v.ownBlock=some g→iL g u k)(hg:w.grownBy w' v.ownBlock):KR w' u k:=by
 cases hv:v.ownBlock with
 |none=>
  rw[hv] at hg
  exact h.below ⟨hg.os,hg.tape,hg.output,hg.size,fun k hk=>hg.block k hk aI⟩
 |some g=>
  rw[hv] at hg
  obtain⟨cs,hbx,hcn⟩:=hno g hv
  obtain⟨aL,aH,Hg,aOu,⟨aIn,Iu,aS⟩,aPi⟩:=ha g hv
  have aP:Apart g u.P (Tab.pO k.P):=by
   cases hk:k.P with
   |nil=>exact .inl rfl
   |cons p r=>
    right
    intro b' hb' hbb
    subst hbb
    have hP:=h.P
    rw[hk] at hP
    obtain⟨a,cap,e,_⟩:=hP.shape
    rw[e] at hP hb'
    obtain⟨b2,off,rfl,hlt,hc⟩:=hP.at (i:=0) (x:=Tab.je p) rfl
    simp only[Value.ownBlock,Option.some.injEq] at hb'
    subst hb'
    have hC:(Tab.je p).cells.toList[3]?=some (.int .u32 ((pq p).c.getD 0 0)):=by
     show(Tab.dS p).toList[3]?=_
     rw[sW,dz];rfl
    have:=hc 3 _ hC
    rw[hbx.rules.1] at this
    exact hcn _ (Array.mem_toList_iff.2 (Array.mem_of_getElem? this)) rfl
  refine⟨h.P.bC hg aP,h.L.bC hg aL,h.S.bC hg aS,h.Pi.bC hg aPi,h.H.bC hg aH,h.Im.bC hg Hg,h.Ou.bC hg aOu,h.In.bC hg aIn,⟨h.Bx.sl.bC hg Iu,h.Bx.len,fun i u x h1 h2=>?_⟩,?_,?_,h.pi⟩
  ·exact(h.Bx.el i u x h1 h2).bC hg (by rw[hb x (List.mem_of_getElem? h2)];exact .inl rfl)
  ·exact h.Tr.bC hg (by rw[ht];exact .inl rfl)
  ·exact h.Se.bC hg (by rw[hs];exact .inl rfl)
end Go.Proofs.YtgmodehldmahiaaGreatDoor
end
section
namespace Go.Proofs.YtgmodehldmahiaaGreatDoor
open Go Go.RowKit Go.Tm
attribute [local go_sem] fB fA fu dR dA dQ dP dO dN dM dL dK dJ dI dH dG dF iq ig h_ g_ gZ gY gX gN gW gV fF fE fD fC eY eX eU
structure xV(W:World)(v:Value)(dZ:List (List ByteArray)):Prop where
 row:∃vs,Sl W false 1 v vs∧vs.length=dZ.length∧∀(i:Nat) (u:Value) (l:List ByteArray),vs[i]?=some u→dZ[i]?=some l→Sl W false 1 u (vQ l)
theorem xV.below{w w':World}{v:Value}{dZ:List (List ByteArray)}(h:xV w v dZ)(hb:Below w.heap.size w w'):xV w' v dZ:=adW
theorem xV.kind{w:World}{v:Value}{dZ:List (List ByteArray)}(h:xV w v dZ):kind v=5:=by
 obtain⟨vs,h1,_⟩:=h.row
 exact jr h1
theorem xV.shape{w:World}{v:Value}{dZ:List (List ByteArray)}(h:xV w v dZ):∃a cap,v=.slice a dZ.length cap∧dZ.length≤9223372036854775807:=Y8
def zQ(dZ:List (List ByteArray))(i:Int):List ByteArray:=if i<0∨(dZ.length:Int)≤i then[] else dZ.getD i.toNat []
theorem abQ:Ty Tryz.prog 52 1 false:=⟨aj,aj,aB,aj⟩
theorem RP(v:Value)(dZ:List (List ByteArray))(i B:Nat)(w:World)(hv:xV w v dZ)(hb:aC w B #[v] 27):
  Calls Tryz.prog 18 #[.int .i64 i,.pointer (some ⟨B,0,none⟩)] w fun e w'=>∃u,e=.returned u∧Sl w' false 1 u (vQ (zQ dZ i))∧Below w.heap.size w w':=by
 obtain⟨a,cap,rfl,hl⟩:=hv.shape
 obtain⟨vs,h1,h2,h3⟩:=hv.row
 (obtain⟨hcb,bn,hlb,hnb,hmb⟩:=aC.rules hb)
 by_cases hi:i<dZ.length
 ·obtain⟨l,Eb⟩:∃l,dZ[i]?=some l:=⟨_,List.getElem?_eq_getElem hi⟩
  obtain⟨u,hu⟩:∃u,vs[i]?=some u:=⟨_,List.getElem?_eq_getElem ah⟩
  have hsu:=h3 i u l hu Eb
  have he:zQ dZ i=l:=by
   unfold zQ
   rw[if_neg ah,Int.toNat_natCast,List.getD_eq_getElem?_getD,Eb];rfl
  obtain⟨b,off,hbe,hbl,hc⟩:=h1.at hu
  subst hbe
  obtain⟨ua,un,uc,rfl⟩:=hsu.is
  have hc0:w.cell? ⟨b,off+i,none⟩=some (.slice ua un uc):=by simpa using hc 0 (.slice ua un uc) rfl
  have HSU:=Lib.hid hsu
  rw[he]
  clear h1 h3 hsu hv hc hu Eb he
  have d1:decide ((dZ.length:Int)≤i)=false:=decide_eq_false ah
  go_enter Tryz.func18,Tryz.ntmps18
  go_wp2_with fail
  go_ret
  exact⟨_,rfl,HSU.out,Below.refl _ _⟩
 ·have he:zQ dZ i=[]:=by unfold zQ;rw[if_pos ah]
  rw[he]
  have d1:decide ((dZ.length:Int)≤i)=true:=decide_eq_true ah
  clear h1 h3 hv he
  go_enter Tryz.func18,Tryz.ntmps18
  go_wp2_with fail
  go_ret
  exact⟨_,rfl,Sl.nil _ _ _,Below.refl _ _⟩
noncomputable def iT(p:Plan.iE)(dZ:List (List ByteArray))(i:Nat):St:=qz (partAt p i) (zQ dZ i) (bf.rE p.chans i) (bf.sZ p.chans i)
noncomputable def iK(p:Plan.iE)(dZ:List (List ByteArray))(n:Nat):List St:=(List.range n).map (iT p dZ)
noncomputable def f_(p:Plan.iE)(dZ:List (List ByteArray)):Hn:=⟨0,0,0,iK p dZ p.parts.length,-1⟩
theorem wW(p:Plan.iE)(dZ:List (List ByteArray))(n:Nat):(iK p dZ n).length=n:=by simp[iK]
theorem K7(p:Plan.iE)(dZ:List (List ByteArray))(n:Nat):iK p dZ (n+1)=iK p dZ n++[iT p dZ n]:=by simp[iK,List.range_succ]
theorem Du{p:Plan.iE}{dZ:List (List ByteArray)}{n i:Nat}(h:i<n):(iK p dZ n)[i]?=some (iT p dZ i):=by simp[iK,h]
def L8(dZ:List (List ByteArray)):Prop:=∀l∈dZ,l.length≤8796093022208∧∀x∈l,x.size≤9223372036854775807
theorem Av{dZ:List (List ByteArray)}(h:L8 dZ)(i:Int):(zQ dZ i).length≤8796093022208∧∀x∈zQ dZ i,x.size≤9223372036854775807:=by
 unfold zQ
 split
 ·exact⟨aI,aI⟩
 ·rw[List.getD_eq_getElem?_getD]
  cases hb:dZ[i.toNat]? with
  |none=>exact⟨aI,aI⟩
  |some l=>exact h l (List.mem_of_getElem? hb)
theorem xB{p:Plan.iE}(hp:Plan.dW p):∀c∈p.chans,Px c∧c.2.2.2.2≤8:=by
 intro c hc
 have h:=hp.chans c hc
 have h4:=hp.ze
 unfold Plan.iW at h
 exact⟨⟨lM.2 ah,lM.2 ah,lM.2 ah,lM.2 ah,lM.2 ah⟩,ah⟩
theorem M7{cs:List bf.Ch}{i:Int}{c:bf.Ch}(h:c∈bf.rE cs i):c∈cs:=(List.mem_filter.1 h).1
theorem Ej{cs:List bf.Ch}{i:Int}{c:bf.Ch}(h:c∈bf.sZ cs i):c∈cs:=(List.mem_filter.1 h).1
section
variable {p:Plan.iE} {dZ:List (List ByteArray)} (hp:Plan.dW p) (hi:L8 dZ) (i:Nat)
include hp
theorem FW:(bf.rE p.chans i).length≤1000000:=by
 have:=List.length_filter_le (fun c:bf.Ch=>decide (c.2.1=(i:Int))) p.chans
 have:=hp.B_
 unfold bf.rE;omega
theorem KE:(bf.sZ p.chans i).length≤1000000:=by
 have:=List.length_filter_le (fun c:bf.Ch=>decide (c.2.2.1=(i:Int))) p.chans
 have:=hp.B_
 unfold bf.sZ;omega
include hi
theorem aa7:Bd 0 0 0 (kI (partAt p i).1 (zQ dZ i) (bf.rE p.chans i) (bf.sZ p.chans i) 0):=
 Bd.kI (uX hp i) (Av hi i).1 (FW hp i) (KE hp i) (Av hi i).2 (fun x hx=>(xB hp x (Ej hx)).2) (fun x hx=>(xB hp x (M7 hx)).1) (fun x hx=>(xB hp x (Ej hx)).1) aB
theorem TH:Bd 1 0 0 (jk (partAt p i).1 (zQ dZ i) (bf.rE p.chans i) (bf.sZ p.chans i) 0):=
 Bd.ail (uX hp i) (Av hi i).1 (FW hp i) (KE hp i) (Av hi i).2 (fun x hx=>(xB hp x (Ej hx)).2) (fun x hx=>(xB hp x (M7 hx)).1) (fun x hx=>(xB hp x (Ej hx)).1) aB
theorem aa8:Bd 2 0 0 (iT p dZ i).1:=(TH hp hi i).looks (uX hp i) _ _
end
theorem Nf{p:Plan.iE}{dZ:List (List ByteArray)}(hp:Plan.dW p)(hi:L8 dZ):Gd p 0 (f_ p dZ):=
 ⟨wW ..,rfl,fun x hx=>by
  unfold f_ iK at hx
  obtain⟨i,_,rfl⟩:=List.mem_map.1 hx
  exact(aa8 hp hi i).mono ah ah ah⟩
def Bare(k:Kn):Prop:=k.tr=[]∧k.se=[]∧∀x∈k.bx,x.ms=[]
theorem Rp{k:Kn}(h:Bare k)(q:Tab.bV):Bare (dV k q).1:=by
 unfold dV
 split
 ·exact h
 ·dsimp only
  split
  ·exact h
  ·exact h
theorem Wx(mem:Int)(im:List ByteArray)(ou ins:List bf.Ch)(now:Int):Bare (jk mem im ou ins now):=by
 have h1:Bare (kI mem im ou ins now):=⟨rfl,rfl,fun x hx=>by
  have:x∈List.replicate ins.length bxZ:=hx
  rw[(List.mem_replicate.1 this).2]⟩
 have h2:Bare (wF (kI mem im ou ins now)).1:=by
  unfold wF
  split
  ·exact Rp h1 _
  ·exact h1
 unfold jk
 split
 ·exact h2
 ·exact h2
theorem Gv(x:DN)(im:List ByteArray)(ou ins:List bf.Ch):Bare (qz x im ou ins).1:=by
 have h:=Wx x.1 im ou ins 0
 unfold qz dU
 repeat' split
 ·exact h
 ·exact h
 ·exact⟨h.1,h.2.1,h.2.2⟩
 ·exact h
end Go.Proofs.YtgmodehldmahiaaGreatDoor
end
section
namespace Go.Proofs.YtgmodehldmahiaaGreatDoor
open Go Go.RowKit Go.Tm
theorem Q8{W:World}{fl:Nat}{cs:List Value}(h:Shaped Tryz.prog W fl 26 cs):
  ∃(pv wv cv:Value) (p:Plan.iE),cs=[pv,.int .i64 p.frame,wv,cv]∧Plan.gq W pv wv cv p:=by
 obtain⟨g1,hl,hf⟩:=mZ Tryz.underlying26 h
 have h4:Tryz.prog.cellsOf 26=4:=aj
 have k1:Tryz.prog.cellsOf 22=1:=aj
 have k2:Tryz.prog.cellsOf 3=1:=aj
 have k3:Tryz.prog.cellsOf 23=1:=aj
 have k4:Tryz.prog.cellsOf 24=1:=aj
 rw[h4] at hl
 have f0:Shaped Tryz.prog W g1 22 ((cs.drop 0).take (Tryz.prog.cellsOf 22)):=hf 0 _ rfl
 have f1:Shaped Tryz.prog W g1 3 ((cs.drop 1).take (Tryz.prog.cellsOf 3)):=hf 1 _ rfl
 have f2:Shaped Tryz.prog W g1 23 ((cs.drop 2).take (Tryz.prog.cellsOf 23)):=hf 2 _ rfl
 have f3:Shaped Tryz.prog W g1 24 ((cs.drop 3).take (Tryz.prog.cellsOf 24)):=hf 3 _ rfl
 rw[k1] at f0
 rw[k2] at f1
 rw[k3] at f2
 rw[k4] at f3
 match cs,hl with
 |[a0,a1,a2,a3],_=>
  simp only[List.drop_zero,List.drop_succ_cons,List.take_succ_cons,List.take_zero] at f0 f1 f2 f3
  obtain⟨l0,s0⟩:=Plan.Q7 f0
  obtain⟨n,e1,w1⟩:=jG Tryz.underlying3 f1
  obtain⟨l2,s2⟩:=Plan.KO f2
  obtain⟨l3,s3⟩:=Plan.RH f3
  simp at e1
  subst e1
  exact⟨a0,a2,a3,⟨l0,n,l2,l3⟩,rfl,s0,s2,s3⟩
theorem ab1{W:World}(g:Nat)(es:List Value)(h:Shaped Tryz.prog W g 9 es):∀c∈es,c.oneCell'=true:=by
 obtain⟨s,rfl,_⟩:=yJ Tryz.underlying9 h
 exact X7
theorem ZW{W:World}(g:Nat)(es:List Value)(h:Shaped Tryz.prog W g 52 es):∀c∈es,c.oneCell'=true:=by
 obtain⟨a,n,cap,rfl,_⟩:=qQ Tryz.underlying52 h
 exact X7
theorem Gl{x:Value}(h:Val false 1 x):x.cells.toList=[x]:=by
 have:x.oneCell'=true∧(1:Nat)=1:=h
 cases x with
 |agg cs=>cases this.1
 |_=>rfl
theorem UU{W:World}{xs:List Value}(h:∀x∈xs,Val false 1 x∧∃g,Shaped Tryz.prog W g 9 x.cells.toList):∃l:List ByteArray,xs=vQ l∧∀s∈l,s.size≤9223372036854775807:=by
 induction xs with
 |nil=>exact⟨[],rfl,aI⟩
 |cons x xs ih=>
  obtain⟨hv,g,hg⟩:=h x aI
  rw[Gl hv] at hg
  obtain⟨s,e,h1,_⟩:=yJ Tryz.underlying9 hg
  obtain⟨l,rfl,hl⟩:=ih fun y hy=>h y wI
  simp only[List.cons.injEq,and_true] at e
  subst e
  refine⟨s::l,rfl,?_⟩
  intro z hz
  rcases List.mem_cons.1 hz with rfl|hz
  ·exact h1
  ·exact hl z hz
theorem NJ{W:World}{fl:Nat}{v:Value}(h:Shaped Tryz.prog W fl 52 [v]):∃l:List ByteArray,Sl W false 1 v (vQ l)∧l.length≤8796093022208∧∀s∈l,s.size≤9223372036854775807:=by
 obtain⟨xs,hsl,hx,hb⟩:=l5 Kc (fun _=>rfl) ab1 Tryz.underlying52 h
 obtain⟨l,rfl,hl⟩:=UU (W:=W) (xs:=xs) fun x hm=>⟨hsl.val x hm,hx x hm⟩
 refine⟨l,hsl,?_,hl⟩
 have e:Tryz.prog.bytesOf 9=16:=aj
 rw[e,wU] at hb
 unfold reachBytes at hb
 omega
theorem aaM{W:World}{xs:List Value}(h:∀x∈xs,∃l:List ByteArray,Sl W false 1 x (vQ l)∧l.length≤8796093022208∧∀s∈l,s.size≤9223372036854775807):
  ∃ls:List (List ByteArray),xs.length=ls.length∧(∀(i:Nat) (u:Value) (l:List ByteArray),xs[i]?=some u→ls[i]?=some l→Sl W false 1 u (vQ l))∧L8 ls:=by
 induction xs with
 |nil=>exact⟨[],rfl,by intro i u l hu;simp at hu,by intro l hl;cases hl⟩
 |cons x xs ih=>
  obtain⟨l,hl,hl2⟩:=h x aI
  obtain⟨ls,h1,h2,h3⟩:=ih fun y hy=>h y wI
  refine⟨l::ls,rH,?_,?_⟩
  ·exact aed
  ·intro m hm
   rcases List.mem_cons.1 hm with rfl|hm
   ·exact hl2
   ·exact h3 m hm
theorem Rl{W:World}{fl:Nat}{v:Value}(h:Shaped Tryz.prog W fl 27 [v]):∃ls:List (List ByteArray),xV W v ls∧L8 ls:=by
 obtain⟨xs,hsl,hx,_⟩:=l5 abQ (fun _=>rfl) ZW Tryz.underlying27 h
 obtain⟨ls,h1,h2,h3⟩:=aaM (W:=W) (xs:=xs) fun x hm=>by
  obtain⟨g,hg⟩:=hx x hm
  rw[Gl (hsl.val x hm)] at hg
  exact NJ hg
 exact⟨ls,⟨xs,hsl,h1,h2⟩,h3⟩
theorem ae_:Tryz.prog.globalNamed "transom/isa.uses" =some 0:=by kernel_rfl
theorem MO{W:World}(h:laidMetH Tryz.prog Rows.topWindowsRow.laid W)(i:Nat)(hi:i<25):W.cell? ⟨0,i,none⟩=some (.int .i64 (Af.getD i 0)):=
 (Lib.tabIs_of_head (k:= .i64) (zs:=Af) (rest:=[]) ae_ (show(Tryz.prog.globals[0]?).map (·.type)=some 306 by kernel_rfl) Tryz.underlying306 Tryz.underlying3 aj aj h).cell ae_ i hi
theorem I9{W:World}(h:laidMetH Tryz.prog Rows.topWindowsRow.laid W):iV W:=by
 refine⟨?_,fun i hi=>MO h i hi⟩
 have:=MO h 0 aB
 rcases Nat.eq_zero_or_pos W.heap.size with h0|h0
 ·exfalso
  simp[World.cell?,Array.eq_empty_of_size_eq_zero h0] at this
 ·exact h0
end Go.Proofs.YtgmodehldmahiaaGreatDoor
end
