/- Part 44 of 53 of the proof of topAlone_and_topApart. Conditions: see each. -/
import Derived.Test.YtgmodehldmahiaaGreatDoorB14
import Derived.Test.YtgmodehldmahiaaGreatDoorB43
import Derived.Test.YtgmodehldmahiaaGreatDoorRows
set_option linter.unusedVariables false
set_option linter.unusedSimpArgs false
set_option maxRecDepth 8192
set_option maxHeartbeats 40000000
section
namespace Go.Proofs.YtgmodehldmahiaaGreatDoor
open Go Go.RowKit Go.Tm
attribute [local go_sem] fO fM fK d_ dM dZ dY dX dW dV dU dS dR dQ dP dO dN iQ iP iO iN iM iL iK iG iJ iI fU fT fQ fP fI fH fC
attribute [local go_sem] Gm Gl Gj Gi Gh Dy Gg Gf Gc Gb zZ
theorem Gd.pO(pv wv cv iv:Value)(p:bF.jE)(s:Hs)(h:Hn)(n k:Nat)(w:World)(hp:bF.jf w pv wv cv p)(hi:kind iv=5)(hr:MR w s h n)(hT:jw w)(hok:bF.gJ p)(hg:Gd p k h)(hk:k≤2000)(hn:n+8≤1000000):
  Calls Tryz.prog 15 #[.agg (hC pv wv cv iv p s h)] w (JH w pv wv cv iv p s h (Go.Proofs.YtgmodehldmahiaaGreatDoor.pO p h) (n+8)):=
 alk pv wv cv iv p s h n (k*(k+40)+2) k w hp hi hr hT hok hg.len ⟨by rw[hg.now];omega,by rw[hg.now];omega⟩ hg.bd (by have:=afz hk;omega) aj hn
theorem Ru(pv wv cv iv:Value)(p:bF.jE)(s:Hs)(h:Hn)(n k m:Nat)(w:World)(hp:bF.jf w pv wv cv p)(hi:kind iv=5)(hr:MR w s h n)(hT:jw w)(hok:bF.gJ p)(hg:Gd p k h)(hk:k+m≤2000)(hn:n+8*m+8≤1000000):
  Calls Tryz.prog 10 #[.agg (hC pv wv cv iv p s h),.int .i64 m] w (JH w pv wv cv iv p s h (nT p h m) (n+8*m)):=by
 have HP:=ah hp
 have HM:=ah hr
 have Et:=ah (fun W (h:Below w.heap.size w W)=>hT.below h)
 have HG:=ah (fun i=>hg.run hok i)
 obtain⟨a1,c1,a2,c2,a3,c3,rfl,rfl,rfl,jO,hl2,qM⟩:=hp.shape
 have QV:jV.size=11:=rfl
 have hmx:max (m:Int) 0=m:=aj
 obtain⟨hq,hhq⟩:∃hq,hq=nT p h m:=⟨_,rfl⟩
 rw[←hhq]
 have HHQ:=ah hhq
 clear hp hr hT hg hhq
 go_enter Tryz.func10,Tryz.ntmps10
 go_wp2_with fail
 (generalize bR:World.alloc _ _=w0;have KB:aD w0 (w.heap.size) (hC (.slice a1 p.parts.length c1) (.slice a2 p.wins.length c2) (.slice a3 p.chans.length c3) iv p s h) 36:=bH;have KZ:aD w0 (w.heap.size+1) (jV) 36:=bH;have hb0:Below w.heap.size w w0:=bN;have hz0:w0.heap.size=w.heap.size+1+1:=bX;clear bR;have KB:=ah KB;have KZ:=ah KZ)
 go_loopw [7] (fun t W=>∃(i:Nat) (s':Hs),i≤m∧t=.int .i64 i∧aD W w.heap.size (hC (.slice a1 p.parts.length c1) (.slice a2 p.wins.length c2) (.slice a3 p.chans.length c3) iv p s' (nT p h i)) 36∧aD W (w.heap.size+1) jV 36∧MR W s' (nT p h i) (n+8*i)∧(∀B,B<w.heap.size+2→iR B s h→iR B s' (nT p h i))∧Below w.heap.size w W) (fun t _=>m-(intOf t).toNat)
 case atStart=>exact⟨0,s,Nat.zero_le _,rfl,KB.out,KZ.out,HM.out.below hb0,fun _ _ h=>h,hb0⟩
 case round=>
  obtain⟨i,s',hi',rfl,hkb,hkz,hmr,Uz,bZ⟩:=hrel
  have p8:=ah hkb
  have Er:=ah hkz
  have HM1:=ah hmr
  have Od:=ah Uz
  have FW:=ah bZ
  have hwz:=bZ.size
  have asn:=hkz.lt
  have hv:=je (HP.out.below bZ) hi hmr
  have HV:=ah hv
  have xV:=vF (HP.out.below bZ) hi hmr
  have HKS:=ah xV
  clear hkb hkz hmr Uz hv xV
  by_cases xW:i<m
  ·have HST:=ah (Gd.pO (.slice a1 p.parts.length c1) (.slice a2 p.wins.length c2) (.slice a3 p.chans.length c3) iv p s' (nT p h i) (n+8*i) (k+i) wr (HP.out.below bZ) hi HM1.out (Et.out _ bZ) hok (HG.out i) aj aj)
   have Ol:=nk (.slice a1 p.parts.length c1) (.slice a2 p.wins.length c2) (.slice a3 p.chans.length c3) iv p s' (nT p h i)
   have ajX:IntKind.i64.wrap ((i:Int)+1)=i+1:=IntWalk.i64_in _ aj
   obtain⟨h2,hh2⟩:∃h2,h2=nT p h (i+1):=⟨_,rfl⟩
   have HH2:=ah hh2
   rw[show Go.Proofs.YtgmodehldmahiaaGreatDoor.pO p (nT p h i)=h2 from hh2.symm] at HST
   clear hh2
   generalize nT p h i=h1 at*
   go_wp2_with(first|((with_reducible refine cK 36 ?_);(refine aK rfl 36 _ rfl (hC (.slice a1 p.parts.length c1) (.slice a2 p.wins.length c2) (.slice a3 p.chans.length c3) iv p s' h1) eH (HV.out) p8.out ?_ ?_;(exact aM)))|fail)
   with_reducible refine HST.out.mono ?_
   rintro en w2 ⟨s2,rfl,nS,ang,hb2⟩
   have hz2:=hb2.size
   have bM:=bZ.trans (hb2.mono hwz)
   have qO:=ah (p8.out.below hb2 p8.out.lt)
   have Uk:=ah (Er.out.below hb2 Er.out.lt)
   have hv2:=je (HP.out.below bM) hi nS
   have HV2:=ah hv2
   have HM2:=ah nS
   have anR:=ah ang
   clear hv2 nS ang
   go_wp2_with(first|((with_reducible refine bS 36 ?_);(refine aR rfl 36 _ _ rfl qO.out (.agg (hC (.slice a1 p.parts.length c1) (.slice a2 p.wins.length c2) (.slice a3 p.chans.length c3) iv p s2 h2)) eH (HV2.out) ?_ (_) (gM 11 Ol ()) ?_ ?_ ?_;(exact gG);(exact aM);(exact aM);(intro w3 bp3 hg3 hz3 hb3;have BP3:=ah bp3;have CZ:=ah hg3;clear bp3 hg3)))|fail)
   have qL:=HM2.out.bP (anR.out w.heap.size aj (Od.out w.heap.size aj (HM.out.away (Nat.le_refl _)))) qO.out HKS.out j6 aC aC aC CZ.out
   have kz3:=Uk.out.grown CZ.out aI
   have gZ:Below w.heap.size w w3:=bM.trans (bJ CZ.out aj aj)
   go_roundw
   case rel=>exact⟨i+1,s2,aj,dn,by rw[←HH2.out];exact BP3.out,kz3,by rw[←HH2.out];exact qL.mono aj,by rw[←HH2.out];exact fun B hB ha=>anR.out B aj (Od.out B hB ha),gZ⟩
   case measure=>simp[intOf];omega
  ·have hie:i=m:=by omega
   subst hie
   have gD:=HHQ.out
   clear HHQ
   rw[←gD] at p8 HM1 Od HV
   have Ol:=nk (.slice a1 p.parts.length c1) (.slice a2 p.wins.length c2) (.slice a3 p.chans.length c3) iv p s' hq
   have hdn:decide ((i:Int)<i)=false:=decide_eq_false aj
   clear gD
   go_wp2_with(first|((with_reducible refine cK 36 ?_);(refine aK rfl 36 _ rfl (hC (.slice a1 p.parts.length c1) (.slice a2 p.wins.length c2) (.slice a3 p.chans.length c3) iv p s' hq) eH (HV.out) p8.out ?_ ?_;(exact aM)))|((with_reducible refine bS 36 ?_);(refine aR rfl 36 _ _ rfl Er.out (.agg (hC (.slice a1 p.parts.length c1) (.slice a2 p.wins.length c2) (.slice a3 p.chans.length c3) iv p s' hq)) eH (HV.out) ?_ (_) (gM 11 lX ()) ?_ ?_ ?_;(exact gG);(exact aM);(exact aM);(intro N7 nN oP zB f_;have pI:=ah nN)))|fail)
   have sK:=HM1.out.bP (R:=w.heap.size+1) (ks:=wV) (Od.out (w.heap.size+1) aj (HM.out.away aj)) Er.out rfl aC aC aC aC oP
   exact jH Tryz.results10 eH HV.out aF pI.out rfl ⟨s',rfl,sK,fun B hB h=>Od.out B aj h,FW.out.trans (f_.mono aj)⟩
end Go.Proofs.YtgmodehldmahiaaGreatDoor
end
section
namespace Go.Proofs.YtgmodehldmahiaaGreatDoor
open Go Go.RowKit Go.Tm
abbrev vX:TypeId:=59
theorem WQ:(Tryz.prog.info? 59).map (fun i=>(i.zero,i.size,i.bytes))=some (some (.agg kP),19,336):=by kernel_rfl
theorem RX:∃i,TyM Tryz.prog 59 19 true i (.agg kP) 336 33:=by
 obtain⟨i,hi,hz,hs,hb⟩:=info_parts WQ
 exact⟨i,dH,Tryz.underlying33,hi,hz,hs,hb,rfl⟩
def NoU(w:World)(v:Value):Prop:=∀g,v.ownBlock=some g→∃cs,aD w g cs vX∧∀c∈cs.toList,kind c≠2
theorem aeM{W:World}{s:Ks}{k:Kn}(h:KR W s k)(st bo:Int):∀c∈(xC s k (sx st bo)).toList,kind c≠2:=by
 intro c hc
 have hk:=vC h (sx st bo)
 have hm:kind c∈(xC s k (sx st bo)).toList.map kind:=List.mem_map.2 ⟨c,hc,rfl⟩
 rw[hk] at hm
 have:∀n∈nH++(sx st bo).toList.map kind,n≠2:=by
  show∀n∈nH++[1,1],n≠2
  decide
 exact this _ hm
theorem RJ(n:Nat):∀c∈(Builtin.zeroCells (Value.agg kP).cells n).toList,kind c≠2:=by
 intro c hc
 unfold Builtin.zeroCells at hc
 simp only[Array.toList_map,List.mem_map] at hc
 obtain⟨i,_,rfl⟩:=hc
 have h19:(Value.agg kP).cells.size=19:=rfl
 rw[h19]
 have hlt:i%19<19:=Nat.mod_lt _ aC
 have hall:∀j:Fin 19,kind ((Value.agg kP).cells[j.1]!)≠2:=aC
 exact hall ⟨i%19,hlt⟩
theorem Hf{w:World}{base:Nat}{v:Value}{xs:List Value}(ty:TypeId)(hown:bI w base vX true 19 v xs)(hno:NoU w v){u:Nat}{y:Array Value}(hy:Val true 19 (.agg y))(hyn:∀c∈y.toList,kind c≠2)
  (LQ:Sl w true 19 (.slice (some ⟨u,0,none⟩) 1 1) [.agg y])(h63:xs.length+1≤1000)(hbase:base≤w.heap.size):
  ∃v' w',(Builtin.append_ #[33,33] ty #[v,.slice (some ⟨u,0,none⟩) 1 1]).run Tryz.prog w=.ok v' w'∧bI w' base vX true 19 v' (xs++[.agg y])∧NoU w' v'∧w.grownBy w' v.ownBlock∧(v'.ownBlock=v.ownBlock∨v'.ownBlock=some w.heap.size):=by
 obtain⟨i,M⟩:=RX
 have hval:∀z∈xs++[.agg y],Val true 19 z:=by
  intro z hz
  rcases List.mem_append.1 hz with hz|hz
  ·exact hown.val z hz
  ·exact LQ.val z hz
 have hvy:∀z∈[Value.agg y],Val true 19 z:=LQ.val
 have LU:(flat [Value.agg y]).length=1*i.size:=by rw[M.hs,fA hvy];rfl
 obtain⟨v',w',hr,h2,h3,_⟩:=run_append_own (P:=Tryz.prog) w base 33 ty vX i (.agg kP) 19 336 M.ht M.hi M.hz M.hs M.hb M.hzs M.T.pos v xs.length (flat xs) hown.row ⟨u,0,none⟩ 1 1 (flat [Value.agg y]) (fA hvy) LQ.news (jq hvy) yA aj hbase
 have hnews:∀c∈flat [Value.agg y],kind c≠2:=by
  intro c hc
  have e:flat [Value.agg y]=y.toList:=by simp[flat,Value.cells]
  rw[e] at hc
  exact hyn c hc
 refine⟨v',w',hr,⟨by rw[List.length_append,mM];exact h2,hval⟩,?_⟩
 rcases hown.row.2 with⟨rfl,h0⟩|⟨g,cap,cur,rfl,hbg,hg,Qv,hcm,hcs,aof⟩
 ·have hr2:=run_append_nil (P:=Tryz.prog) w 33 ty vX i (.agg kP) M.ht M.hi M.hz ⟨u,0,none⟩ 1 1 (flat [Value.agg y]) LU LQ.news aC aC (by rw[M.hb];decide)
  rw[hr] at hr2
  injection hr2 with e1 e2
  subst e1 e2
  refine⟨?_,h3,.inr rfl⟩
  intro g' hg'
  simp only[Value.ownBlock,Option.some.injEq] at hg'
  subst hg'
  refine⟨_,heap_alloc_new w.drew _,?_⟩
  intro c hc
  rw[Array.toList_append] at hc
  rcases List.mem_append.1 hc with hc|hc
  ·exact hnews c hc
  ·exact RJ _ c hc
 ·obtain⟨cs,jo,hcn⟩:=hno g rfl
  have aqz:cs=cur:=by
   unfold aD at jo
   rw[hg] at jo
   cases jo;rfl
  subst aqz
  by_cases hroom:xs.length+1≤cap
  ·have vP:xs.length*i.size+(flat [Value.agg y]).length≤cs.size:=by rw[LU,M.hs,hcs];omega
   have hr2:=run_append_room (P:=Tryz.prog) w 33 ty vX i M.ht M.hi g xs.length cap cs hg ⟨u,0,none⟩ 1 1 (flat [Value.agg y]) LU LQ.news (jq hvy) hroom vP
   rw[hr] at hr2
   injection hr2 with e1 e2
   subst e1 e2
   refine⟨?_,h3,.inl rfl⟩
   intro g' hg'
   simp only[Value.ownBlock,Option.some.injEq] at hg'
   subst hg'
   refine⟨_,setRow_heap w g cs _ vX _ hg,?_⟩
   intro c hc
   simp only[List.mem_append] at hc
   rcases hc with(hc|hc)|hc
   ·exact hcn c (List.mem_of_mem_take hc)
   ·exact hnews c hc
   ·exact hcn c (List.mem_of_mem_drop hc)
  ·have holds:∀j c,(flat xs)[j]?=some c→w.cell? ((⟨g,0,none⟩:Addr).add j)=some c:=hown.row.cells (g:=g) rfl
   have hr2:=run_append_grow (P:=Tryz.prog) w 33 ty vX i (.agg kP) M.ht M.hi M.hz ⟨g,0,none⟩ xs.length cap (flat xs) (by rw[M.hs];exact hown.row.1) holds ⟨u,0,none⟩ 1 1 (flat [Value.agg y]) LU LQ.news aj aj (growslice_fits aj (by rw[M.hb];omega))
   rw[hr] at hr2
   injection hr2 with e1 e2
   subst e1 e2
   refine⟨?_,h3,.inr rfl⟩
   intro g' hg'
   simp only[Value.ownBlock,Option.some.injEq] at hg'
   subst hg'
   refine⟨_,heap_alloc_new w.drew _,?_⟩
   intro c hc
   simp only[Array.toList_append,List.mem_append] at hc
   rcases hc with(hc|hc)|hc
   ·have jW:c∈cs.toList.take (xs.length*19):=by rw[aof];exact hc
    exact hcn c (List.mem_of_mem_take jW)
   ·exact hnews c hc
   ·exact RJ _ c hc
theorem KR.SG{w w':World}{u:Ks}{k:Kn}(h:KR w u k)(ht:k.tr=[])(hs:k.se=[])(hb:∀x∈k.bx,x.ms=[]){v:Value}(hno:NoU w v)(ha:∀g,v.ownBlock=some g→jF g u k)(hg:w.grownBy w' v.ownBlock):KR w' u k:=by
 cases hv:v.ownBlock with
 |none=>
  rw[hv] at hg
  exact h.below ⟨hg.os,hg.tape,hg.output,hg.size,fun k hk=>hg.block k hk aI⟩
 |some g=>
  rw[hv] at hg
  obtain⟨cs,jo,hcn⟩:=hno g hv
  obtain⟨aL,aH,LX,aOu,⟨aIn,MZ,aS⟩,aPi⟩:=ha g hv
  have aP:Apart g u.P (aT.rH k.P):=by
   cases hk:k.P with
   |nil=>exact .inl rfl
   |cons p r=>
    right
    intro b' hb' yT
    subst yT
    have hP:=h.P
    rw[hk] at hP
    obtain⟨a,cap,e,_⟩:=hP.shape
    rw[e] at hP hb'
    obtain⟨b2,off,rfl,hlt,hc⟩:=hP.at (i:=0) (x:=aT.jQ p) rfl
    simp only[Value.ownBlock,Option.some.injEq] at hb'
    subst hb'
    have hC:(aT.jQ p).cells.toList[3]?=some (.int .u32 ((pq p).c.getD 0 0)):=by
     show(aT.eT p).toList[3]?=_
     rw[wM,eD];rfl
    have:=hc 3 _ hC
    rw[jo.rules.1] at this
    exact hcn _ (Array.mem_toList_iff.2 (Array.mem_of_getElem? this)) rfl
  refine⟨h.P.bO hg aP,h.L.bO hg aL,h.S.bO hg aS,h.Pi.bO hg aPi,h.H.bO hg aH,h.Im.bO hg LX,h.Ou.bO hg aOu,h.In.bO hg aIn,⟨h.Bx.sl.bO hg MZ,h.Bx.len,fun i u x h1 h2=>?_⟩,?_,?_,h.pi⟩
  ·exact(h.Bx.el i u x h1 h2).bO hg (by rw[hb x (List.mem_of_getElem? h2)];exact .inl rfl)
  ·exact h.Tr.bO hg (by rw[ht];exact .inl rfl)
  ·exact h.Se.bO hg (by rw[hs];exact .inl rfl)
end Go.Proofs.YtgmodehldmahiaaGreatDoor
end
section
namespace Go.Proofs.YtgmodehldmahiaaGreatDoor
open Go Go.RowKit Go.Tm
attribute [local go_sem] fO fM fK d_ dM dZ dY dX dW dV dU dS dR dQ dP dO dN iQ iP iO iN iM iL iK iG iJ iI fU fT fQ fP fI fH fC
structure mR(W:World)(v:Value)(dx:List (List ByteArray)):Prop where
 row:∃vs,Sl W false 1 v vs∧vs.length=dx.length∧∀(i:Nat) (u:Value) (l:List ByteArray),vs[i]?=some u→dx[i]?=some l→Sl W false 1 u (rE l)
theorem mR.below{w w':World}{v:Value}{dx:List (List ByteArray)}(h:mR w v dx)(hb:Below w.heap.size w w'):mR w' v dx:=acC
theorem mR.kind{w:World}{v:Value}{dx:List (List ByteArray)}(h:mR w v dx):kind v=5:=by
 obtain⟨vs,h1,_⟩:=h.row
 exact kG h1
theorem mR.shape{w:World}{v:Value}{dx:List (List ByteArray)}(h:mR w v dx):∃a cap,v=.slice a dx.length cap∧dx.length≤9223372036854775807:=acB
def jr(dx:List (List ByteArray))(i:Int):List ByteArray:=if i<0∨(dx.length:Int)≤i then[] else dx.getD i.toNat []
theorem agx:Ty Tryz.prog 52 1 false:=⟨ay,ay,aC,ay⟩
theorem Xn(v:Value)(dx:List (List ByteArray))(i B:Nat)(w:World)(hv:mR w v dx)(hb:aD w B #[v] 27):
  Calls Tryz.prog 18 #[.int .i64 i,.pointer (some ⟨B,0,none⟩)] w fun e w'=>∃u,e=.returned u∧Sl w' false 1 u (rE (jr dx i))∧Below w.heap.size w w':=by
 obtain⟨a,cap,rfl,hl⟩:=hv.shape
 obtain⟨vs,h1,h2,h3⟩:=hv.row
 obtain⟨hcb,bC,bn,bA,bE⟩:=aD.rules hb
 by_cases hi:i<dx.length
 ·obtain⟨l,vT⟩:∃l,dx[i]?=some l:=⟨_,List.getElem?_eq_getElem hi⟩
  obtain⟨u,hu⟩:∃u,vs[i]?=some u:=⟨_,List.getElem?_eq_getElem aj⟩
  have hsu:=h3 i u l hu vT
  have he:jr dx i=l:=by
   unfold jr
   rw[if_neg aj,Int.toNat_natCast,List.getD_eq_getElem?_getD,vT];rfl
  obtain⟨b,off,xR,hbl,hc⟩:=h1.at hu
  subst xR
  obtain⟨ua,un,uc,rfl⟩:=hsu.is
  have hc0:w.cell? ⟨b,off+i,none⟩=some (.slice ua un uc):=O8
  have HSU:=ah hsu
  rw[he]
  clear h1 h3 hsu hv hc hu vT he
  have d1:decide ((dx.length:Int)≤i)=false:=decide_eq_false aj
  go_enter Tryz.func18,Tryz.ntmps18
  go_wp2_with fail
  go_ret
  exact⟨_,rfl,HSU.out,Below.refl _ _⟩
 ·have he:jr dx i=[]:=by unfold jr;rw[if_pos aj]
  rw[he]
  have d1:decide ((dx.length:Int)≤i)=true:=decide_eq_true aj
  clear h1 h3 hv he
  go_enter Tryz.func18,Tryz.ntmps18
  exact Dn
noncomputable def j3(p:bF.jE)(dx:List (List ByteArray))(i:Nat):St:=vv (partAt p i) (jr dx i) (aW.uQ p.chans i) (aW.qc p.chans i)
noncomputable def jL(p:bF.jE)(dx:List (List ByteArray))(n:Nat):List St:=(List.range n).map (j3 p dx)
noncomputable def fu(p:bF.jE)(dx:List (List ByteArray)):Hn:=⟨0,0,0,jL p dx p.parts.length,-1⟩
theorem lg(p:bF.jE)(dx:List (List ByteArray))(n:Nat):(jL p dx n).length=n:=by simp[jL]
theorem Qg(p:bF.jE)(dx:List (List ByteArray))(n:Nat):jL p dx (n+1)=jL p dx n++[j3 p dx n]:=by simp[jL,List.range_succ]
theorem wH{p:bF.jE}{dx:List (List ByteArray)}{n i:Nat}(h:i<n):(jL p dx n)[i]?=some (j3 p dx i):=by simp[jL,h]
def Dk(dx:List (List ByteArray)):Prop:=∀l∈dx,l.length≤8796093022208∧∀x∈l,x.size≤9223372036854775807
theorem DT{dx:List (List ByteArray)}(h:Dk dx)(i:Int):(jr dx i).length≤8796093022208∧∀x∈jr dx i,x.size≤9223372036854775807:=by
 unfold jr
 split
 ·exact⟨aI,aI⟩
 ·rw[List.getD_eq_getElem?_getD]
  cases hb:dx[i.toNat]? with
  |none=>exact⟨aI,aI⟩
  |some l=>exact h l (List.mem_of_getElem? hb)
theorem Aw{p:bF.jE}(hp:bF.gJ p):∀c∈p.chans,Mj c∧c.2.2.2.2≤8:=by
 intro c hc
 have h:=hp.chans c hc
 have h4:=hp.zX
 unfold bF.lU at h
 exact⟨⟨nY.2 aj,nY.2 aj,nY.2 aj,nY.2 aj,nY.2 aj⟩,aj⟩
theorem Sn{cs:List aW.Ch}{i:Int}{c:aW.Ch}(h:c∈aW.uQ cs i):c∈cs:=(List.mem_filter.1 h).1
theorem Ib{cs:List aW.Ch}{i:Int}{c:aW.Ch}(h:c∈aW.qc cs i):c∈cs:=(List.mem_filter.1 h).1
section
variable {p:bF.jE} {dx:List (List ByteArray)} (hp:bF.gJ p) (hi:Dk dx) (i:Nat)
include hp
theorem JW:(aW.uQ p.chans i).length≤1000000:=by
 have:=List.length_filter_le (fun c:aW.Ch=>decide (c.2.1=(i:Int))) p.chans
 have:=hp.Cn
 unfold aW.uQ;omega
theorem PY:(aW.qc p.chans i).length≤1000000:=by
 have:=List.length_filter_le (fun c:aW.Ch=>decide (c.2.2.1=(i:Int))) p.chans
 have:=hp.Cn
 unfold aW.qc;omega
include hi
theorem afA:Bd 0 0 0 (nC (partAt p i).1 (jr dx i) (aW.uQ p.chans i) (aW.qc p.chans i) 0):=
 Bd.nC (yG hp i) (DT hi i).1 (JW hp i) (PY hp i) (DT hi i).2 (fun x hx=>(Aw hp x (Ib hx)).2) (fun x hx=>(Aw hp x (Sn hx)).1) (fun x hx=>(Aw hp x (Ib hx)).1) aC
theorem YD:Bd 1 0 0 (kN (partAt p i).1 (jr dx i) (aW.uQ p.chans i) (aW.qc p.chans i) 0):=
 Bd.anm (yG hp i) (DT hi i).1 (JW hp i) (PY hp i) (DT hi i).2 (fun x hx=>(Aw hp x (Ib hx)).2) (fun x hx=>(Aw hp x (Sn hx)).1) (fun x hx=>(Aw hp x (Ib hx)).1) aC
theorem afB:Bd 2 0 0 (j3 p dx i).1:=(YD hp hi i).looks (yG hp i) _ _
end
theorem vG{p:bF.jE}{dx:List (List ByteArray)}(hp:bF.gJ p)(hi:Dk dx):Gd p 0 (fu p dx):=
 ⟨lg ..,rfl,fun x hx=>by
  unfold fu jL at hx
  obtain⟨i,_,rfl⟩:=List.mem_map.1 hx
  exact(afB hp hi i).mono aj aj aj⟩
def Rl(k:Kn):Prop:=k.tr=[]∧k.se=[]∧∀x∈k.bx,x.ms=[]
theorem WU{k:Kn}(h:Rl k)(q:aT.dz):Rl (eZ k q).1:=by
 unfold eZ
 split
 ·exact h
 ·dsimp only
  split
  ·exact h
  ·exact h
theorem abn(mem:Int)(im:List ByteArray)(ou ins:List aW.Ch)(now:Int):Rl (kN mem im ou ins now):=by
 have h1:Rl (nC mem im ou ins now):=⟨rfl,rfl,fun x hx=>by
  have:x∈List.replicate ins.length bxZ:=hx
  rw[(List.mem_replicate.1 this).2]⟩
 have h2:Rl (DC (nC mem im ou ins now)).1:=by
  unfold DC
  split
  ·exact WU h1 _
  ·exact h1
 unfold kN
 split
 ·exact h2
 ·exact h2
theorem KQ(x:Il)(im:List ByteArray)(ou ins:List aW.Ch):Rl (vv x im ou ins).1:=by
 have h:=abn x.1 im ou ins 0
 unfold vv eY
 repeat' split
 ·exact h
 ·exact h
 ·exact⟨h.1,h.2.1,h.2.2⟩
 ·exact h
end Go.Proofs.YtgmodehldmahiaaGreatDoor
end
section
namespace Go.Proofs.YtgmodehldmahiaaGreatDoor
open Go Go.RowKit Go.Tm
theorem WE{W:World}{fl:Nat}{cs:List Value}(h:Shaped Tryz.prog W fl 26 cs):
  ∃(pv wv cv:Value) (p:bF.jE),cs=[pv,.int .i64 p.frame,wv,cv]∧bF.jf W pv wv cv p:=by
 obtain⟨g1,hl,hf⟩:=nD Tryz.underlying26 h
 have h4:Tryz.prog.cellsOf 26=4:=ay
 have k1:Tryz.prog.cellsOf 22=1:=ay
 have k2:Tryz.prog.cellsOf 3=1:=ay
 have k3:Tryz.prog.cellsOf 23=1:=ay
 have k4:Tryz.prog.cellsOf 24=1:=ay
 rw[h4] at hl
 have f0:Shaped Tryz.prog W g1 22 ((cs.drop 0).take (Tryz.prog.cellsOf 22)):=hf 0 _ rfl
 have f1:Shaped Tryz.prog W g1 3 ((cs.drop 1).take (Tryz.prog.cellsOf 3)):=hf 1 _ rfl
 have f2:Shaped Tryz.prog W g1 23 ((cs.drop 2).take (Tryz.prog.cellsOf 23)):=hf 2 _ rfl
 have f3:Shaped Tryz.prog W g1 24 ((cs.drop 3).take (Tryz.prog.cellsOf 24)):=hf 3 _ rfl
 rw[k1] at f0
 rw[k2] at f1
 rw[k3] at f2
 rw[k4] at f3
 match cs,hl with
 |[a0,a1,a2,a3],_=>
  simp only[List.drop_zero,List.drop_succ_cons,List.take_succ_cons,List.take_zero] at f0 f1 f2 f3
  obtain⟨l0,s0⟩:=bF.WC f0
  obtain⟨n,e1,w1⟩:=ko Tryz.underlying3 f1
  obtain⟨l2,s2⟩:=bF.P_ f2
  obtain⟨l3,s3⟩:=bF.Xh f3
  simp at e1
  subst e1
  exact⟨a0,a2,a3,⟨l0,n,l2,l3⟩,rfl,s0,s2,s3⟩
theorem agI{W:World}(g:Nat)(es:List Value)(h:Shaped Tryz.prog W g 9 es):∀c∈es,c.oneCell'=true:=by
 obtain⟨s,rfl,_⟩:=BG Tryz.underlying9 h
 exact acy
theorem aeA{W:World}(g:Nat)(es:List Value)(h:Shaped Tryz.prog W g 52 es):∀c∈es,c.oneCell'=true:=by
 obtain⟨a,n,cap,rfl,_⟩:=uy Tryz.underlying52 h
 exact acy
theorem Ko{x:Value}(h:Val false 1 x):x.cells.toList=[x]:=by
 have:x.oneCell'=true∧(1:Nat)=1:=h
 cases x with
 |agg cs=>cases this.1
 |_=>rfl
theorem ZO{W:World}{xs:List Value}(h:∀x∈xs,Val false 1 x∧∃g,Shaped Tryz.prog W g 9 x.cells.toList):∃l:List ByteArray,xs=rE l∧∀s∈l,s.size≤9223372036854775807:=by
 induction xs with
 |nil=>exact⟨[],rfl,aI⟩
 |cons x xs ih=>
  obtain⟨hv,g,hg⟩:=h x aI
  rw[Ko hv] at hg
  obtain⟨s,e,h1,_⟩:=BG Tryz.underlying9 hg
  obtain⟨l,rfl,hl⟩:=ih fun y hy=>h y zQ
  simp only[List.cons.injEq,and_true] at e
  subst e
  refine⟨s::l,rfl,?_⟩
  intro z hz
  rcases List.mem_cons.1 hz with rfl|hz
  ·exact h1
  ·exact hl z hz
theorem Tt{W:World}{fl:Nat}{v:Value}(h:Shaped Tryz.prog W fl 52 [v]):∃l:List ByteArray,Sl W false 1 v (rE l)∧l.length≤8796093022208∧∀s∈l,s.size≤9223372036854775807:=by
 obtain⟨xs,hsl,hx,hb⟩:=oK Pp (fun _=>rfl) agI Tryz.underlying52 h
 obtain⟨l,rfl,hl⟩:=ZO (W:=W) (xs:=xs) fun x hm=>⟨hsl.val x hm,hx x hm⟩
 refine⟨l,hsl,?_,hl⟩
 have e:Tryz.prog.bytesOf 9=16:=ay
 rw[e,xE] at hb
 unfold reachBytes at hb
 omega
theorem afe{W:World}{xs:List Value}(h:∀x∈xs,∃l:List ByteArray,Sl W false 1 x (rE l)∧l.length≤8796093022208∧∀s∈l,s.size≤9223372036854775807):
  ∃ls:List (List ByteArray),xs.length=ls.length∧(∀(i:Nat) (u:Value) (l:List ByteArray),xs[i]?=some u→ls[i]?=some l→Sl W false 1 u (rE l))∧Dk ls:=by
 induction xs with
 |nil=>exact⟨[],rfl,by intro i u l hu;simp at hu,by intro l hl;cases hl⟩
 |cons x xs ih=>
  obtain⟨l,hl,hl2⟩:=h x aI
  obtain⟨ls,h1,h2,h3⟩:=ih fun y hy=>h y zQ
  refine⟨l::ls,yt,?_,?_⟩
  ·exact aix
  ·intro m hm
   rcases List.mem_cons.1 hm with rfl|hm
   ·exact hl2
   ·exact h3 m hm
theorem Kr{W:World}{fl:Nat}{v:Value}(h:Shaped Tryz.prog W fl 27 [v]):∃ls:List (List ByteArray),mR W v ls∧Dk ls:=by
 obtain⟨xs,hsl,hx,_⟩:=oK agx (fun _=>rfl) aeA Tryz.underlying27 h
 obtain⟨ls,h1,h2,h3⟩:=afe (W:=W) (xs:=xs) fun x hm=>by
  obtain⟨g,hg⟩:=hx x hm
  rw[Ko (hsl.val x hm)] at hg
  exact Tt hg
 exact⟨ls,⟨xs,hsl,h1,h2⟩,h3⟩
theorem ajK:Tryz.prog.globalNamed "transom/isa.uses" =some 0:=by kernel_rfl
theorem RZ{W:World}(h:laidMetH Tryz.prog Rows.topWindowsRow.laid W)(i:Nat)(hi:i<25):W.cell? ⟨0,i,none⟩=some (.int .i64 (Bv.getD i 0)):=
 (Lib.tabIs_of_head (k:= .i64) (zs:=Bv) (rest:=[]) ajK (show(Tryz.prog.globals[0]?).map (·.type)=some 306 by kernel_rfl) Tryz.underlying306 Tryz.underlying3 ay ay h).cell ajK i hi
theorem Az{W:World}(h:laidMetH Tryz.prog Rows.topWindowsRow.laid W):jw W:=by
 refine⟨?_,fun i hi=>RZ h i hi⟩
 have:=RZ h 0 aC
 rcases Nat.eq_zero_or_pos W.heap.size with h0|h0
 ·exfalso
  simp[World.cell?,Array.eq_empty_of_size_eq_zero h0] at this
 ·exact h0
end Go.Proofs.YtgmodehldmahiaaGreatDoor
end
