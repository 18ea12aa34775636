/- Part 51 of 53 of the proof of topAlone_and_topApart. Conditions: see each. -/
import Derived.Test.YtgmodehldmahiaaGreatDoorB14
import Derived.Test.YtgmodehldmahiaaGreatDoorB01
import Derived.Test.YtgmodehldmahiaaGreatDoorB09
import Derived.Test.YtgmodehldmahiaaGreatDoorB13
import Derived.Test.YtgmodehldmahiaaGreatDoorB45
import Derived.Test.YtgmodehldmahiaaGreatDoorB44
import Derived.Test.YtgmodehldmahiaaGreatDoorB47
set_option linter.unusedVariables false
set_option linter.unusedSimpArgs false
set_option maxRecDepth 8192
set_option maxHeartbeats 40000000
section
theorem XM{P:Prop}(h:P:=by
 go_wp2_with fail
 go_roundw
 case rel=>exact⟨i+1,S1,_,m,aj,rfl,rfl,dn,am8,Ba.out,HN,aj⟩
 case measure=>simp[intOf];omega):P:=h
theorem amn{P:Prop}(h:P:=by
 ((refine aJ 4 (oi:=⟨some 99,_,_,_,_,_⟩) rfl ay rfl (fun K hK=>?_));(go_simp;(with_reducible refine(FV.out _ (OG.trans (Below.mono O4 OG.size))).mono ?_);rintro en wB ⟨sB,rfl,o_,UA,GU⟩;have hS:=hS.trans (Below.mono GU hS.size);(try(have yU:=UA qa bT.lt (OM.out.away gy));have bT:=aD.below bT GU bT.lt);(try go_wp2_with fail));(refine hK.out _ _ (fun _=>b_) ?_;clear hK K);(try simp only[pt]);(refine aZ 6 ay ?_ rfl);simp only[List.toList_toArray,List.drop_succ_cons,List.drop_zero];(have MU:jV.size=11:=rfl;have Es:=ah bT;have Qs:=je (HP.out.below (IG.trans (hS.mono IG.size))) hkj o_;have HMZ:=ah o_;have Y_:=ah yU;have Y3:=ah hS;go_wp2_with(first|((with_reducible refine bS 36 ?_);(refine aR rfl 36 _ _ rfl Es.out (.agg (hC (.slice a1 p.parts.length c1) (.slice a2 p.wins.length c2) (.slice a3 p.chans.length c3) (.slice ja kS.length jc) p sB Y)) eH (Qs) ?_ (_) (gM 11 lX ()) ?_ ?_ ?_;(exact gG);(exact aM);(exact aM);intro wZ YU YP hzZ YR))|fail);exact⟨qa,EJ.of rfl ay IX,sB,YU,HMZ.out.bP Y_.out Es.out rfl aC aC aC aC YP,Y3.out.trans (YR.mono gy),gy⟩))):P:=h
theorem amm{P:Prop}(h:P:=by
 ((refine aJ 4 (oi:=⟨some 94,_,_,_,_,_⟩) rfl ay rfl (fun K hK=>?_));(go_simp;(with_reducible refine(Eu.out _ hS).mono ?_);rintro en wB ⟨sB,rfl,o_,UA,GU⟩;have hS:=hS.trans (Below.mono GU hS.size);(try(have yU:=UA qa bT.lt (IV.out.away gy));have bT:=aD.below bT GU bT.lt);(try go_wp2_with fail));(refine hK.out _ _ (fun _=>b_) ?_;clear hK K);(try simp only[pt]);(refine aZ 6 ay ?_ rfl);simp only[List.toList_toArray,List.drop_succ_cons,List.drop_zero];(have MU:jV.size=11:=rfl;have Es:=ah bT;have Qs:=je (HP.out.below (mO.trans (hS.mono mO.size))) N9 o_;have HMZ:=ah o_;have Y_:=ah yU;have Y3:=ah hS;go_wp2_with(first|((with_reducible refine bS 36 ?_);(refine aR rfl 36 _ _ rfl Es.out (.agg (hC (.slice a1 p.parts.length c1) (.slice a2 p.wins.length c2) (.slice a3 p.chans.length c3) (.slice ia dx.length ic) p sB X)) eH (Qs) ?_ (_) (gM 11 lX ()) ?_ ?_ ?_;(exact gG);(exact aM);(exact aM);intro wZ YU YP hzZ YR))|fail);exact⟨qa,EJ.of rfl ay IX,sB,YU,HMZ.out.bP Y_.out Es.out rfl aC aC aC aC YP,Y3.out.trans (YR.mono gy),gy⟩))):P:=h
end
section
namespace Go.Proofs.YtgmodehldmahiaaGreatDoor
open Go Go.RowKit Go.Tm aW
theorem JZ(v:Value)(l:List Int)(n:Int)(w:World)(hv:Sl w false 1 v (ints l)):Calls Tryz.prog 56 #[v,.int .i64 n] w fun e w'=>e=.returned (.bool (decide (n∈l)))∧Below w.heap.size w w':=by
 obtain⟨a,cap,rfl,hl⟩:=hv.shape
 have HV:=ah hv
 rw[gH] at hl HV⊢
 obtain⟨r,hr⟩:∃r,r=decide (n∈l):=⟨_,rfl⟩
 rw[←hr]
 have HR:=ah hr
 clear hv hr
 go_enter Tryz.func56,Tryz.ntmps56
 go_wp2_with fail
 go_loopw [5] (fun t W=>∃i:Nat,i≤l.length∧t=.int .i64 i∧n∉l.take i∧Below w.heap.size w W) (fun t _=>l.length-(intOf t).toNat)
 case atStart=>exact⟨0,Nat.zero_le _,rfl,aI,Below.refl _ _⟩
 case round=>
  obtain⟨i,hi,rfl,hno,bZ⟩:=hrel
  have Bj:=bZ.size
  have Uo:=ah hno
  clear hno
  by_cases hlt:i<l.length
  ·obtain⟨x,hx⟩:∃x,l[i]?=some x:=⟨_,List.getElem?_eq_getElem hlt⟩
   obtain⟨b,off,xR,hbl,hc⟩:=(HV.out.below bZ).at (i:=i) (x:= .int .i64 x) (by simp[ints,hx])
   subst xR
   have hc0:wr.cell? ⟨b,off+i,none⟩=some (.int .i64 x):=by simpa using hc 0 (.int .i64 x) rfl
   have hwr:IntKind.i64.wrap ((i:Int)+1)=i+1:=IntWalk.i64_in _ aj
   have HX:=ah hx
   clear hc hx
   by_cases he:x=n
   ·have d:(x==n)=true:=by simp[he]
    have CW:decide (n∈l)=true:=by
     rw[decide_eq_true_eq,←he]
     exact List.mem_of_getElem? HX.out
    have hr2:=HR.out.trans CW
    clear he CW HR
    subst hr2
    exact Dm
   ·have d:(x==n)=false:=by simp[he]
    have amI:n∉l.take (i+1):=by
     rw[List.take_add_one,HX.out]
     simp only[Option.toList_some,List.mem_append,List.mem_singleton,not_or]
     exact⟨Uo.out,fun e=>he e.symm⟩
    have arw:=ah amI
    clear he amI
    go_wp2_with fail
    go_roundw
    case rel=>exact⟨i+1,aj,dn,arw.out,bZ⟩
    case measure=>simp[intOf];omega
  ·have hie:i=l.length:=by omega
   have CW:decide (n∈l)=false:=by
    have:=Uo.out
    rw[hie,List.take_length] at this
    simp[this]
   have hr2:=HR.out.trans CW
   clear CW HR
   subst hr2
   exact Dm
end Go.Proofs.YtgmodehldmahiaaGreatDoor
end
section
namespace Go.Proofs.YtgmodehldmahiaaGreatDoor
open Go Go.RowKit Go.Tm aW
theorem Ci:Ty Tryz.prog 3 1 false:=⟨ay,ay,aC,ay⟩
theorem SB:(Tryz.prog.info? 3).map (fun i=>(i.zero,i.size,i.bytes))=some (some (.int .i64 0),1,8):=by kernel_rfl
theorem wh(n:Int):Val false 1 (.int .i64 n):=JX [n] _ aI
structure zn(n:Nat)(S:List Int):Prop where
 nodup:S.Nodup
 ok:∀x∈S,okP n x
def Gr(n:Nat)(cs:List Ch)(S:List Int):Prop:=∀c∈cs,c.2.2.1∈S→okP n c.2.1→c.2.1∈S
theorem Sr{α:Type}:∀{S T:List α},S.Nodup→S⊆T→S.length≤T.length
 |[],_,_,_=>Nat.zero_le _
 |x::S,T,hn,hs=>by
  obtain⟨a,b,rfl⟩:=List.append_of_mem (hs (by simp:x∈x::S))
  rw[List.nodup_cons] at hn
  have:=Sr (S:=S) (T:=a++b) hn.2 (fun y hy=>by
   have h1:=hs (List.mem_cons_of_mem _ hy)
   simp only[List.mem_append,List.mem_cons] at h1⊢
   rcases h1 with h1|rfl|h1
   ·exact .inl h1
   ·exact absurd hy hn.1
   ·exact .inr h1)
  simp only[List.length_append,List.length_cons] at this⊢
  omega
theorem zn.len{n:Nat}{S:List Int}(h:zn n S):S.length≤n:=by
 have:=Sr (T:=(List.range n).map fun i:Nat=>(i:Int)) h.nodup (fun x hx=>by
  obtain⟨h1,h2⟩:=h.ok x hx
  exact List.mem_map.2 ⟨x.toNat,by rw[List.mem_range];omega,aj⟩)
 simpa using this
theorem zn.one{n:Nat}{x:Int}(h:okP n x):zn n [x]:=⟨aI,by intro y hy;simp at hy;subst hy;exact h⟩
theorem zn.add{n:Nat}{S:List Int}{x:Int}(h:zn n S)(hx:okP n x)(hn:x∉S):zn n (S++[x]):=by
 refine⟨?_,?_⟩
 ·rw[List.nodup_append]
  exact⟨h.nodup,aI,fun a ha b hb=>by simp at hb;subst hb;intro e;subst e;exact hn ha⟩
 ·intro y hy
  rcases List.mem_append.1 hy with hy|hy
  ·exact h.ok y hy
  ·simp at hy;subst hy;exact hx
def Og(S:List Int)(i:Nat):List Int:=((List.range i).map fun k:Nat=>(k:Int)).filter fun x=>decide (x∈S)
theorem Z8(S:List Int)(i:Nat):Og S (i+1)=Og S i++(if(i:Int)∈S then[(i:Int)] else[]):=by
 unfold Og
 rw[List.range_succ,List.map_append,List.filter_append]
 by_cases h:(i:Int)∈S<;>simp[h]
theorem R_(S:List Int)(i:Nat):(Og S i).length≤i:=Nat.le_trans (List.length_filter_le _ _) aI
theorem D6{S:List Int}{n:Nat}{x:Int}:x∈Og S n↔okP n x∧x∈S:=by
 unfold Og okP
 rw[List.mem_filter,List.mem_map]
 constructor
 ·rintro⟨⟨k,hk,rfl⟩,h⟩
  rw[List.mem_range] at hk
  exact⟨⟨aj,aj⟩,BU⟩
 ·rintro⟨⟨h1,h2⟩,h⟩
  exact⟨⟨x.toNat,by rw[List.mem_range];omega,aj⟩,BU⟩
structure P7(n:Nat)(cs:List Ch)(part:Int)(L:List Int):Prop where
 self:part∈L
 shut:Gr n cs L
 len:L.length≤n
 ok:∀x∈L,okP n x
theorem WB{n:Nat}{cs:List Ch}{part:Int}{S:List Int}(hG:zn n S)(hp:part∈S)(hs:Gr n cs S):P7 n cs part (Og S n):=
 ⟨D6.2 ⟨hG.ok _ hp,hp⟩,fun c hc h1 h2=>D6.2 ⟨h2,hs c hc (D6.1 h1).2 h2⟩,R_ S n,fun x hx=>(D6.1 hx).1⟩
theorem Gr.step{n:Nat}{cs:List Ch}{S:List Int}{i:Nat}{x:Ch}(h:Gr n (cs.take i) S)(hx:cs[i]?=some x)(hc:x.2.2.1∈S→okP n x.2.1→x.2.1∈S):Gr n (cs.take (i+1)) S:=by
 intro c hcm
 rw[List.take_add_one,hx] at hcm
 rcases List.mem_append.1 hcm with h1|h1
 ·exact h c h1
 ·simp at h1;subst h1;exact hc
def abB:Value→Nat
 |.slice _ n _=>n
 |_=>0
def ac6:Value→Nat
 |.bool true=>1
 |_=>0
theorem bI.abB{W:World}{base:Nat}{E:TypeId}{ag:Bool}{k:Nat}{v:Value}{xs:List Value}(h:bI W base E ag k v xs):abB v=xs.length:=by
 obtain⟨a,c,rfl,_⟩:=h.sl.shape;rfl
structure EY(np:Nat)(cs:List Ch)(part:Int)(S0 S:List Int)(m:Bool)(i:Nat):Prop where
 good:zn np S
 self:part∈S
 le:S0.length≤S.length
 lt:m=true→S0.length<S.length
 shut:m=false→Gr np (cs.take i) S
theorem WA(pa:Option Addr)(np pc:Nat)(fr:Int)(wv cv:Value)(cs:List Ch)(part:Int)(w:World)(hv:Sl w true 5 cv (oC cs))(hcs:cs.length≤64)(gQ:np≤64)(yP:0≤part)(FM:part<np):
  Calls Tryz.prog 22 #[.agg #[.slice pa np pc,.int .i64 fr,wv,cv],.int .i64 part] w fun e w'=>(∃v L,e=.returned v∧Sl w' false 1 v (ints L)∧P7 np cs part L)∧Below w.heap.size w w':=by
 have HV:=ah hv
 obtain⟨i0,qN,oq,gD,mh⟩:=info_parts SB
 have HI:=ah (And.intro qN (And.intro oq (And.intro gD mh)))
 clear qN oq gD mh
 obtain⟨a,cap,rfl,hl⟩:=hv.shape
 rw[oG] at hl HV⊢
 have d0:decide (part<0)=false:=decide_eq_false aj
 have d1:decide ((np:Int)≤part)=false:=decide_eq_false aj
 have HP:=ah (show okP np part from⟨yP,FM⟩)
 clear hv
 go_enter Tryz.func22,Tryz.ntmps22
 go_wp2_with(first|((with_reducible refine DF 44 ?_);(refine jA rfl 44 _ rfl Ci aC i0 (.int .i64 0) Tryz.underlying44 HI.out.1 HI.out.2.1 HI.out.2.2.1 (.int .i64 part) ?_ ((wh part)) ?_;(exact aM)))|fail)
 generalize bR:World.alloc _ _=w0
 have KB:aD w0 w.heap.size #[.slice pa np pc,.int .i64 fr,wv,.slice a cs.length cap] 26:=bH
 have zG:bI w0 (w.heap.size+1) 3 false 1 (.slice (some ⟨w.heap.size+1,0,none⟩) 1 1) (ints [part]):=by
  rw[←bR]
  have h:=bI.pQ (E:=3) (ag:=false) (k:=1) (base:=w.heap.size+1) (w:=w.alloc (.cells #[.slice pa np pc,.int .i64 fr,wv,.slice a cs.length cap] 26)) (x:= .int .i64 part) (wh part) aI
  rw[World.size_alloc] at h
  exact h
 have hb0:Below w.heap.size w w0:=bN
 have hz0:w0.heap.size=w.heap.size+1+1:=bX
 clear bR d0 d1 yP FM
 have Hu:=ah zG
 have KB:=ah KB
 clear zG
 go_loopw [5,6] (fun u t W=>∃(S:List Int) (s:Value) (m:Bool),s=u∧t=.bool m∧Below (w.heap.size+1) w0 W∧bI W (w.heap.size+1) 3 false 1 u (ints S)∧Hid (zn np S∧part∈S∧(m=false→Gr np cs S))∧w0.heap.size≤W.heap.size) (fun u t _=>2*(np-abB u)+ac6 t)
 case atStart=>exact⟨[part],_,true,rfl,rfl,Below.refl _ _,Hu.out,ah ⟨zn.one HP.out,aI,aI⟩,Nat.le_refl _⟩
 case round=>
  obtain⟨S,s,m,rfl,rfl,bZ,hown,HG,Bj⟩:=hrel
  have HO:=ah hown
  have hlS:=bI.abB hown
  rw[gH] at hlS
  clear hown
  have hbW:Below w.heap.size w wr:=hb0.trans (bZ.mono aj)
  have KBr:=ah (KB.out.below bZ aj)
  obtain⟨hcb,bC,bn,bA,bE⟩:=aD.rules KBr.out
  cases m
  ·have HG2:=ah (WB HG.out.1 HG.out.2.1 (HG.out.2.2 rfl))
   have HVr:=ah (HV.out.below hbW)
   clear HV HG hlS
   go_wp2_with fail
   obtain⟨wA,hwA⟩:∃wA,wA=wr:=⟨_,rfl⟩
   subst hwA
   go_loopw [11,12] (fun u t W=>∃(n:Nat) (s5:Value),n≤np∧s5=u∧t=.int .i64 n∧Below wA.heap.size wA W∧bI W wA.heap.size 3 false 1 u (ints (Og S n))) (fun _ t _=>np-(intOf t).toNat)
   case atStart=>exact⟨0,_,Nat.zero_le _,rfl,rfl,Below.refl _ _,bI.nil⟩
   case round=>
    obtain⟨n,s5,hn,rfl,rfl,zJ,hown⟩:=hrel
    have hvs:=zJ.size
    have Ht:=ah hown
    clear hown hcb bC bn bA bE
    have KBv:=ah (KBr.out.below zJ KBr.out.lt)
    obtain⟨hcb,bC,bn,bA,bE⟩:=aD.rules KBv.out
    have hwr:IntKind.i64.wrap ((n:Int)+1)=n+1:=IntWalk.i64_in _ aj
    by_cases hnl:n<np
    ·have hst:=Z8 S n
     have hle:=R_ S n
     have HSv:=ah ((HO.out.sl).below zJ)
     go_wp2_with fail
     with_reducible refine(JZ _ S n wr HSv.out).mono ?_
     rintro en w2 ⟨rfl,hb2⟩
     have akB:=zJ.trans (hb2.mono hvs)
     have hz2:=hb2.size
     have Ip:=ah (Ht.out.kept hb2)
     clear hcb bC bn bA bE
     have qO:=ah (KBv.out.below hb2 KBv.out.lt)
     obtain⟨hcb,bC,bn,bA,bE⟩:=aD.rules qO.out
     by_cases CW:(n:Int)∈S
     ·rw[if_pos CW] at hst
      have HT:=ah hst
      have hd:decide ((n:Int)∈S)=true:=decide_eq_true CW
      rw[hd]
      clear hst CW hd
      go_wp2_with(first|((with_reducible refine DF 44 ?_);(refine jA rfl 44 _ rfl Ci aC i0 (.int .i64 0) Tryz.underlying44 HI.out.1 HI.out.2.1 HI.out.2.2.1 (.int .i64 n) ?_ ((wh n)) ?_;(exact aM)))|(refine dJ (v:=s5) (xs:=ints (Og S n)) (base:=wA.heap.size) rfl _ _ 44 rfl Ci i0 (.int .i64 0) 8 Tryz.underlying44 HI.out.1 HI.out.2.1 HI.out.2.2.1 HI.out.2.2.2 rfl ?_ ?_ (.slice (some ⟨w2.heap.size,0,none⟩) 1 1) ([.int .i64 (n:Int)]) ?_ ?_ ?_ ?_ ?_ ?_;(exact aM);(focus(exact(Ip.out.kept aG)));(exact aM);(focus(exact(Sl.pQ (wh n) rfl)));(exact vV);(exact vU);(exact vW);(intro v4 w4 qz hg4 xQ;have hb4:Below wA.heap.size wA w4:=(Ip.out.kept aG).below hg4 aG (Nat.le_refl _) dF;have sD:=ah qz;clear qz hg4 xQ))|fail)
      go_roundw
      case rel=>exact⟨n+1,_,aj,rfl,dn,hb4,by rw[HT.out,ints,List.map_append];exact sD.out⟩
      case measure=>simp[intOf];omega
     ·rw[if_neg CW,List.append_nil] at hst
      have HT:=ah hst
      have hd:decide ((n:Int)∈S)=false:=decide_eq_false CW
      rw[hd]
      clear hst CW hd
      go_wp2_with fail
      go_roundw
      case rel=>exact⟨n+1,_,aj,rfl,dn,akB,by rw[HT.out];exact Ip.out⟩
      case measure=>simp[intOf];omega
    ·obtain rfl:n=np:=by omega
     go_wp2_with fail
     go_ret
     exact⟨⟨_,_,rfl,Ht.out.sl,HG2.out⟩,hbW.trans (zJ.mono hbW.size)⟩
  ·go_wp2_with fail
   obtain⟨wA,hwA⟩:∃wA,wA=wr:=⟨_,rfl⟩
   subst hwA
   go_loopw [5,6,7] (fun u t t7 W=>∃(i:Nat) (S1:List Int) (s1:Value) (m:Bool),i≤cs.length∧s1=u∧t=.bool m∧t7=.int .i64 i∧Below (w.heap.size+1) wA W∧bI W (w.heap.size+1) 3 false 1 u (ints S1)∧Hid (EY np cs part S S1 m i)∧wA.heap.size≤W.heap.size) (fun _ _ t _=>cs.length-(intOf t).toNat)
   case atStart=>exact⟨0,S,_,false,Nat.zero_le _,rfl,rfl,rfl,Below.refl _ _,HO.out,ah ⟨HG.out.1,HG.out.2.1,Nat.le_refl _,aI,by intro _ c hc;simp at hc⟩,Nat.le_refl _⟩
   case round=>
    obtain⟨i,S1,s1,m,hi,rfl,rfl,rfl,zJ,hown,HJ,hvs⟩:=hrel
    have Ht:=ah hown
    have aqe:=bI.abB hown
    rw[gH] at aqe
    clear hown hcb bC bn bA bE
    have KBv:=ah (KBr.out.below zJ aj)
    obtain⟨hcb,bC,bn,bA,bE⟩:=aD.rules KBv.out
    have hbV:Below w.heap.size w wr:=hbW.trans (zJ.mono aj)
    have hwr:IntKind.i64.wrap ((i:Int)+1)=i+1:=IntWalk.i64_in _ aj
    by_cases xW:i<cs.length
    ·obtain⟨x,hx⟩:∃x,cs[i]?=some x:=⟨_,List.getElem?_eq_getElem xW⟩
     obtain⟨b,off,xR,hb,gL⟩:=(HV.out.below hbV).at (Av hx)
     subst xR
     have HCX:=ah gL
     have HX:=ah hx
     clear hx gL
     go_wp2_with(first|((with_reducible refine cK 95 ?_);(refine aN rfl 95 _ rfl b (off+i*5) ?_ (uG x) kK (z_ x) HCX.out ?_;(exact aM)))|((with_reducible refine bS 95 ?_);(refine aU rfl 95 _ _ rfl (#[.int .i64 x.1,.int .i64 x.2.1,.int .i64 x.2.2.1,.int .i64 x.2.2.2.1,.int .i64 x.2.2.2.2]) kK (z_ x) aF ?_ ?_ ?_;(exact aM);(exact aM)))|fail)
     generalize bR:World.alloc _ _=w1
     have KC:Hid (aD w1 wr.heap.size #[.int .i64 x.1,.int .i64 x.2.1,.int .i64 x.2.2.1,.int .i64 x.2.2.2.1,.int .i64 x.2.2.2.2] 95):=ah O6
     have hb1:Below wr.heap.size wr w1:=yZ
     have hz1:w1.heap.size=wr.heap.size+1:=bX
     clear bR hcb bC bn bA bE
     have p8:=ah (KBv.out.below hb1 KBv.out.lt)
     obtain⟨hcb,bC,bn,bA,bE⟩:=aD.rules p8.out
     obtain⟨hcc,Qy,hlc,Qv,LD⟩:=aD.rules KC.out
     have Ip:=ah (Ht.out.kept hb1)
     go_wp2_with fail
     with_reducible refine(JZ _ S1 x.2.2.1 w1 Ip.out.sl).mono ?_
     rintro en w2 ⟨rfl,hb2⟩
     have hz2:=hb2.size
     have HO7:=ah (Ip.out.kept hb2)
     clear hcb bC bn bA bE hcc Qy hlc Qv LD
     have qO:=ah (p8.out.below hb2 p8.out.lt)
     have KC2:=ah (KC.out.below hb2 KC.out.lt)
     obtain⟨hcb,bC,bn,bA,bE⟩:=aD.rules qO.out
     obtain⟨hcc,Qy,hlc,Qv,LD⟩:=aD.rules KC2.out
     go_wp2_with fail
     with_reducible refine(JZ _ S1 x.2.1 w2 HO7.out.sl).mono ?_
     rintro en w3 ⟨rfl,hb3⟩
     have hz3:=hb3.size
     have Ba:=ah (HO7.out.kept hb3)
     clear hcb bC bn bA bE hcc Qy hlc Qv LD
     have vK:=ah (qO.out.below hb3 qO.out.lt)
     have KC3:=ah (KC2.out.below hb3 KC2.out.lt)
     obtain⟨hcb,bC,bn,bA,bE⟩:=aD.rules vK.out
     obtain⟨hcc,Qy,hlc,Qv,LD⟩:=aD.rules KC3.out
     have am8:Below (w.heap.size+1) wA w3:=zJ.trans (((hb1.trans (hb2.mono aj)).trans (hb3.mono aj)).mono aj)
     clear Ht Ip HO7 p8 qO KC KC2 hb1 hb2 hb3
     by_cases hto:x.2.2.1∈S1
     rotate_left
     ·have HN:=ah (show EY np cs part S S1 m (i+1) from⟨HJ.out.good,HJ.out.self,HJ.out.le,HJ.out.lt,fun h=>(HJ.out.shut h).step HX.out (fun h1 _=>absurd h1 hto)⟩)
      have hd:decide (x.2.2.1∈S1)=false:=decide_eq_false hto
      rw[hd]
      clear hd hto
      exact XM
     have hd:decide (x.2.2.1∈S1)=true:=decide_eq_true hto
     rw[hd]
     clear hd
     by_cases sK:x.2.1∈S1
     ·have HN:=ah (show EY np cs part S S1 m (i+1) from⟨HJ.out.good,HJ.out.self,HJ.out.le,HJ.out.lt,fun h=>(HJ.out.shut h).step HX.out (fun _ _=>sK)⟩)
      have hd:decide (x.2.1∈S1)=true:=decide_eq_true sK
      rw[hd]
      clear hd hto sK
      exact XM
     have hd:decide (x.2.1∈S1)=false:=decide_eq_false sK
     rw[hd]
     clear hd
     by_cases h0:0≤x.2.1
     rotate_left
     ·have HN:=ah (show EY np cs part S S1 m (i+1) from⟨HJ.out.good,HJ.out.self,HJ.out.le,HJ.out.lt,fun h=>(HJ.out.shut h).step HX.out (fun _ h2=>absurd h2.1 h0)⟩)
      have hd:decide (0≤x.2.1)=false:=decide_eq_false h0
      clear hto sK h0
      exact XM
     have hd0:decide (0≤x.2.1)=true:=decide_eq_true h0
     by_cases h1:x.2.1<np
     rotate_left
     ·have HN:=ah (show EY np cs part S S1 m (i+1) from⟨HJ.out.good,HJ.out.self,HJ.out.le,HJ.out.lt,fun h=>(HJ.out.shut h).step HX.out (fun _ h2=>absurd h2.2 h1)⟩)
      have hd:decide (x.2.1<(np:Int))=false:=decide_eq_false h1
      clear hto sK h0 h1
      exact XM
     have su:decide (x.2.1<(np:Int))=true:=decide_eq_true h1
     have hG1:=HJ.out.good.add ⟨h0,h1⟩ sK
     have ac1:=hG1.len
     have HN:=ah (show EY np cs part S (S1++[x.2.1]) true (i+1) from⟨hG1,by simp[HJ.out.self],by have:=HJ.out.le;simp;omega,fun _=>by have:=HJ.out.le;simp;omega,aI⟩)
     rw[List.length_append,List.length_singleton] at ac1
     clear hto sK h0 h1 hG1
     go_wp2_with(first|((with_reducible refine DF 44 ?_);(refine jA rfl 44 _ rfl Ci aC i0 (.int .i64 0) Tryz.underlying44 HI.out.1 HI.out.2.1 HI.out.2.2.1 (.int .i64 x.2.1) ?_ ((wh x.2.1)) ?_;(exact aM)))|(refine dJ (v:=s1) (xs:=ints S1) (base:=w.heap.size+1) rfl _ _ 44 rfl Ci i0 (.int .i64 0) 8 Tryz.underlying44 HI.out.1 HI.out.2.1 HI.out.2.2.1 HI.out.2.2.2 rfl ?_ ?_ (.slice (some ⟨w3.heap.size,0,none⟩) 1 1) ([.int .i64 x.2.1]) ?_ ?_ ?_ ?_ ?_ ?_;(exact aM);(focus(exact(Ba.out.kept aG)));(exact aM);(focus(exact(Sl.pQ (wh x.2.1) rfl)));(exact vV);(exact vU);(exact vW);(intro v4 w4 qz hg4 xQ;have hb4:Below (w.heap.size+1) wA w4:=(Ba.out.kept aG).below hg4 (am8.alloc aj _) (Nat.le_refl _) dF;have xU:=hg4.size;have sD:=ah qz;clear qz hg4 xQ))|fail)
     simp only[World.size_alloc] at xU
     go_roundw
     case rel=>exact⟨i+1,S1++[x.2.1],_,true,aj,rfl,rfl,dn,hb4,by rw[ints,List.map_append];exact sD.out,HN,aj⟩
     case measure=>simp[intOf];omega
    ·obtain rfl:i=cs.length:=by omega
     have hJ:=HJ.out
     have hle:=hJ.le
     have hlt:=hJ.lt
     have N_:=hJ.good.len
     have HN:=ah (show zn np S1∧part∈S1∧(m=false→Gr np cs S1) from⟨hJ.good,hJ.self,fun h=>by have:=hJ.shut h;rwa[List.take_length] at this⟩)
     clear hJ
     go_wp2_with fail
     go_roundw
     case rel=>exact⟨S1,_,m,rfl,rfl,bZ.trans zJ,Ht.out,HN,aj⟩
     case measure=>
      have hgS:=HG.out.1.len
      cases m
      ·simp only[ac6];omega
      ·have:=hlt rfl
       simp only[ac6];omega
end Go.Proofs.YtgmodehldmahiaaGreatDoor
end
section
namespace Go.Proofs.YtgmodehldmahiaaGreatDoor
open Go Go.RowKit Go.Tm aW
def Ih(n:Nat)(cs:List Ch)(dx kS:List (List ByteArray))(part:Int):Prop:=∃L,P7 n cs part L∧∀x∈0::L,jr dx x=jr kS x
theorem MI{α:Type}{P:α→Prop}{l:List α}{k:Nat}{x:α}(h:∀y∈l.take k,P y)(hl:l[k]?=some x)(hx:P x):∀y∈l.take (k+1),P y:=by
 intro y hy
 rw[List.take_add_one,hl] at hy
 rcases List.mem_append.1 hy with h1|h1
 ·exact h y h1
 ·simp at h1;subst h1;exact hx
set_option maxRecDepth 100000 in
set_option maxHeartbeats 8000000 in
theorem Xq(pa:Option Addr)(np pc:Nat)(fr:Int)(wv cv:Value)(cs:List Ch)(va vb:Value)(dx kS:List (List ByteArray))(part:Int)(w:World)(hv:Sl w true 5 cv (oC cs))(ha:mR w va dx)(hb:mR w vb kS)(hcs:cs.length≤64)(gQ:np≤64)(yP:0≤part)(FM:part<np):
  Calls Tryz.prog 9 #[.agg #[.slice pa np pc,.int .i64 fr,wv,cv],va,vb,.int .i64 part] w fun e w'=>(∃b,e=.returned (.bool b)∧(b=true→Ih np cs dx kS part))∧Below w.heap.size w w':=by
 have HV:=ah hv
 have HA:=ah ha
 have HB:=ah hb
 have HR:=ah (fun W h=>WA pa np pc fr wv cv cs part W h hcs gQ yP FM)
 have HOF:=ah (fun W x (h:mR W va dx)=>VO va dx x W h)
 have HOG:=ah (fun W x (h:mR W vb kS)=>VO vb kS x W h)
 obtain⟨a,cap,rfl,hl⟩:=hv.shape
 obtain⟨aa,ca,rfl,Xz⟩:=ha.shape
 obtain⟨ab,cb,rfl,bn⟩:=hb.shape
 rw[oG] at hl HV HR⊢
 obtain⟨i0,qN,oq,gD,mh⟩:=info_parts SB
 have HI:=ah (And.intro qN (And.intro oq (And.intro gD mh)))
 clear hv ha hb qN oq gD mh yP FM
 go_enter Tryz.func9,Tryz.ntmps9
 go_wp2_with(first|((with_reducible refine DF 44 ?_);(refine jA rfl 44 _ rfl Ci aC i0 (.int .i64 0) Tryz.underlying44 HI.out.1 HI.out.2.1 HI.out.2.2.1 (.int .i64 0) ?_ ((wh 0)) ?_;(exact aM)))|fail)
 have bW:Below w.heap.size w ((w.alloc (.cells #[.slice pa np pc,.int .i64 fr,wv,.slice a cs.length cap] 26)).alloc (.cells #[.int .i64 0] 3)):=aG
 have zG:=bI.pQ (E:=3) (ag:=false) (k:=1) (base:=w.heap.size+1) (w:=w.alloc (.cells #[.slice pa np pc,.int .i64 fr,wv,.slice a cs.length cap] 26)) (x:= .int .i64 0) (wh 0) aI
 rw[World.size_alloc] at zG
 have Hu:=ah (show bI ((w.alloc (.cells #[.slice pa np pc,.int .i64 fr,wv,.slice a cs.length cap] 26)).alloc (.cells #[.int .i64 0] 3)) (w.heap.size+1) 3 false 1 (.slice (some ⟨w.heap.size+1,0,none⟩) 1 1) (ints [0]) from zG)
 clear zG
 with_reducible refine(HR.out _ (HV.out.below bW)).mono ?_
 rintro e w3 ⟨⟨v3,L,rfl,hs3,hrk⟩,hb3⟩
 have gZ:Below w.heap.size w w3:=bW.trans (hb3.mono bW.size)
 have hz3:=hb3.size
 simp only[World.size_alloc] at hz3
 have uH:=ah (Hu.out.kept hb3)
 have HL3:=ah hs3
 have HRK:=ah hrk
 have hLn:=hrk.len
 obtain⟨LL,hLL⟩:∃LL,LL=0::L:=⟨_,rfl⟩
 have hLl:LL.length≤L.length+1:=by rw[hLL];simp
 have HIN:=ah (show ints [0]++ints L=ints LL by rw[hLL];rfl)
 have HLL:=ah hLL
 clear hs3 hb3 bW hrk hLL
 go_wp2_with(first|((with_reducible refine Px ?_);(refine dJ (v:= .slice (some ⟨w.heap.size+1,0,none⟩) 1 1) (xs:=ints [0]) (base:=w.heap.size+1) rfl _ _ 44 rfl Ci i0 (.int .i64 0) 8 Tryz.underlying44 HI.out.1 HI.out.2.1 HI.out.2.2.1 HI.out.2.2.2 rfl ?_ ?_ (v3) (ints L) ?_ ?_ ?_ ?_ ?_ ?_;(exact aM);(focus(exact uH.out));(exact aM);(focus(exact HL3.out));(exact vV);(exact vU);(exact vW);(intro v4 w4 qz hg4 xQ;have jK:Below w.heap.size w w4:=uH.out.below hg4 gZ aj aj;rw[HIN.out] at qz;have xU:=jK.size;have sD:=ah qz.sl;obtain⟨a4,k4,hv4,hl4⟩:=qz.sl.shape;rw[gH] at hv4 hl4;subst hv4;clear qz hg4 xQ)))|fail)
 have HA4:=ah (HA.out.below jK)
 have Y9:=ah (HB.out.below jK)
 go_loopw [10] (fun t W=>∃i:Nat,i≤LL.length∧t=.int .i64 i∧Below w4.heap.size w4 W∧Hid (∀y∈LL.take i,jr dx y=jr kS y)) (fun t _=>LL.length-(intOf t).toNat)
 case atStart=>exact⟨0,Nat.zero_le _,rfl,Below.refl _ _,ah (by intro y hy;simp at hy)⟩
 case round=>
  obtain⟨i,hi,rfl,bZ,HT⟩:=hrel
  have hwz:=bZ.size
  by_cases hlt:i<LL.length
  ·obtain⟨x,hx⟩:∃x,LL[i]?=some x:=⟨_,List.getElem?_eq_getElem hlt⟩
   obtain⟨b,off,rfl,hb,e0⟩:=Sl.int (sD.out.below bZ) hx
   have hwi:IntKind.i64.wrap ((i:Int)+1)=i+1:=IntWalk.i64_in _ aj
   have HX:=ah hx
   clear hx
   go_wp2_with fail
   with_reducible refine(HOF.out _ x (HA4.out.below bZ)).mono ?_
   rintro e w5 ⟨v5,rfl,hs5,kV⟩
   have iE:=bZ.trans (kV.mono hwz)
   have ar4:=kV.size
   obtain⟨_,_,hex,hb',e0'⟩:=Sl.int (sD.out.below iE) HX.out
   simp only[Option.some.injEq,Addr.mk.injEq,and_true] at hex
   obtain⟨rfl,rfl⟩:=hex
   have H5:=ah hs5
   clear hs5 e0
   go_wp2_with fail
   with_reducible refine(HOG.out _ x (Y9.out.below iE)).mono ?_
   rintro e w6 ⟨v6,rfl,Ew,kM⟩
   have mD:=iE.trans (kM.mono iE.size)
   have ar3:=kM.size
   have h5:=H5.out.below kM
   obtain⟨a5,c5,hv5,hl5⟩:=h5.shape
   obtain⟨a6,c6,FL,hl6⟩:=Ew.shape
   subst hv5 FL
   have H5:=ah h5
   have H6:=ah Ew
   have vT:∀(l:List ByteArray),(rE l).length=l.length:=fun l=>by simp
   rw[vT] at hl5 hl6 H5 H6
   rw[vT,vT]
   clear Ew h5 e0' vT
   obtain⟨X,hX⟩:∃X,X=jr dx x:=⟨_,rfl⟩
   obtain⟨Y,hY⟩:∃Y,Y=jr kS x:=⟨_,rfl⟩
   rw[←hX] at hl5 H5⊢
   rw[←hY] at hl6 H6⊢
   have HXX:=ah hX
   have HYY:=ah hY
   clear hX hY
   by_cases hq:X.length=Y.length
   rotate_left
   ·have d:((X.length:Int)!=Y.length)=true:=by simp;omega
    go_wp2_with fail
    go_ret
    exact⟨⟨false,rfl,aI⟩,jK.trans (mD.mono xU)⟩
   have d:((X.length:Int)!=Y.length)=false:=aV
   go_wp2_with fail
   go_loopw [13] (fun t W=>∃k:Nat,k≤X.length∧t=.int .i64 k∧Below w6.heap.size w6 W∧Hid (X.take k=Y.take k)) (fun t _=>X.length-(intOf t).toNat)
   case atStart=>exact⟨0,Nat.zero_le _,rfl,Below.refl _ _,ah rfl⟩
   case round=>
    obtain⟨k,hk,rfl,zJ,HK⟩:=hrel
    have Qs:=zJ.size
    have mq:=mD.trans (zJ.mono mD.size)
    by_cases hkl:k<X.length
    ·obtain⟨s,hs⟩:∃s,X[k]?=some s:=⟨_,List.getElem?_eq_getElem hkl⟩
     obtain⟨t,ht⟩:∃t,Y[k]?=some t:=⟨_,List.getElem?_eq_getElem aj⟩
     obtain⟨b5,o5,akM,akL,hc5⟩:=(H5.out.below zJ).at (i:=k) (x:= .string s) oU
     obtain⟨b6,o6,akK,akJ,Oa⟩:=(H6.out.below zJ).at (i:=k) (x:= .string t) (by simp[ht])
     subst akM akK
     have akw:wr.cell? ⟨b5,o5+k,none⟩=some (.string s):=by simpa using hc5 0 (.string s) rfl
     have akv:wr.cell? ⟨b6,o6+k,none⟩=some (.string t):=by simpa using Oa 0 (.string t) rfl
     have g5:=oH akw akL
     have g6:=oH akv akJ
     have hwk:IntKind.i64.wrap ((k:Int)+1)=k+1:=IntWalk.i64_in _ aj
     have HS:=ah hs
     have HT2:=ah ht
     clear hs ht hc5 Oa
     by_cases hst:s=t
     ·subst hst
      have HN:=ah (X_ HK.out HS.out HT2.out)
      clear HK
      go_wp2_with fail
      ((refine wp_region_quiet_below ay ay ?_);(repeat(go_big_quiet_step (fail)));(refine wpQuiet_nil ?_);intro _ hw';obtain⟨⟨dq,osq⟩,hw''⟩:=hw';subst hw'';have pE:=below_regrown wr dq osq;generalize Go.Sort.grow (redrawn wr dq) osq=w7 at*;have LC:=pE.size)
      clear g5 g6
      go_wp2_with fail
      go_roundw
      case rel=>exact⟨k+1,aj,dn,zJ.trans (pE.mono Qs),HN⟩
      case measure=>simp[intOf];omega
     ·have d2:(s==t)=false:=adV hst
      have d3:(s.toList==t.toList)=false:=Ya hst
      clear hst
      go_wp2_with fail
      ((refine wp_region_quiet_below ay ay ?_);(repeat(go_big_quiet_step (fail)));(refine wpQuiet_nil ?_);intro _ hw';obtain⟨⟨dq,osq⟩,hw''⟩:=hw';subst hw'';have pE:=below_regrown wr dq osq;generalize Go.Sort.grow (redrawn wr dq) osq=w7 at*;have LC:=pE.size)
      clear g5 g6
      go_wp2_with fail
      go_ret
      exact⟨⟨false,rfl,aI⟩,jK.trans ((mq.trans (pE.mono mq.size)).mono xU)⟩
    ·obtain rfl:k=X.length:=by omega
     have Hq:jr dx x=jr kS x:=adG
     have HN:=ah (MI HT.out HX.out Hq)
     clear Hq
     go_wp2_with fail
     go_roundw
     case rel=>exact⟨i+1,aj,dn,mq,HN⟩
     case measure=>simp[intOf];omega
  ·obtain rfl:i=LL.length:=by omega
   have HN:=ah (show Ih np cs dx kS part by
    have h:=HT.out
    rw[List.take_length,HLL.out] at h
    exact⟨L,HRK.out,h⟩)
   go_wp2_with fail
   go_ret
   exact⟨⟨true,rfl,fun _=>HN.out⟩,jK.trans (bZ.mono xU)⟩
end Go.Proofs.YtgmodehldmahiaaGreatDoor
end
section
namespace Go.Proofs.YtgmodehldmahiaaGreatDoor
open Go Go.RowKit Go.Tm
theorem T9{p:bF.jE}{dx kS:List (List ByteArray)}{M:Int}(hok:bF.gJ p)(h0:0≤M)(h1:M<p.parts.length)(ha:Ih p.parts.length p.chans dx kS M)(hz:Ih p.parts.length p.chans dx kS 0)(n:Nat):
  (nT p (fu p dx) n).seats[M.toNat]?=(nT p (fu p kS) n).seats[M.toNat]?∧(nT p (fu p dx) n).sched=(nT p (fu p kS) n).sched∧(nT p (fu p dx) n).now=(nT p (fu p kS) n).now:=by
 obtain⟨L,hL,hl⟩:=ha
 obtain⟨Z,hZ,hzz⟩:=hz
 have hc:Closed (fun i=>(i:Int)∈L∨(i:Int)∈Z) p:=by
  intro c hc
  obtain⟨a,b1,b2⟩:=NV hok hc
  refine⟨a.1,fun h=>?_⟩
  have h:((c.2.2.1.toNat:Nat):Int)∈L∨((c.2.2.1.toNat:Nat):Int)∈Z:=h
  rw[show((c.2.2.1.toNat:Nat):Int)=c.2.2.1 by omega] at h
  show((c.2.1.toNat:Nat):Int)∈L∨((c.2.1.toNat:Nat):Int)∈Z
  rw[show((c.2.1.toNat:Nat):Int)=c.2.1 by have:=a.1;omega]
  rcases h with h|h
  ·exact .inl (hL.shut c hc h a)
  ·exact .inr (hZ.shut c hc h a)
 have ho:∀k,One (fun i=>(i:Int)∈L∨(i:Int)∈Z) p k:=fun k=> .inl (.inr hZ.self)
 have hA:=Agree.run hc (GK (p:=p) (dx:=dx) (kS:=kS) (fun i hi=>by
  rcases hi with hi|hi
  ·have:=(hL.ok _ hi).2
   exact⟨aj,hl _ (by simp[hi])⟩
  ·have:=(hZ.ok _ hi).2
   exact⟨aj,hzz _ (by simp[hi])⟩)) (ho _) (ho _) n
 exact⟨hA.seat _ (.inl (by show((M.toNat:Nat):Int)∈L;rw[show((M.toNat:Nat):Int)=M by omega];exact hL.self)),hA.sched,hA.now⟩
end Go.Proofs.YtgmodehldmahiaaGreatDoor
end
