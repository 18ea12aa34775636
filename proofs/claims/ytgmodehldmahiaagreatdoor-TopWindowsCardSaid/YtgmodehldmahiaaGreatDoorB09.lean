/- Part 9 of 53 of the proof of topAlone_and_topApart. Conditions: see each. -/
import Derived.Test.YtgmodehldmahiaaGreatDoorB01
import Derived.Test.YtgmodehldmahiaaGreatDoorRows
import Derived.Test.YtgmodehldmahiaaGreatDoorB02
set_option linter.unusedVariables false
set_option linter.unusedSimpArgs false
set_option maxRecDepth 8192
set_option maxHeartbeats 40000000
namespace Go.Proofs.YtgmodehldmahiaaGreatDoor.aW
abbrev Ch:=Int×Int×Int×Int×Int
def uQ(cs:List Ch)(part:Int):List Ch:=cs.filter fun c=>decide (c.2.1=part)
def qc(cs:List Ch)(part:Int):List Ch:=cs.filter fun c=>decide (c.2.2.1=part)
end Go.Proofs.YtgmodehldmahiaaGreatDoor.aW
namespace Go.Proofs.YtgmodehldmahiaaGreatDoor.aW
open Go Go.RowKit Go.Tm
abbrev uG(a:Ch):Value:= .agg #[.int .i64 a.1,.int .i64 a.2.1,.int .i64 a.2.2.1,.int .i64 a.2.2.2.1,.int .i64 a.2.2.2.2]
abbrev oC(l:List Ch):List Value:=l.map uG
theorem z_(a:Ch):Val true 5 (uG a):=⟨_,rfl,rfl,by intro c hc;simp at hc;rcases hc with rfl|rfl|rfl|rfl|rfl<;>rfl⟩
theorem oG(l:List Ch):(oC l).length=l.length:=by simp
theorem Av{l:List Ch}{i:Nat}{a:Ch}(h:l[i]?=some a):(oC l)[i]?=some (uG a):=by simp[h]
theorem Sl.ch{w:World}{a:Option Addr}{n cap:Nat}{l:List Ch}(h:Sl w true 5 (.slice a n cap) (oC l)){i:Nat}{x:Ch}(hx:l[i]?=some x):
  ∃b off,a=some ⟨b,off,none⟩∧b<w.heap.size∧w.cell? ⟨b,off+i*5,none⟩=some (.int .i64 x.1)∧w.cell? ⟨b,off+i*5+1,none⟩=some (.int .i64 x.2.1)∧w.cell? ⟨b,off+i*5+2,none⟩=some (.int .i64 x.2.2.1)∧w.cell? ⟨b,off+i*5+3,none⟩=some (.int .i64 x.2.2.2.1)∧w.cell? ⟨b,off+i*5+4,none⟩=some (.int .i64 x.2.2.2.2):=by
 obtain⟨b,off,ha,hb,hcell⟩:=h.at (Av hx)
 exact⟨b,off,ha,hb,hcell 0 _ rfl,hcell 1 _ rfl,hcell 2 _ rfl,hcell 3 _ rfl,hcell 4 _ rfl⟩
theorem kK:Ty Tryz.prog 95 5 true:=⟨ay,ay,aC,ay⟩
theorem Fh:(Tryz.prog.info? 95).map (fun i=>(i.zero,i.size,i.bytes))=some (some (.agg #[.int .i64 0,.int .i64 0,.int .i64 0,.int .i64 0,.int .i64 0]),5,40):=by kernel_rfl
theorem CK(v:Value)(xs:List Value)(w:World)(hsl:Sl w true 5 v xs)(hbytes:xs.length*40≤140737488355328):
  Calls Tryz.prog 71 #[v] w fun e w'=>∃v',e=.returned v'∧bI w' w.heap.size 95 true 5 v' xs∧Below w.heap.size w w':=by
 have rF:=ah hsl
 obtain⟨hsz,a,cap,rfl,hl,hm,dL⟩:=hsl
 have hlen:xs.length≤maxLen:=aj
 cases a with
 |none=>
  have h0:xs=[]:=Bp
  subst h0
  have hnil:=fun(n c:Nat) (w:World)=>fE Tryz.prog (t:=24) (n:=n) (c:=c) Tryz.underlying24 w
  clear dL hsz hl hm hlen
  go_enter Tryz.func71,Tryz.ntmps71
  exact Bq
 |some a=>
  have hnil:=fun(n c:Nat) (w:World)=>fD Tryz.prog (t:=24) (a:=a) (n:=n) (c:=c) Tryz.underlying24 w
  obtain⟨i0,hi,hz0,hz1,hz2⟩:=info_parts Fh
  have HI:=ah hi
  have HZ:=ah (And.intro hz0 (And.intro hz1 hz2))
  have HS:=ah hsz
  clear hi hz0 hz1 hz2 dL hl hm hsz
  go_enter Tryz.func71,Tryz.ntmps71
  go_wp2_with(first|(refine wpList_append_own _ rfl _ _ 24 rfl w.heap.size 95 i0 (.agg #[.int .i64 0,.int .i64 0,.int .i64 0,.int .i64 0,.int .i64 0]) 5 40 Tryz.underlying24 HI.out HZ.out.1 HZ.out.2.1 HZ.out.2.2 rfl aC (.slice (some ⟨w.heap.size,0,none⟩) 0 0) 0 [] dw (World.ownsRow_made w #[] 0 (Nat.le_refl _) (Nat.zero_le _) rfl) a xs.length cap (flat xs) dw ?c1 ?c2 ?c3 ?c4 ?c5 ?c6 ?_)|fail)
  case c1=>exact fA HS.out
  case c2=>exact(rF.out.below ((Below.refl _ _).alloc (Nat.le_refl _) _)).news
  case c3=>exact jq HS.out
  case c4=>omega
  case c5=>omega
  case c6=>simp
  exact L9
theorem Zy:Val true 5 (.agg #[.int .i64 0,.int .i64 0,.int .i64 0,.int .i64 0,.int .i64 0]):=z_ (0,0,0,0,0)
def aed(x:Value):Prop:=∃(fa fb fc fd fe:Int),x=.agg #[.int .i64 fa,.int .i64 fb,.int .i64 fc,.int .i64 fd,.int .i64 fe]
theorem afs{l:List Ch}:∀x∈oC l,aed x:=fun x hx=>by
 obtain⟨a,_,rfl⟩:=List.mem_map.1 hx
 exact⟨_,_,_,_,_,rfl⟩
theorem vJ(v:Value)(xs:List Value)(mG:FuncId)(gI:Array Value)(p:Value→Bool)(w:World)(hsl:Sl w true 5 v xs)(hp:Pred Tryz.prog w none mG gI p xs):
  Calls Tryz.prog 69 #[v,.func (.func mG) #[] gI] w fun e w'=>e=.returned (.int .i64 (idx p xs))∧Below w.heap.size w w':=by
 obtain⟨hsz,a,cap,rfl,hl,hm,dL⟩:=hsl
 unfold maxLen at hm
 have hlen:xs.length≤9223372036854775807:=aj
 go_enter Tryz.func69,Tryz.ntmps69
 go_wp2_with fail
 go_loopw [8] (fun t wr=>∃i:Nat,i≤xs.length∧t=.int .i64 i∧Below w.heap.size w wr∧∀j y,j<i→xs[j]?=some y→p y=false) (fun t _=>xs.length-(intOf t).toNat)
 case atStart=>exact⟨0,Nat.zero_le _,rfl,Below.refl _ _,wR⟩
 case round=>
  obtain⟨i,hi,rfl,bZ,iq⟩:=hrel
  have HP:=ah iq
  clear iq
  by_cases hlt:i<xs.length
  ·obtain⟨x,hx⟩:∃x,xs[i]?=some x:=⟨_,List.getElem?_eq_getElem hlt⟩
   have jW:x∈xs:=List.mem_of_getElem? hx
   have HV:=ah (hsz _ jW)
   obtain⟨b,off,rfl,hb,hcell⟩:∃b off,a=some ⟨b,off,none⟩∧b<w.heap.size∧Cells wr b (off+i*5) x.cells.toList:=Br
   have HX:=ah hx
   have qP:=ah hcell
   clear hx hcell dL hsz
   have jS:=hp.asks wr (aA bZ none) _ jW
   have fJ:=hp.body
   unfold Body at fJ
   have HC:=ah jS
   clear jS hp
   cases jJ:p x
   ·have xS:=ah jJ
    rw[jJ] at HC
    clear jJ
    go_wp2_with(first|(refine aN rfl 95 _ rfl b (off+i*5) dw x kK HV.out qP.out ?_)|fail)
    exact L_
   ·have xS:=ah jJ
    rw[jJ] at HC
    clear jJ
    go_wp2_with(first|(refine aN rfl 95 _ rfl b (off+i*5) dw x kK HV.out qP.out ?_)|fail)
    exact Bt
  ·exact Bu
theorem Ho(v:Value)(xs:List Value)(mG:FuncId)(gI:Array Value)(p:Value→Bool)(w:World)(base:Nat)(dL:∀x∈xs,aed x)(ho:bI w base 95 true 5 v xs)(hp:Pred Tryz.prog w v.ownBlock mG gI p xs):
  Calls Tryz.prog 75 #[v,.func (.func mG) #[] gI] w fun e w'=>∃v',e=.returned v'∧Sl w' true 5 v' (xs.filter fun x=>!p x)∧v'.ownBlock=v.ownBlock∧w.grownBy w' v.ownBlock:=by
 have hI:=vJ v xs mG gI p w ho.sl ⟨hp.body,fun w' hg x hx=>hp.asks w' ⟨hg.os,hg.tape,hg.output,hg.size,fun b hb _=>hg.block b hb aI⟩ x hx⟩
 rcases kU p xs with⟨hi,hall⟩|⟨i0,x0,hi,hx0,Mc,iq⟩
 ·rw[hi] at hI
  have HF:=ah (show xs.filter (fun x=>!p x)=xs from List.filter_eq_self.2 (fun x hx=>Je))
  have HO:=ah ho
  clear hp ho hall
  go_enter Tryz.func75,Tryz.ntmps75
  exact Rq
 ·rw[hi] at hI
  have af6:i0<xs.length:=(List.getElem?_eq_some_iff.1 hx0).1
  obtain⟨g,cap,rfl,hlc,hcm,hbg,qI,Hr,_⟩:=ho.form aj
  have hlen:xs.length≤9223372036854775807:=Jg
  have MO:(Value.slice (some ⟨g,0,none⟩) xs.length cap).ownBlock=some g:=rfl
  rw[MO] at hp⊢
  obtain⟨i1,qN,oq,gD,mh⟩:=info_parts Fh
  have GL:∀w,(zeroValue 95).run Tryz.prog w=.ok (.agg #[.int .i64 0,.int .i64 0,.int .i64 0,.int .i64 0,.int .i64 0]) w:=fun w=>by simp[zeroValue,typeInfo,qN,oq]
  have HZV:=ah GL
  clear qN oq gD mh GL Hr
  have Y6:=ah ho
  have HPR:=ah hp
  have fJ:=hp.body
  unfold Body at fJ
  have Da:xs.take i0=(xs.take (i0+1)).filter (fun x=>!p x):=Rs
  have EH:=ah Da
  have afY:IntKind.i64.wrap ((i0:Int)+1)=i0+1:=IntWalk.i64_in _ aj
  have abH:((i0:Int)==-1)=false:=qW
  clear ho hp iq Da hx0 Mc
  go_enter Tryz.func75,Tryz.ntmps75
  go_wp2_with fail
  with_reducible refine hI.mono ?_
  rintro e w1 ⟨rfl,hb1⟩
  have hz1:=hb1.size
  go_wp2_with fail
  go_loopw [5,6] (fun u t W=>∃(i j:Nat) (zs:List Value),i<j∧j≤xs.length∧u=.int .i64 i∧t=.int .i64 j∧zs.length=xs.length∧bI W base 95 true 5 (.slice (some ⟨g,0,none⟩) xs.length cap) zs∧w.grownBy W (some g)∧
   zs.take i=(xs.take j).filter (fun x=>!p x)∧∀r,j≤r→zs[r]?=xs[r]?) (fun _ t _=>xs.length-(intOf t).toNat)
  case atStart=>exact⟨i0,i0+1,xs,aj,aj,rfl,dn,rfl,Y6.out.kept hb1,aA hb1 _,EH.out,fun _ _=>rfl⟩
  case round=>
   obtain⟨i,j,zs,hij,hj,rfl,rfl,hzl,how,qI,wK,hdr⟩:=hrel
   have HO:=ah how
   have HZL:=ah hzl
   have L6:=ah wK
   have UJ:=ah hdr
   have HG:=ah qI
   clear how hzl wK hdr qI
   by_cases hlt:j<xs.length
   ·obtain⟨x,hx⟩:∃x,xs[j]?=some x:=⟨_,List.getElem?_eq_getElem hlt⟩
    have Bh:zs[j]?=some x:=(UJ.out j (Nat.le_refl _)).trans hx
    obtain⟨b',off',FN,agf,hcell⟩:=HO.out.sl.at Bh
    simp only[Option.some.injEq,Addr.mk.injEq,and_true] at FN
    obtain⟨rfl,rfl⟩:=FN
    rw[Nat.zero_add] at hcell
    have qP:=ah hcell
    have HV:=ah (HO.out.val x (List.mem_of_getElem? Bh))
    have HC:=ah (fun W h=>HPR.out.asks W h x (List.mem_of_getElem? hx))
    obtain⟨fa,fb,fc,fd,fe,rfl⟩:=dL x (List.mem_of_getElem? hx)
    have HX:=ah hx
    have hwj:IntKind.i64.wrap ((j:Int)+1)=j+1:=IntWalk.i64_in _ aj
    have hwi:IntKind.i64.wrap ((i:Int)+1)=i+1:=IntWalk.i64_in _ aj
    clear hx Bh hcell
    cases jJ:p (.agg #[.int .i64 fa,.int .i64 fb,.int .i64 fc,.int .i64 fd,.int .i64 fe])
    ·have xS:=ah jJ
     rw[jJ] at HC
     clear jJ
     have xu:i<zs.length:=wS
     go_wp2_with(first|(refine aN rfl 95 _ rfl g (j*5) dw (.agg #[.int .i64 fa,.int .i64 fb,.int .i64 fc,.int .i64 fd,.int .i64 fe]) kK HV.out qP.out ?_)|((with_reducible refine(HC.out _ ?_).mono ?_);(focus exact aB HG.out (World.grownBy_alloc _ _ _));rintro e w2 ⟨rfl,hb2⟩;have hz2:=hb2.size;simp only[World.size_alloc] at hz2;have xw:Below wr.heap.size wr w2:=((Below.refl wr.heap.size wr).alloc (Nat.le_refl _) _).trans (hb2.mono dF);have nR:=ah (HO.out.kept xw);have tu:aD w2 wr.heap.size #[.int .i64 fa,.int .i64 fb,.int .i64 fc,.int .i64 fd,.int .i64 fe] 95:=aD.below (aD.new wr _ _) hb2 dF;obtain⟨gL,iZ,hlx,iY,hmx⟩:=tu.rules;clear tu)|(refine eB (base:=base) rfl _ _ rfl kK g xs.length cap nR.out i xu ?_ (.agg #[.int .i64 fa,.int .i64 fb,.int .i64 fc,.int .i64 fd,.int .i64 fe]) ?_ HV.out ?_;(focus(simp[Act.eval]));(focus(simp[Act.eval]));(intro w3 pz hg3;have uH:=ah pz;have hg3':=aB HG.out (aB (aA xw (some g)) hg3);have CZ:=ah hg3';clear pz hg3 hg3'))|fail)
     go_roundw
     case rel=>
      refine⟨i+1,j+1,_,aj,aj,dn,dn,?_,uH.out,CZ.out,?_,?_⟩
      ·exact Jr
      ·rw[eO HX.out,List.filter_append,←L6.out,eO (i:=i) (x:= .agg #[.int .i64 fa,.int .i64 fb,.int .i64 fc,.int .i64 fd,.int .i64 fe]) Ji,List.take_set_of_le (Nat.le_refl _)]
       simp[xS.out]
      ·exact Ro
     case measure=>simp[intOf];omega
    ·have xS:=ah jJ
     rw[jJ] at HC
     clear jJ
     go_wp2_with(first|(refine aN rfl 95 _ rfl g (j*5) dw (.agg #[.int .i64 fa,.int .i64 fb,.int .i64 fc,.int .i64 fd,.int .i64 fe]) kK HV.out qP.out ?_)|((with_reducible refine(HC.out _ ?_).mono ?_);(focus exact aB HG.out (World.grownBy_alloc _ _ _));rintro e w2 ⟨rfl,hb2⟩;have hz2:=hb2.size;simp only[World.size_alloc] at hz2;have xw:Below wr.heap.size wr w2:=((Below.refl wr.heap.size wr).alloc (Nat.le_refl _) _).trans (hb2.mono dF);have nR:=ah (HO.out.kept xw);have tu:aD w2 wr.heap.size #[.int .i64 fa,.int .i64 fb,.int .i64 fc,.int .i64 fd,.int .i64 fe] 95:=aD.below (aD.new wr _ _) hb2 dF;obtain⟨gL,iZ,hlx,iY,hmx⟩:=tu.rules;clear tu)|fail)
     exact XO
   ·have YO:j=xs.length:=by omega
    subst YO
    have xu:i<zs.length:=wS
    have zC:zs.length-i=xs.length-i:=I_
    go_wp2_with(first|(refine l5 (base:=base) rfl _ 24 rfl kK Tryz.underlying24 HZV.out Zy g xs.length cap (cap-i) HO.out i xu ?_ ?_;(focus(rw[zC];simp[Act.eval]));(intro w3 pz hg3;have uH:=ah pz;have CZ:=ah (aB HG.out hg3);clear pz hg3))|fail)
    exact Rp
end Go.Proofs.YtgmodehldmahiaaGreatDoor.aW
namespace Go.Proofs.YtgmodehldmahiaaGreatDoor.aW
open Go Go.RowKit Go.Tm
theorem Wq:Body Tryz.prog 76:=gq Tryz.func76 ay ay
theorem WH:Body Tryz.prog 54:=gq Tryz.func54 ay ay
theorem aaW:Body Tryz.prog 55:=gq Tryz.func55 ay ay
def XW(a:Int):Value→Bool:=fun v=>match v with|.agg cs=>(match cs.toList with|[_,.int _ n,_,_,_]=>decide (n=a)|_=>false)|_=>false
def toQ(a:Int):Value→Bool:=fun v=>match v with|.agg cs=>(match cs.toList with|[_,_,.int _ n,_,_]=>decide (n=a)|_=>false)|_=>false
theorem SH(a:Int)(x:Ch):XW a (uG x)=decide (x.2.1=a):=rfl
theorem adU(a:Int)(x:Ch):toQ a (uG x)=decide (x.2.2.1=a):=rfl
theorem ae1(cs:List Ch)(a:Int):(oC cs).filter (XW a)=oC (uQ cs a):=by
 unfold uQ
 induction cs with
 |nil=>rfl
 |cons x r ih=>
  rw[oC,List.map_cons,List.filter_cons,List.filter_cons,SH]
  rw[oC] at ih
  split
  ·rw[ih];rfl
  ·rw[ih]
theorem ag7(cs:List Ch)(a:Int):(oC cs).filter (toQ a)=oC (qc cs a):=by
 unfold qc
 induction cs with
 |nil=>rfl
 |cons x r ih=>
  rw[oC,List.map_cons,List.filter_cons,List.filter_cons,adU]
  rw[oC] at ih
  split
  ·rw[ih];rfl
  ·rw[ih]
theorem aaw(x:Ch)(a:Int)(B:Nat)(w:World)(hB:B<w.heap.size)(hc0:w.cell? ⟨B,0,none⟩=some (.int .i64 a)):
  Calls Tryz.prog 54 #[uG x,.pointer (some ⟨B,0,none⟩)] w fun e w'=>e=.returned (.bool (XW a (uG x)))∧Below w.heap.size w w':=by
 rw[SH]
 have hne:¬B=w.heap.size:=aj
 obtain⟨p,n,u,r,s⟩:=x
 dsimp only
 by_cases h:n=a
 ·have hb:(n==a)=true:=by simpa using h
  go_enter Tryz.func54,Tryz.ntmps54
  exact rO
 ·have hb:(n==a)=false:=by simpa using h
  go_enter Tryz.func54,Tryz.ntmps54
  exact rO
theorem afc(x:Ch)(a:Int)(B:Nat)(w:World)(hB:B<w.heap.size)(hc0:w.cell? ⟨B,0,none⟩=some (.int .i64 a)):
  Calls Tryz.prog 55 #[uG x,.pointer (some ⟨B,0,none⟩)] w fun e w'=>e=.returned (.bool (toQ a (uG x)))∧Below w.heap.size w w':=by
 rw[adU]
 have hne:¬B=w.heap.size:=aj
 obtain⟨p,n,u,r,s⟩:=x
 dsimp only
 by_cases h:u=a
 ·have hb:(u==a)=true:=by simpa using h
  go_enter Tryz.func55,Tryz.ntmps55
  exact rO
 ·have hb:(u==a)=false:=by simpa using h
  go_enter Tryz.func55,Tryz.ntmps55
  exact rO
theorem Z4(x:Ch)(h:FuncId)(B B1:Nat)(q:Value→Bool)(w:World)(fJ:Body Tryz.prog h)(hB:B<w.heap.size)(hc0:w.cell? ⟨B,0,none⟩=some (.func (.func h) #[] #[.pointer (some ⟨B1,0,none⟩)]))
  (jS:∀w',Below w.heap.size w w'→Calls Tryz.prog h #[uG x,.pointer (some ⟨B1,0,none⟩)] w' fun e w''=>e=.returned (.bool (q (uG x)))∧Below w'.heap.size w' w''):
  Calls Tryz.prog 76 #[uG x,.pointer (some ⟨B,0,none⟩)] w fun e w'=>e=.returned (.bool (!q (uG x)))∧Below w.heap.size w w':=by
 obtain⟨y,hy⟩:∃y,y=q (uG x):=⟨_,rfl⟩
 rw[←hy] at jS⊢
 have HC:=ah jS
 unfold Body at fJ
 have hne:¬B=w.heap.size:=aj
 clear jS hy
 obtain⟨p,n,u,r,s⟩:=x
 go_enter Tryz.func76,Tryz.ntmps76
 go_wp2_with fail
 with_reducible refine(HC.out _ aG).mono ?_
 rintro e w1 ⟨rfl,hb1⟩
 go_wp2_with fail
 go_ret
 exact⟨aI,aci⟩
theorem R7(pa:Option Addr)(np pc:Nat)(fr:Int)(wv cv:Value)(cs:List Ch)(h:FuncId)(B1:Nat)(n:Int)(q:Value→Bool)(w:World)(hv:Sl w true 5 cv (oC cs))(hby:cs.length*40≤140737488355328)(fJ:Body Tryz.prog h)
  (FR:B1<w.heap.size)(hc1:w.cell? ⟨B1,0,none⟩=some (.int .i64 n))
  (hq:∀(x:Ch) (w':World),B1<w'.heap.size→w'.cell? ⟨B1,0,none⟩=some (.int .i64 n)→Calls Tryz.prog h #[uG x,.pointer (some ⟨B1,0,none⟩)] w' fun e w''=>e=.returned (.bool (q (uG x)))∧Below w'.heap.size w' w''):
  Calls Tryz.prog 53 #[.agg #[.slice pa np pc,.int .i64 fr,wv,cv],.func (.func h) #[] #[.pointer (some ⟨B1,0,none⟩)]] w fun e w'=>∃v',e=.returned v'∧Sl w' true 5 v' ((oC cs).filter q)∧(∀b,v'.ownBlock=some b→w.heap.size≤b)∧Below w.heap.size w w':=by
 have HV:=ah hv
 have HQ:=ah hq
 have HB:=ah fJ
 obtain⟨a,cap,rfl,hl⟩:=hv.shape
 rw[oG] at hl HV⊢
 clear hv hq fJ
 go_enter Tryz.func53,Tryz.ntmps53
 go_wp2_with fail
 with_reducible refine(CK _ (oC cs) _ (HV.out.below aG) (by rw[oG];exact hby)).mono ?_
 rintro e w2 ⟨v2,rfl,o7,hb2⟩
 have hz2:=hb2.size
 simp only[World.size_alloc] at hz2
 have jo:=aD.below (aD.p9 (w.alloc (.cells #[.slice pa np pc,.int .i64 fr,wv,.slice a cs.length cap] 26)) #[.func (.func h) #[] #[.pointer (some ⟨B1,0,none⟩)]] 109 (n:=w.heap.size+1) aI) hb2 dF
 have bM:Below w.heap.size w w2:=aG
 have hge:∀b,v2.ownBlock=some b→w.heap.size+1+1≤b:=fun b hb=>by have:=o7.iy b hb;simp only[World.size_alloc] at this;omega
 have HP:Hid (Pred Tryz.prog w2 v2.ownBlock 76 #[.pointer (some ⟨w.heap.size+1,0,none⟩)] (fun v=>!q v) (oC cs)):=ah ⟨Wq,fun w' hw x hm=>by
  obtain⟨y,_,rfl⟩:=List.mem_map.1 hm
  have hB3:w.heap.size+1<w'.heap.size:=Nat.lt_of_lt_of_le jo.lt hw.size
  have e1:w'.heap[w.heap.size+1]?=w2.heap[w.heap.size+1]?:=hw.block _ jo.lt (fun h=>by have:=hge _ h.symm;omega)
  have e2:w'.heap[B1]?=w2.heap[B1]?:=hw.block _ aj (fun h=>by have:=hge _ h.symm;omega)
  refine Z4 y h (w.heap.size+1) B1 q w' HB.out hB3 ((World.cell?_of_block (a:=⟨w.heap.size+1,0,none⟩) e1).trans (jo.rules.1 0)) fun w'' hb=>?_
  have h1:w2.cell? ⟨B1,0,none⟩=some (.int .i64 n):=(bM.cell (p:=⟨B1,0,none⟩) FR).trans hc1
  have h2:B1<w'.heap.size:=aj
  exact HQ.out y w'' (Nat.lt_of_lt_of_le h2 hb.size) ((hb.cell (p:=⟨B1,0,none⟩) h2).trans ((World.cell?_of_block (a:=⟨B1,0,none⟩) e2).trans h1))⟩
 have HD:=ah (Ho v2 (oC cs) 76 #[.pointer (some ⟨w.heap.size+1,0,none⟩)] (fun v=>!q v) w2 _ afs o7 HP.out)
 have nR:=ah o7
 clear o7 jo
 go_wp2_with fail
 with_reducible refine HD.out.mono ?_
 rintro e w4 ⟨v4,rfl,mg,hv4,hg4⟩
 have hb4:Below w.heap.size w w4:=nR.out.below hg4 bM dF aj
 simp only[Bool.not_not] at mg
 have LJ:=ah mg
 have M6:=ah (show∀b,v4.ownBlock=some b→w.heap.size≤b from fun b hb=>by have:=hge b (hv4▸hb);omega)
 clear mg hg4 hv4
 go_wp2_with fail
 go_ret
 exact⟨_,rfl,LJ.out,M6.out,hb4⟩
theorem ae2(pa:Option Addr)(np pc:Nat)(fr:Int)(wv cv:Value)(cs:List Ch)(part:Int)(w:World)(hv:Sl w true 5 cv (oC cs))(hby:cs.length*40≤140737488355328):
  Calls Tryz.prog 20 #[.agg #[.slice pa np pc,.int .i64 fr,wv,cv],.int .i64 part] w fun e w'=>∃v',e=.returned v'∧Sl w' true 5 v' (oC (uQ cs part))∧Below w.heap.size w w':=by
 have HV:=ah hv
 have HE:=ah (ae1 cs part)
 have HS:=ah (fun W h hB hc=>R7 pa np pc fr wv cv cs 54 (w.heap.size+1) part (XW part) W h hby WH hB hc (fun x w'=>aaw x part (w.heap.size+1) w'))
 clear hv
 go_enter Tryz.func20,Tryz.ntmps20
 go_wp2_with fail
 with_reducible refine(HS.out _ (HV.out.below ?_) ?_ ?_).mono ?_
 focus exact bl
 focus(simp only[World.size_alloc];omega)
 focus exact(aD.p9 (w.alloc (.cells #[.slice pa np pc,.int .i64 fr,wv,cv] 26)) #[.int .i64 part] 3 (n:=w.heap.size+1) aI).rules.1 0
 rintro e w1 ⟨v1,rfl,hs1,_,hb1⟩
 rw[HE.out] at hs1
 have Y4:=ah hs1
 clear hs1
 go_wp2_with fail
 go_ret
 exact⟨_,rfl,Y4.out,aci⟩
theorem Yw(pa:Option Addr)(np pc:Nat)(fr:Int)(wv cv:Value)(cs:List Ch)(part:Int)(w:World)(hv:Sl w true 5 cv (oC cs))(hby:cs.length*40≤140737488355328):
  Calls Tryz.prog 21 #[.agg #[.slice pa np pc,.int .i64 fr,wv,cv],.int .i64 part] w fun e w'=>∃v',e=.returned v'∧Sl w' true 5 v' (oC (qc cs part))∧Below w.heap.size w w':=by
 have HV:=ah hv
 have HE:=ah (ag7 cs part)
 have HS:=ah (fun W h hB hc=>R7 pa np pc fr wv cv cs 55 (w.heap.size+1) part (toQ part) W h hby aaW hB hc (fun x w'=>afc x part (w.heap.size+1) w'))
 clear hv
 go_enter Tryz.func21,Tryz.ntmps21
 go_wp2_with fail
 with_reducible refine(HS.out _ (HV.out.below ?_) ?_ ?_).mono ?_
 focus exact bl
 focus(simp only[World.size_alloc];omega)
 focus exact(aD.p9 (w.alloc (.cells #[.slice pa np pc,.int .i64 fr,wv,cv] 26)) #[.int .i64 part] 3 (n:=w.heap.size+1) aI).rules.1 0
 rintro e w1 ⟨v1,rfl,hs1,_,hb1⟩
 rw[HE.out] at hs1
 have Y4:=ah hs1
 clear hs1
 go_wp2_with fail
 go_ret
 exact⟨_,rfl,Y4.out,aci⟩
end Go.Proofs.YtgmodehldmahiaaGreatDoor.aW
namespace Go.Proofs.YtgmodehldmahiaaGreatDoor.aW
open Go Go.RowKit Go.Tm
def LA:List Ch→List Ch→Int→Int→Int×Int×Bool
 |_,[],_,_=>(0,0,false)
 |pre,c::r,part,p=>if c.2.1=part then(if p=0 then(c.2.2.1,(((qc pre c.2.2.1).length:Nat):Int),true) else LA (pre++[c]) r part (p-1)) else LA (pre++[c]) r part p
def toS(cs:List Ch)(part port:Int):Int×Int×Bool:=if port<0 then(0,0,false) else LA [] cs part port
theorem drop_at{α:Type}{l:List α}{i:Nat}{x:α}(h:l[i]?=some x):l.drop i=x::l.drop (i+1):=by
 obtain⟨hl,hx⟩:=List.getElem?_eq_some_iff.1 h
 rw[←hx];exact List.drop_eq_getElem_cons hl
theorem agD{cs:List Ch}{i:Nat}{x:Ch}{part p:Int}(hx:cs[i]?=some x)(h:x.2.1≠part):LA (cs.take i) (cs.drop i) part p=LA (cs.take (i+1)) (cs.drop (i+1)) part p:=by
 rw[drop_at hx,eO hx,LA,if_neg h]
theorem alj{cs:List Ch}{i:Nat}{x:Ch}{part p:Int}(hx:cs[i]?=some x)(h:x.2.1=part)(hp:p≠0):LA (cs.take i) (cs.drop i) part p=LA (cs.take (i+1)) (cs.drop (i+1)) part (p-1):=by
 rw[drop_at hx,eO hx,LA,if_pos h,if_neg hp]
theorem agE{cs:List Ch}{i:Nat}{x:Ch}{part:Int}(hx:cs[i]?=some x)(h:x.2.1=part):LA (cs.take i) (cs.drop i) part 0=(x.2.2.1,(((qc (cs.take i) x.2.2.1).length:Nat):Int),true):=by
 rw[drop_at hx,LA,if_pos h,if_pos rfl]
theorem ag8(cs:List Ch)(a:Int):(qc cs a).length≤cs.length:=List.length_filter_le _ _
set_option maxRecDepth 100000 in
set_option maxHeartbeats 4000000 in
theorem ali(pa:Option Addr)(np pc:Nat)(fr:Int)(wv cv:Value)(cs:List Ch)(part port:Int)(w:World)(hv:Sl w true 5 cv (oC cs))(ajy:(Lit.int .i64 port).wf=true)(hby:cs.length*40≤140737488355328):
  Calls Tryz.prog 79 #[.agg #[.slice pa np pc,.int .i64 fr,wv,cv],.int .i64 part,.int .i64 port] w fun e w'=>e=.returned (.tuple #[.agg #[.int .i64 (toS cs part port).1,.int .i64 (toS cs part port).2.1],.bool (toS cs part port).2.2])∧Below w.heap.size w w':=by
 have HV:=ah hv
 have hpr:-9223372036854775808≤port∧port≤9223372036854775807:=by simpa[Lit.wf,IntKind.min,IntKind.max,IntKind.bits,IntKind.signed] using ajy
 obtain⟨a,cap,rfl,hl⟩:=hv.shape
 rw[oG] at hl HV⊢
 obtain⟨r1,r2,r3,hts⟩:∃r1 r2 r3,toS cs part port=(r1,r2,r3):=⟨_,_,_,rfl⟩
 rw[hts]
 dsimp only
 clear hv ajy
 by_cases Zi:port<0
 ·have hd:decide (port<0)=true:=decide_eq_true Zi
  unfold toS at hts
  rw[if_pos Zi] at hts
  simp only[Prod.mk.injEq] at hts
  obtain⟨rfl,rfl,rfl⟩:=hts
  go_enter Tryz.func79,Tryz.ntmps79
  go_wp2_with fail
  exact bodyPost_ret (v:= .tuple #[.agg #[.int .i64 0,.int .i64 0],.bool false]) (by simp[results,Tryz.results79,go_sem]) rfl ⟨rfl,aG⟩
 have hd:decide (port<0)=false:=decide_eq_false Zi
 unfold toS at hts
 rw[if_neg Zi] at hts
 have HTS:=ah hts
 clear hts
 go_enter Tryz.func79,Tryz.ntmps79
 go_wp2_with fail
 have HA:=ah (show aD ((w.alloc (.cells #[.slice pa np pc,.int .i64 fr,wv,.slice a cs.length cap] 26)).alloc (.cells #[.int .i64 0,.int .i64 0] 168)) w.heap.size #[.slice pa np pc,.int .i64 fr,wv,.slice a cs.length cap] 26 from(aD.new _ _ _).alloc _)
 have HB:=ah (show aD ((w.alloc (.cells #[.slice pa np pc,.int .i64 fr,wv,.slice a cs.length cap] 26)).alloc (.cells #[.int .i64 0,.int .i64 0] 168)) (w.heap.size+1) #[.int .i64 0,.int .i64 0] 168 from aD.p9 _ _ _ aI)
 have bW:Below w.heap.size w ((w.alloc (.cells #[.slice pa np pc,.int .i64 fr,wv,.slice a cs.length cap] 26)).alloc (.cells #[.int .i64 0,.int .i64 0] 168)):=((Below.refl _ _).alloc (Nat.le_refl _) _).alloc aI _
 have hz1:((w.alloc (.cells #[.slice pa np pc,.int .i64 fr,wv,.slice a cs.length cap] 26)).alloc (.cells #[.int .i64 0,.int .i64 0] 168)).heap.size=w.heap.size+1+1:=aI
 generalize(w.alloc (.cells #[.slice pa np pc,.int .i64 fr,wv,.slice a cs.length cap] 26)).alloc (.cells #[.int .i64 0,.int .i64 0] 168)=w1 at*
 go_loopw [2,8,9,16] (fun q _ _ t W=>∃(i:Nat) (p:Int),i≤cs.length∧t=.int .i64 i∧q=.int .i64 p∧0≤p∧p≤port∧Below w1.heap.size w1 W∧Hid (LA (cs.take i) (cs.drop i) part p=(r1,r2,r3))) (fun _ _ _ t _=>cs.length-(intOf t).toNat)
 case atStart=>exact⟨0,port,Nat.zero_le _,rfl,rfl,aj,Int.le_refl _,Below.refl _ _,HTS⟩
 case round=>
  obtain⟨i,p,hi,rfl,rfl,yP,hpp,bZ,HF⟩:=hrel
  have hwz:=bZ.size
  (have b2:=HA.out.below bZ HA.out.lt;obtain⟨hc2,hf2,hl2,rD,nS⟩:=b2.rules;have K2:=ah b2;clear b2)
  by_cases hlt:i<cs.length
  ·obtain⟨x,hx⟩:∃x,cs[i]?=some x:=⟨_,List.getElem?_eq_getElem hlt⟩
   have HV2:=ah (HV.out.below (bW.trans (bZ.mono aj)))
   obtain⟨r,hr,hs⟩:=Sl.Sb (t:=24) kK Tryz.underlying24 HV2.out (i:Int) i rfl (by rw[oG];omega)
   have hst:(oC cs).take i=oC (cs.take i):=by rw[oC,oC,List.map_take]
   rw[hst] at hs
   obtain⟨ar,kr,hrv,_⟩:=hs.shape
   generalize(oC (cs.take i)).length=nr at hrv
   subst hrv
   have HS:=ah hs
   obtain⟨b,off,rfl,hb,e0,e1,e2,e3,e4⟩:=Sl.ch HV2.out hx
   have hwr:IntKind.i64.wrap ((i:Int)+1)=i+1:=IntWalk.i64_in _ aj
   have hba:Below w1.heap.size w1 (wr.alloc (.cells #[.int .i64 x.1,.int .i64 x.2.1,.int .i64 x.2.2.1,.int .i64 x.2.2.2.1,.int .i64 x.2.2.2.2] 95)):=bZ.alloc hwz _
   clear hs hst
   by_cases hq:x.2.1=part
   ·have Ij:(x.2.1 !=part)=false:=by simpa using hq
    by_cases hpz:p=0
    ·subst hpz
     have hf:=HF.out
     rw[agE hx hq] at hf
     simp only[Prod.mk.injEq] at hf
     obtain⟨rfl,hr2,rfl⟩:=hf
     have FV:=ah hr2
     have HI:=ah (fun W h=>Yw none 0 0 0 (.slice none 0 0) (.slice ar nr kr) (cs.take i) x.2.2.1 W h zS)
     have xW:=ag8 (cs.take i) x.2.2.1
     rw[List.length_take] at xW
     clear hx hq hr2
     go_wp2_with fail
     have KX:=ah (aD.new wr #[.int .i64 x.1,.int .i64 x.2.1,.int .i64 x.2.2.1,.int .i64 x.2.2.2.1,.int .i64 x.2.2.2.2] 95)
     have KA:=ah (K2.out.alloc (.cells #[.int .i64 x.1,.int .i64 x.2.1,.int .i64 x.2.2.1,.int .i64 x.2.2.2.1,.int .i64 x.2.2.2.2] 95))
     have KB:=ah ((HB.out.below bZ HB.out.lt).alloc (.cells #[.int .i64 x.1,.int .i64 x.2.1,.int .i64 x.2.2.1,.int .i64 x.2.2.2.1,.int .i64 x.2.2.2.2] 95))
     have HS3:=ah (HS.out.alloc (.cells #[.int .i64 x.1,.int .i64 x.2.1,.int .i64 x.2.2.1,.int .i64 x.2.2.2.1,.int .i64 x.2.2.2.2] 95))
     have hz3:(wr.alloc (.cells #[.int .i64 x.1,.int .i64 x.2.1,.int .i64 x.2.2.1,.int .i64 x.2.2.2.1,.int .i64 x.2.2.2.2] 95)).heap.size=wr.heap.size+1:=aI
     generalize wr.alloc (.cells #[.int .i64 x.1,.int .i64 x.2.1,.int .i64 x.2.2.1,.int .i64 x.2.2.2.1,.int .i64 x.2.2.2.2] 95)=w3 at*
     have HZ3:=ah hz3
     clear hz3 HS hc2 hf2 hl2 rD nS e0 e1 e2 e3 e4
     refine wp_region_held_drew (S:=fun W=>W.cell? ⟨wr.heap.size,2,none⟩=some (.int .i64 x.2.2.1)∧W.cell? ⟨w.heap.size,3,none⟩=some (.slice (some ⟨b,off,none⟩) cs.length cap)) ay ⟨KX.out.drew.rules.1 2,KA.out.drew.rules.1 3⟩ (fun hHeld=>?_)
     ((refine wpAnyH_take (i:=0) (oi:=⟨some 30,_,_,_,_,_⟩) (v:=?_) rfl ay ay ay (fun _ _ _ h=>h) (Or.inl ⟨aF,?_⟩) bq ?_);rotate_left;(focus(intro w hSw;(try dsimp only at hSw);go_simp;(try with_reducible rfl)));(try simp only[pt]))
     ((refine wpAnyH_take (i:=1) (oi:=⟨some 31,_,_,_,_,_⟩) (v:=?_) rfl ay ay ay (fun _ _ _ h=>h) (Or.inl ⟨aF,?_⟩) bq ?_);rotate_left;(focus(intro w hSw;(try dsimp only at hSw);go_simp;(try with_reducible rfl)));(try simp only[pt]))
     ((refine wpAnyH_take (i:=2) (oi:=⟨some 32,_,_,_,_,_⟩) (v:=?_) rfl ay ay ay (fun _ _ _ h=>h) (Or.inl ⟨aF,?_⟩) bq ?_);rotate_left;(focus(intro w hSw;(try dsimp only at hSw);go_simp;(try with_reducible rfl)));(try simp only[pt]))
     ((refine wpAnyH_take (i:=3) (oi:=⟨some 33,_,_,_,_,_⟩) (v:=?_) rfl ay ay ay (fun _ _ _ h=>h) (Or.inl ⟨aF,?_⟩) bq ?_);rotate_left;(focus(intro w hSw;(try dsimp only at hSw);go_simp;(try with_reducible rfl)));(try simp only[pt]))
     ((refine wpAnyH_take (i:=4) (oi:=⟨some 34,_,_,_,_,_⟩) (v:=?_) rfl ay ay ay (fun _ _ _ h=>h) (Or.inl ⟨aF,?_⟩) bq ?_);rotate_left;(focus(intro w hSw;(try dsimp only at hSw);go_simp;(try with_reducible rfl)));(try simp only[pt]))
     ((refine wpAnyH_take (i:=5) (oi:=⟨some 35,_,_,_,_,_⟩) (v:=?_) rfl ay ay ay (fun _ _ _ h=>h) (Or.inl ⟨aF,?_⟩) bq ?_);rotate_left;(focus(intro w hSw;(try dsimp only at hSw);go_simp;(try with_reducible rfl)));(try simp only[pt]))
     ((refine wpAnyH_take (i:=6) (oi:=⟨some 36,_,_,_,_,_⟩) (v:=?_) rfl ay ay ay (fun _ _ _ h=>h) (Or.inl ⟨aF,?_⟩) bq ?_);rotate_left;(focus(intro w hSw;(try dsimp only at hSw);go_simp;(try with_reducible rfl)));(try simp only[pt]))
     ((refine wpAnyH_take (i:=7) (oi:=⟨some 37,_,_,_,_,_⟩) (v:=?_) rfl ay ay ay (fun _ _ _ h=>h) (Or.inl ⟨aF,?_⟩) bq ?_);rotate_left;(focus(intro w hSw;(try dsimp only at hSw);go_simp;(try with_reducible rfl)));(try simp only[pt]))
     ((refine wpAnyH_take (i:=8) (oi:=⟨some 38,_,_,_,_,_⟩) (v:=?_) rfl ay ay ay (fun _ _ _ h=>h) (Or.inl ⟨aF,?_⟩) bq ?_);rotate_left;(focus(intro w hSw;(try dsimp only at hSw);go_simp;(try with_reducible rfl)));(try simp only[pt]))
     ((refine wpAnyH_ready (rs:=[9]) ay aI ?_);(refine AllReadyH.cons (o:=⟨some 39,_,_,_,_,_⟩) rfl (fun K hK=>?_) AllReadyH.nil);go_simp;(with_reducible refine(HI.out _ (HS3.out.below (Below.refl _ _).drew)).mono ?_);rintro en w5 ⟨v5,rfl,hs5,kV⟩;(have LP:=kV.size;(try simp only[bQ,eG,World.size_alloc] at LP);have UY:Below w3.heap.size w3 w5:=aG;obtain⟨a5,k5,hv5,_⟩:=hs5.shape;rw[oG] at hv5;subst hv5;clear hs5);(try go_wp2_with fail);(refine hK.out _ _ (⟨(KX.out.below UY KX.out.lt).rules.1 2,(KA.out.below UY KA.out.lt).rules.1 3⟩) (fun hHeld=>?_));clear hK K;(try simp only[pt]))
     have zI:=ah (KB.out.below UY KB.out.lt)
     have Ul:=ah (KX.out.below UY KX.out.lt)
     have KA5:=ah (KA.out.below UY KA.out.lt)
     obtain⟨hc5,hf5,hl5,hn5,hm5⟩:=zI.out.rules
     have hne:wr.heap.size≠w.heap.size+1:=aj
     have HSS:=ah (show((w5.setCell ⟨w.heap.size+1,0,none⟩ (.int .i64 x.2.2.1)).setCell ⟨w.heap.size+1,1,none⟩ (.int .i64 ((qc (cs.take i) x.2.2.1).length:Nat))).cell? ⟨wr.heap.size,2,none⟩=some (.int .i64 x.2.2.1)∧((w5.setCell ⟨w.heap.size+1,0,none⟩ (.int .i64 x.2.2.1)).setCell ⟨w.heap.size+1,1,none⟩ (.int .i64 ((qc (cs.take i) x.2.2.1).length:Nat))).cell? ⟨w.heap.size,3,none⟩=some (.slice (some ⟨b,off,none⟩) cs.length cap) from
      ⟨(World.cell?_setCell_far _ _ _ _ hne.symm).trans ((World.cell?_setCell_far _ _ _ _ hne.symm).trans (Ul.out.rules.1 2)),(World.cell?_setCell_far _ _ _ _ aI).trans ((World.cell?_setCell_far _ _ _ _ aI).trans (KA5.out.rules.1 3))⟩)
     have iE:Below w.heap.size w w5:=(bW.trans (hba.mono aj)).trans (UY.mono (by have:=hba.size;omega))
     clear kV UY hne
     generalize(qc (cs.take i) x.2.2.1).length=n5 at*
     ((refine wpAnyH_take (i:=10) (oi:=⟨some 40,_,_,_,_,_⟩) (v:=?_) rfl ay ay ay (fun _ _ _ h=>h) (Or.inl ⟨aF,?_⟩) bq ?_);rotate_left;(focus(intro w hSw;(try dsimp only at hSw);go_simp;(try with_reducible rfl)));(try simp only[pt]))
     ((refine wpAnyH_take (i:=11) (oi:=⟨some 41,_,_,_,_,_⟩) (v:=?_) rfl ay ay ay (fun _ _ _ h=>h) (Or.inl ⟨aF,?_⟩) bq ?_);rotate_left;(focus(intro w hSw;(try dsimp only at hSw);go_simp;(try with_reducible rfl)));(try simp only[pt]))
     refine wpAnyH_ready (rs:=[12]) ay aI ?_
     refine AllReadyH.cons (o:=⟨none,_,_,_,_,_⟩) rfl (fun K hK=>?_) AllReadyH.nil
     go_simp
     refine hK.out _ _ HSS.out (fun hHeld=>?_)
     clear hK K
     (try simp only[pt])
     refine wpAnyH_ready (rs:=[13]) ay aI ?_
     refine AllReadyH.cons (o:=⟨some 7,_,_,_,_,_⟩) rfl (fun K hK=>?_) AllReadyH.nil
     go_simp
     refine hK.out _ _ HSS.out (fun hHeld=>?_)
     clear hK K
     (try simp only[pt])
     refine wpAnyH_done ay ?_ _
     go_wp2_with fail
     exact bodyPost_ret (v:= .tuple #[.agg #[.int .i64 x.2.2.1,.int .i64 (n5:Nat)],.bool true]) (by simp[results,Tryz.results79,go_sem,hc5]) rfl ⟨by rw[←FV.out],aG⟩
    ·have UH:=ah ((alj hx hq hpz).symm.trans HF.out)
     have hpb:(p==0)=false:=by simpa using hpz
     have hwp:IntKind.i64.wrap (p-1)=p-1:=IntWalk.i64_in _ aj
     clear hx hq
     go_wp2_with fail
     go_roundw
     case rel=>exact⟨i+1,p-1,aj,dn,rfl,aj,aj,hba,UH⟩
     case measure=>simp[intOf];omega
   ·have UH:=ah ((agD hx hq).symm.trans HF.out)
    have Ij:(x.2.1 !=part)=true:=EM
    clear hx hq
    go_wp2_with fail
    go_roundw
    case rel=>exact⟨i+1,p,aj,dn,rfl,aj,aj,hba,UH⟩
    case measure=>simp[intOf];omega
  ·obtain rfl:i=cs.length:=by omega
   have hf:=HF.out
   rw[List.drop_length,LA] at hf
   simp only[Prod.mk.injEq] at hf
   obtain⟨rfl,rfl,rfl⟩:=hf
   (have b3:=HB.out.below bZ HB.out.lt;obtain⟨hc3,hf3,qM,wX,qL⟩:=b3.rules;have K3:=ah b3;clear b3)
   have Zn:Below w.heap.size w wr:=bW.trans (bZ.mono aj)
   go_wp2_with fail
   exact bodyPost_ret (v:= .tuple #[.agg #[.int .i64 0,.int .i64 0],.bool false]) (by simp[results,Tryz.results79,go_sem,hc3]) rfl ⟨rfl,aG⟩
end Go.Proofs.YtgmodehldmahiaaGreatDoor.aW
