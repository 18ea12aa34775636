/- Part 48 of 53 of the proof of topAlone_and_topApart. Conditions: see each. -/
import Derived.Test.YtgmodehldmahiaaGreatDoorB14
import Derived.Test.YtgmodehldmahiaaGreatDoorB45
import Derived.Test.YtgmodehldmahiaaGreatDoorB44
import Derived.Test.YtgmodehldmahiaaGreatDoorB13
import Derived.Test.YtgmodehldmahiaaGreatDoorB09
set_option linter.unusedVariables false
set_option linter.unusedSimpArgs false
set_option maxRecDepth 8192
set_option maxHeartbeats 40000000
section
theorem amt{P:Prop}(h:P:=by
 ((refine aJ 4 (oi:=⟨some 127,_,_,_,_,_⟩) rfl ay rfl (fun K hK=>?_));(go_simp;(with_reducible refine(FV.out _ (OG.trans (Below.mono O4 OG.size))).mono ?_);rintro en wB ⟨⟨svB,Us,avB,F7,Rb⟩,rfl,o_,UA,GU⟩;have hS:=hS.trans (Below.mono GU hS.size);obtain⟨asB,csB,yc,OA⟩:=o_.sv.shape;rw[gV o_.mo,HLY.out] at yc;dsimp only at yc;subst yc;(obtain⟨uB,Ii⟩:∃u,Us[i]?=some u:=⟨_,List.getElem?_eq_getElem ahP⟩);obtain⟨bB,oB,OD,Q6,Df⟩:=o_.sv.at (kI Ii hy);subst OD;have HCB:=ah Df;have oO:=o_.kr i _ _ Ii hy;have YH:=iT oO x.2.1 x.2.2;(try(have yU:=(UA qa bT.lt (OM.out.away gy)).kr i _ _ Ii hy);have bT:=aD.below bT GU bT.lt);clear Df OA Ii;(try go_wp2_with fail));(refine hK.out _ _ (fun _=>b_) ?_;clear hK K);(try simp only[pt]);((refine sZ (S':=fun W=>Below wC.heap.size wC W∧Below wB.heap.size wB W) (fun _ h=>h.1) ?_;have hS:=And.intro hS (Below.refl wB.heap.size wB)));(refine bL 5 (oi:=⟨some 128,_,_,_,_,_⟩) rfl ay om hS (rC 36 _ 5 rfl aF (.agg (hC (.slice a1 p.parts.length c1) (.slice a2 p.wins.length c2) (.slice a3 p.chans.length c3) (.slice ja kS.length jc) p ⟨.slice (some ⟨bB,oB,none⟩) p.parts.length csB,Us,avB,F7,Rb⟩ Y)) (.slice (some ⟨bB,oB,none⟩) p.parts.length csB) bG (fun W=>wJ _ _ _ _ _ _ _ W)) ?_);(try simp only[pt]);(refine tk 8 131 hS ?_);(try simp only[pt]);(refine bL 9 (oi:=⟨some 132,_,_,_,_,_⟩) rfl ay om hS (fZ 59 _ rfl (b:=bB) (off:=oB+i*19) (iC uB x.1 x.2.1 x.2.2) dH YH aF bG (fun W hs=>HCB.out.below hs.2 Q6)) ?_);(try simp only[pt]);(refine aZ 11 ay ?_ rfl);simp only[List.toList_toArray,List.drop_succ_cons,List.drop_zero];(have MU:kP.size=19:=rfl;have Es:=ah bT;have HKZ:=ah Vy;have Y_:=ah yU;have Y3:=ah hS.1;go_wp2_with(first|((with_reducible refine bS 59 ?_);(refine aR rfl 59 _ _ rfl Es.out (iC uB x.1 x.2.1 x.2.2) dH (YH) ?_ (_) (gM 19 nZ ()) ?_ ?_ ?_;(exact gG);(exact aM);(exact aM);intro wZ YU YP hzZ YR))|fail);exact⟨qa,EJ.of rfl ay IX,uB,YU,HKZ.out.bP Y_.out Es.out rfl aC aC aC aC YP,Y3.out.trans (YR.mono gy),gy⟩))):P:=h
theorem ams{P:Prop}(h:P:=by
 ((refine aJ 4 (oi:=⟨some 117,_,_,_,_,_⟩) rfl ay rfl (fun K hK=>?_));(go_simp;(with_reducible refine(Eu.out _ hS).mono ?_);rintro en wB ⟨⟨svB,Us,avB,F7,Rb⟩,rfl,o_,UA,GU⟩;have hS:=hS.trans (Below.mono GU hS.size);obtain⟨asB,csB,yc,OA⟩:=o_.sv.shape;rw[gV o_.mo,HLX.out] at yc;dsimp only at yc;subst yc;(obtain⟨uB,Ii⟩:∃u,Us[i]?=some u:=⟨_,List.getElem?_eq_getElem acd⟩);obtain⟨bB,oB,OD,Q6,Df⟩:=o_.sv.at (kI Ii hx);subst OD;have HCB:=ah Df;have oO:=o_.kr i _ _ Ii hx;have YH:=iT oO x.2.1 x.2.2;(try(have yU:=(UA qa bT.lt (IV.out.away gy)).kr i _ _ Ii hx);have bT:=aD.below bT GU bT.lt);clear Df OA Ii;(try go_wp2_with fail));(refine hK.out _ _ (fun _=>b_) ?_;clear hK K);(try simp only[pt]);((refine sZ (S':=fun W=>Below w9.heap.size w9 W∧Below wB.heap.size wB W) (fun _ h=>h.1) ?_;have hS:=And.intro hS (Below.refl wB.heap.size wB)));(refine bL 5 (oi:=⟨some 118,_,_,_,_,_⟩) rfl ay om hS (rC 36 _ 5 rfl aF (.agg (hC (.slice a1 p.parts.length c1) (.slice a2 p.wins.length c2) (.slice a3 p.chans.length c3) (.slice ia dx.length ic) p ⟨.slice (some ⟨bB,oB,none⟩) p.parts.length csB,Us,avB,F7,Rb⟩ X)) (.slice (some ⟨bB,oB,none⟩) p.parts.length csB) bG (fun W=>wJ _ _ _ _ _ _ _ W)) ?_);(try simp only[pt]);(refine tk 8 121 hS ?_);(try simp only[pt]);(refine bL 9 (oi:=⟨some 122,_,_,_,_,_⟩) rfl ay om hS (fZ 59 _ rfl (b:=bB) (off:=oB+i*19) (iC uB x.1 x.2.1 x.2.2) dH YH aF bG (fun W hs=>HCB.out.below hs.2 Q6)) ?_);(try simp only[pt]);(refine aZ 11 ay ?_ rfl);simp only[List.toList_toArray,List.drop_succ_cons,List.drop_zero];(have MU:kP.size=19:=rfl;have Es:=ah bT;have HKZ:=ah Vy;have Y_:=ah yU;have Y3:=ah hS.1;go_wp2_with(first|((with_reducible refine bS 59 ?_);(refine aR rfl 59 _ _ rfl Es.out (iC uB x.1 x.2.1 x.2.2) dH (YH) ?_ (_) (gM 19 nZ ()) ?_ ?_ ?_;(exact gG);(exact aM);(exact aM);intro wZ YU YP hzZ YR))|fail);exact⟨qa,EJ.of rfl ay IX,uB,YU,HKZ.out.bP Y_.out Es.out rfl aC aC aC aC YP,Y3.out.trans (YR.mono gy),gy⟩))):P:=h
theorem ajk{P:Prop}(h:P:=by
 ((refine aZ 11 ay ?_ rfl);simp only[List.toList_toArray,List.drop_succ_cons,List.drop_zero];(have MU:kP.size=19:=rfl;have Es:=ah bT;have HKZ:=ah Vy;have Y_:=ah yU;have Y3:=ah hS.1;go_wp2_with(first|((with_reducible refine bS 59 ?_);(refine aR rfl 59 _ _ rfl Es.out (iC uB x.1 x.2.1 x.2.2) dH (YH) ?_ (_) (gM 19 nZ ()) ?_ ?_ ?_;(exact gG);(exact aM);(exact aM);intro wZ YU YP hzZ YR))|fail);exact⟨qa,EJ.of rfl ay IX,uB,YU,HKZ.out.bP Y_.out Es.out rfl aC aC aC aC YP,Y3.out.trans (YR.mono gy),gy⟩))):P:=h
theorem M9{P:Prop}(h:P:=by first|exact hS.alloc hS.size _|exact⟨hS.1.alloc hS.1.size _,hS.2.alloc hS.2.size _⟩):P:=h
theorem ahP{P:Prop}(h:P:=by rw[show Us.length=_ from o_.mo,HLY.out];omega):P:=h
theorem Vy{P:Prop}(h:P:=by first|exact oO.below hS.2|exact oO):P:=h
end
section
namespace Go.Proofs.YtgmodehldmahiaaGreatDoor
open Go Go.RowKit Go.Tm aW
theorem aaV{cs:List aW.Ch}{i:Nat}{x:aW.Ch}(hx:cs[i]?=some x)(part:Int):aW.qc (cs.take (i+1)) part=aW.qc (cs.take i) part++(if x.2.2.1=part then[x] else[]):=by
 unfold aW.qc
 rw[List.take_add_one,hx,List.filter_append]
 congr 1
 by_cases h:x.2.2.1=part<;>simp[h]
theorem afb(pa:Option Addr)(np pc:Nat)(fr:Int)(wv cv:Value)(cs:List aW.Ch)(part:Int)(w:World)(hv:Sl w true 5 cv (aW.oC cs))(hby:cs.length≤64):
  Calls Tryz.prog 13 #[.agg #[.slice pa np pc,.int .i64 fr,wv,cv],.int .i64 part] w fun e w'=>(∃a c,e=.returned (.slice a (aW.qc cs part).length c))∧Below w.heap.size w w':=by
 have HV:=ah hv
 obtain⟨i0,qN,oq,gD,mh⟩:=info_parts aW.Fh
 have HI:=ah (And.intro qN (And.intro oq (And.intro gD mh)))
 clear qN oq gD mh
 obtain⟨a,cap,rfl,hl⟩:=hv.shape
 rw[aW.oG] at hl HV⊢
 clear hv
 go_enter Tryz.func13,Tryz.ntmps13
 go_wp2_with fail
 (generalize bR:World.alloc _ _=w0;have KB:aD w0 (w.heap.size) (#[.slice pa np pc,.int .i64 fr,wv,.slice a cs.length cap]) 26:=bH;have hb0:Below w.heap.size w w0:=bN;have hz0:w0.heap.size=w.heap.size+1:=bX;clear bR;have KB:=ah KB)
 go_loopw [5,6] (fun u t W=>∃(i:Nat) (s:Value),i≤cs.length∧s=u∧t=.int .i64 i∧Below w0.heap.size w0 W∧bI W w0.heap.size 95 true 5 u (aW.oC (aW.qc (cs.take i) part))) (fun _ t _=>cs.length-(intOf t).toNat)
 case atStart=>exact⟨0,_,Nat.zero_le _,rfl,rfl,Below.refl _ _,bI.nil⟩
 case round=>
  obtain⟨i,s,hi,rfl,rfl,bZ,hown⟩:=hrel
  have Bj:=bZ.size
  have HO:=ah hown
  clear hown
  have KBr:=ah (KB.out.below bZ KB.out.lt)
  obtain⟨hcb,bC,bn,bA,bE⟩:=aD.rules KBr.out
  have hwr:IntKind.i64.wrap ((i:Int)+1)=i+1:=IntWalk.i64_in _ aj
  by_cases xW:i<cs.length
  ·obtain⟨x,hx⟩:∃x,cs[i]?=some x:=⟨_,List.getElem?_eq_getElem xW⟩
   have hV:=(HV.out.below hb0).below bZ
   obtain⟨b,off,xR,hb,gL⟩:=hV.at (aW.Av hx)
   subst xR
   have c2:wr.cell? ⟨b,off+i*5+2,none⟩=some (.int .i64 x.2.2.1):=gL 2 _ rfl
   have HCX:=ah gL
   have hst:=aaV hx part
   have hle:(aW.qc (cs.take i) part).length≤i:=Nat.le_trans (List.length_filter_le _ _) aV
   clear hx gL hV
   by_cases hp:x.2.2.1=part
   ·rw[if_pos hp] at hst
    have HT:=ah hst
    have FM:(x.2.2.1==part)=true:=Ja
    clear hst hp
    go_wp2_with(first|((with_reducible refine cK 95 ?_);(refine aN rfl 95 _ rfl b (off+i*5) ?_ (aW.uG x) kK (aW.z_ x) HCX.out ?_;(exact aM)))|((with_reducible refine DF 24 ?_);(refine jA rfl 24 _ rfl kK aC i0 (.agg #[.int .i64 0,.int .i64 0,.int .i64 0,.int .i64 0,.int .i64 0]) Tryz.underlying24 HI.out.1 HI.out.2.1 HI.out.2.2.1 (aW.uG x) ?_ (aW.z_ x) ?_;(exact aM)))|(refine dJ (v:=s) (xs:=aW.oC (aW.qc (cs.take i) part)) (base:=w0.heap.size) rfl _ _ 24 rfl kK i0 (.agg #[.int .i64 0,.int .i64 0,.int .i64 0,.int .i64 0,.int .i64 0]) 40 Tryz.underlying24 HI.out.1 HI.out.2.1 HI.out.2.2.1 HI.out.2.2.2 rfl ?_ ?_ (.slice (some ⟨wr.heap.size,0,none⟩) 1 1) ([aW.uG x]) ?_ ?_ ?_ ?_ ?_ ?_;(exact aM);(focus(exact(HO.out.kept aG)));(exact aM);(focus(exact(Sl.pQ (aW.z_ x) rfl)));(exact vV);(exact vU);(exact vW);(intro v4 w4 qz hg4 xQ;have hb4:Below w0.heap.size w0 w4:=(HO.out.kept aG).below hg4 aG (Nat.le_refl _) dF;have sD:=ah qz;clear qz hg4 xQ))|fail)
    go_roundw
    case rel=>exact⟨i+1,_,aj,rfl,dn,hb4,by rw[HT.out,aW.oC,List.map_append];exact sD.out⟩
    case measure=>simp[intOf];omega
   ·rw[if_neg hp,List.append_nil] at hst
    have HT:=ah hst
    have FM:(x.2.2.1==part)=false:=Ja
    clear hst hp
    go_wp2_with fail
    go_roundw
    case rel=>exact⟨i+1,_,aj,rfl,dn,bZ,by rw[HT.out];exact HO.out⟩
    case measure=>simp[intOf];omega
  ·obtain rfl:i=cs.length:=by omega
   have h:=HO.out.sl
   rw[List.take_length] at h
   obtain⟨a5,c5,hs,_⟩:=h.shape
   rw[aW.oG] at hs
   subst hs
   clear h HO
   go_wp2_with fail
   go_ret
   exact⟨⟨_,_,rfl⟩,hb0.trans (bZ.mono hb0.size)⟩
end Go.Proofs.YtgmodehldmahiaaGreatDoor
end
