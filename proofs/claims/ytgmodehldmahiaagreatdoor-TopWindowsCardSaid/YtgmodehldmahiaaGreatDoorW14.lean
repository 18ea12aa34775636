/- Part 14 of 50 of the proof of topWindows_holds. Conditions: see each. -/
import Derived.Test.YtgmodehldmahiaaGreatDoorW01
import Derived.Laws.IdiomStrings
import Derived.Lib.LazyBuf
import Derived.Lib.SlBytesRow
import Derived.Laws.Closers25b
import Derived.Laws.IdiomCopy
import Derived.Shelf.Strings.Repeat
import Derived.Laws.EntriesVeiled
import Derived.SevenTiedAt
set_option linter.unusedVariables false
set_option linter.unusedSimpArgs false
set_option maxRecDepth 8192
set_option maxHeartbeats 40000000
theorem afl{P:Prop}(h:P:=by
 go_wp2_with fail
 go_loopw [11] (fun t W=>∃j:Nat,j≤h2.seats.length∧t=.int .i64 j∧Below w8.heap.size w8 W) (fun t _=>h2.seats.length-(intOf t).toNat)
 case atStart=>exact⟨0,Nat.zero_le _,rfl,Below.refl _ _⟩
 case round=>
  obtain⟨j,hj,rfl,hbv⟩:=hrel
  have hzv:=hbv.size
  have KBv:=Lib.hid (x9.out.below hbv x9.out.lt)
  have K5v:=Lib.hid (K58.out.below hbv K58.out.lt)
  have K8v:=Lib.hid (K88.out.below hbv K88.out.lt)
  have Xw:=Xx.trans (hbv.mono Xx.size)
  clear hcb bn hlb hnb hmb hcs hfs hls hns hms hct hft hlt hnt hmt
  (obtain⟨hcb,bn,hlb,hnb,hmb⟩:=aC.rules KBv.out)
  (obtain⟨hct,hft,hlt,hnt,hmt⟩:=aC.rules K8v.out)
  by_cases hjl:j<h2.seats.length
  rotate_left
  ·have hjn:decide ((j:Int)<h2.seats.length)=false:=decide_eq_false ah
   have hsz1:=jL (.slice a1 p.parts.length c1) (.slice a2 p.wins.length c2) (.slice a3 p.chans.length c3) (.slice ia dZ.length ic) p ⟨.slice as1 h1.seats.length cs1,ss1,av1,aeW,aii⟩ h1
   go_wp2_with(first|((with_reducible refine bS 36 ?_);(refine aJ rfl 36 _ rfl (hC (.slice a1 p.parts.length c1) (.slice a2 p.wins.length c2) (.slice a3 p.chans.length c3) (.slice ia dZ.length ic) p ⟨.slice as2 h2.seats.length cs2,ss2,av2,oQ,DV⟩ h2) d_ (OD.out) K8v.out ?_ ?_;(exact aG)))|((with_reducible refine bO 36 ?_);(refine aN rfl 36 _ _ rfl K5v.out (.agg (hC (.slice a1 p.parts.length c1) (.slice a2 p.wins.length c2) (.slice a3 p.chans.length c3) (.slice ia dZ.length ic) p ⟨.slice as2 h2.seats.length cs2,ss2,av2,oQ,DV⟩ h2)) d_ (OD.out) ?_ (_) (gJ 11 hsz1 ()) ?_ ?_ ?_;(exact fK);(exact aG);(exact aG);(intro GR jD jT tq eP;(have kY:=Lib.hid jD);(have XI:=Lib.hid jT);(clear jD jT))))|fail)
   have ahM:=(Ut.out.below hbv).bL HA6.out K5v.out (oI (HP.out.below (fJ.trans (Xw.mono fJ.size))) hki (Uu.out.below hbv)) iA aB aB aB XI.out
   go_roundw
   case rel=>exact⟨i+1,⟨.slice as2 h2.seats.length cs2,ss2,av2,oQ,DV⟩,ah,bI,by rw[←HH2.out];exact kY.out,YK,by rw[←HH2.out];exact HA6.out,bq (aA (ay Xw _) XI.out) (Nat.le_refl _) (Nat.le_refl _)⟩
   case measure=>simp[intOf];omega
  ·have hjn:decide ((j:Int)<h2.seats.length)=true:=decide_eq_true ah
   have abC:j<h1.seats.length:=by have:=aiG.out;omega
   obtain⟨y,hy⟩:∃y,h2.seats[j]?=some y:=⟨_,List.getElem?_eq_getElem hjl⟩
   obtain⟨x,hx⟩:∃x,h1.seats[j]?=some x:=⟨_,List.getElem?_eq_getElem abC⟩
   have Uf:=Ut.out.below hbv
   have Ug:=Uu.out.below hbv
   obtain⟨v2,hv2⟩:∃v2,ss2[j]?=some v2:=⟨_,List.getElem?_eq_getElem YZ⟩
   obtain⟨v1,hv1⟩:∃v1,ss1[j]?=some v1:=⟨_,List.getElem?_eq_getElem ac_⟩
   obtain⟨b2,o2,Bw,akb,hc2⟩:=Uf.sv.at (kD hv2 hy)
   obtain⟨b1,o1,af2,akc,hc1⟩:=Ug.sv.at (kD hv1 hx)
   subst Bw af2
   have y7:=hc2 7 (.int .u64 y.1.now) adK
   have x7:=hc1 7 (.int .u64 x.1.now) adJ
   have x17:=hc1 17 (.int .i64 x.2.1) adP
   obtain⟨e1,e2,d,Ui,hyd,hA,hB,hD⟩:=XD.out.clk j x y hx hy
   rw[←abH.out] at hA hB
   have hsub:IntKind.u64.wrap (y.1.now-x.1.now)=d:=by
    rw[show y.1.now-x.1.now=d by omega]
    rcases Ui with h|h<;>subst h<;>rfl
   have ajG:IntKind.i64.wrap ((j:Int)+1)=j+1:=IntWalk.i64_in _ (by have:=abz;omega)
   have hcase:(((j:Int)!=r1)=true∧((j:Int)==r1)=false∧d=0)∨(((j:Int)!=r1)=false∧((j:Int)==r1)=true∧x.2.1=1∧d=1)∨(((j:Int)!=r1)=false∧((j:Int)==r1)=true∧x.2.1=2∧d=0)∨(((j:Int)!=r1)=false∧((j:Int)==r1)=true∧x.2.1=2∧d=1)∨(((j:Int)!=r1)=false∧((j:Int)==r1)=true∧(x.2.1≠1∧x.2.1≠2)∧d=0):=by
    by_cases jw:(j:Int)=r1
    ·right
     have b1:((j:Int)!=r1)=false:=by simp[jw]
     have b2:((j:Int)==r1)=true:=by simp[jw]
     by_cases s1:x.2.1=1
     ·exact .inl ⟨b1,b2,s1,hB jw s1⟩
     ·by_cases s2:x.2.1=2
      ·rcases Ui with h|h
       ·exact .inr (.inl ⟨b1,b2,s2,h⟩)
       ·exact .inr (.inr (.inl ⟨b1,b2,s2,h⟩))
      ·exact .inr (.inr (.inr ⟨b1,b2,⟨s1,s2⟩,hD s1 s2⟩))
    ·exact .inl ⟨by simp[jw],by simp[jw],hA jw⟩
   clear hyd hA hB hD Ui Ug Uf hc1 hc2 hx hy hv1 hv2 e1 e2
   (obtain⟨hcs,hfs,hls,hns,hms⟩:=aC.rules K5v.out)
   generalize x.2.1=st at*
   rcases hcase with⟨b1',b2',rfl⟩|⟨b1',b2',rfl,rfl⟩|⟨b1',b2',rfl,rfl⟩|⟨b1',b2',rfl,rfl⟩|⟨b1',b2',⟨g1,g2⟩,rfl⟩
   ·by_cases s1:st=1
    ·subst s1
     go_wp2_with fail
     go_region
     go_wp2_with fail
     go_roundw
     case rel=>exact⟨j+1,ah,bI,aD⟩
     case measure=>simp[intOf];omega
    ·have g1:(st==1)=false:=by simp[s1]
     by_cases s2:st=2
     ·subst s2
      go_wp2_with fail
      go_region
      go_wp2_with fail
      go_roundw
      case rel=>exact⟨j+1,ah,bI,aD⟩
      case measure=>simp[intOf];omega
     ·have g2:(st==2)=false:=by simp[s2]
      go_wp2_with fail
      go_region
      go_wp2_with fail
      go_roundw
      case rel=>exact⟨j+1,ah,bI,aD⟩
      case measure=>simp[intOf];omega
   ·
    go_wp2_with fail
    go_region
    go_wp2_with fail
    go_roundw
    case rel=>exact⟨j+1,ah,bI,aD⟩
    case measure=>simp[intOf];omega
   ·
    go_wp2_with fail
    go_region
    go_wp2_with fail
    go_roundw
    case rel=>exact⟨j+1,ah,bI,aD⟩
    case measure=>simp[intOf];omega
   ·
    go_wp2_with fail
    go_region
    go_wp2_with fail
    go_roundw
    case rel=>exact⟨j+1,ah,bI,aD⟩
    case measure=>simp[intOf];omega
   ·have g1':(st==1)=false:=by simp[g1]
    have g2':(st==2)=false:=by simp[g2]
    go_wp2_with fail
    go_region
    go_wp2_with fail
    go_roundw
    case rel=>exact⟨j+1,ah,bI,aD⟩
    case measure=>simp[intOf];omega):P:=h
theorem vO{P:Prop}(h:P:=by
 go_wp2_with fail
 refine dn ?_
 have hcv:=fun c=>gQ c
 go_wp2_with(first|((with_reducible refine bS 119 ?_);(generalize bN:World.drew _=w5);(have K5:aC w5 w.heap.size (dY ((c.set a _).set 8 _)) 119:=(by rw[←bN];exact(((K1.out.set a _).set 8 _).drew.drew).cast (by rw[ug hcl ah,ug (by rw[List.length_set];exact hcl) ah])));(generalize hC5:(((c.set a _).set 8 _):List Int)=c5 at K5);(have K6:aC w5 (w.heap.size+1+1) (dY []) 119:=Fj);(have hb5:Below w.heap.size w w5:=bM);(have HK5:=Lib.hid K5);(have Xe:=Lib.hid K6);(clear bN K5 K6 cA cB cP);(obtain⟨hc6,hf6,hl6,hn6,Jv⟩:=aC.rules Xe.out);(have hsz0:=b_ []);(have hsz5:=b_ c5);(refine aJ rfl 119 _ rfl (dY c5) iC (hcv c5) HK5.out ?_ ?_;(exact aG)))|((with_reducible refine bO 119 ?_);(refine aN rfl 119 _ _ rfl Xe.out (jm c5) iC (hcv c5) ?_ _ (pQ _ _) ?_ ?_ ?_);(focus(first|omega|(simp only[b_];decide)|trace "1"));(exact adH);(exact adG);(intro w7 Hf vC Io oZ;(have af7:=hb5.trans (oZ.mono (Nat.le_add_right w.heap.size 2)));(have hc7:=Hf.rules.1);(rw[gK] at hc7)))|fail)
 exact bodyPost_ret (v:= .tuple #[jm c5,.bool true]) adQ rfl ⟨congrArg (fun z=>Ending.returned (.tuple #[jm z,.bool true])) hC5.symm,af7⟩):P:=h
theorem afk{P:Prop}(h:P:=by
 go_wp2_with fail
 go_loopw [11] (fun t W=>∃j:Nat,j≤h2.seats.length∧t=.int .i64 j∧Below w8.heap.size w8 W) (fun t _=>h2.seats.length-(intOf t).toNat)
 case atStart=>exact⟨0,Nat.zero_le _,rfl,Below.refl _ _⟩
 case round=>
  obtain⟨j,hj,rfl,hbv⟩:=hrel
  have hzv:=hbv.size
  have KBv:=Lib.hid (x9.out.below hbv x9.out.lt)
  have K5v:=Lib.hid (K58.out.below hbv K58.out.lt)
  have K8v:=Lib.hid (K88.out.below hbv K88.out.lt)
  have Xw:=Xx.trans (hbv.mono Xx.size)
  clear hcb bn hlb hnb hmb hcs hfs hls hns hms hct hft hlt hnt hmt
  (obtain⟨hcb,bn,hlb,hnb,hmb⟩:=aC.rules KBv.out)
  (obtain⟨hct,hft,hlt,hnt,hmt⟩:=aC.rules K8v.out)
  by_cases hjl:j<h2.seats.length
  rotate_left
  ·have hjn:decide ((j:Int)<h2.seats.length)=false:=decide_eq_false ah
   have hsz1:=jL (.slice a1 p.parts.length c1) (.slice a2 p.wins.length c2) (.slice a3 p.chans.length c3) (.slice ia dZ.length ic) p ⟨.slice as1 h1.seats.length cs1,ss1,av1,aeW,aii⟩ h1
   go_wp2_with(first|((with_reducible refine bS 36 ?_);(refine aJ rfl 36 _ rfl (hC (.slice a1 p.parts.length c1) (.slice a2 p.wins.length c2) (.slice a3 p.chans.length c3) (.slice ia dZ.length ic) p ⟨.slice as2 h2.seats.length cs2,ss2,av2,oQ,DV⟩ h2) d_ (OD.out) K8v.out ?_ ?_;(exact aG)))|((with_reducible refine bO 36 ?_);(refine aN rfl 36 _ _ rfl K5v.out (.agg (hC (.slice a1 p.parts.length c1) (.slice a2 p.wins.length c2) (.slice a3 p.chans.length c3) (.slice ia dZ.length ic) p ⟨.slice as2 h2.seats.length cs2,ss2,av2,oQ,DV⟩ h2)) d_ (OD.out) ?_ (_) (gJ 11 hsz1 ()) ?_ ?_ ?_;(exact fK);(exact aG);(exact aG);(intro GR jD jT tq eP;(have kY:=Lib.hid jD);(have XI:=Lib.hid jT);(clear jD jT))))|fail)
   have ahM:=(Ut.out.below hbv).bL HA6.out K5v.out (oI (HP.out.below (fJ.trans (Xw.mono fJ.size))) hki (Uu.out.below hbv)) iA aB aB aB XI.out
   go_roundw
   case rel=>exact⟨i+1,⟨.slice as2 h2.seats.length cs2,ss2,av2,oQ,DV⟩,ah,bI,by rw[←HH2.out];exact kY.out,YK,by rw[←HH2.out];exact HA6.out,bq (aA (ay Xw _) XI.out) (Nat.le_refl _) (Nat.le_refl _)⟩
   case measure=>simp[intOf];omega
  ·have hjn:decide ((j:Int)<h2.seats.length)=true:=decide_eq_true ah
   have abC:j<h1.seats.length:=by have:=aiG.out;omega
   obtain⟨y,hy⟩:∃y,h2.seats[j]?=some y:=⟨_,List.getElem?_eq_getElem hjl⟩
   obtain⟨x,hx⟩:∃x,h1.seats[j]?=some x:=⟨_,List.getElem?_eq_getElem abC⟩
   have Uf:=Ut.out.below hbv
   have Ug:=Uu.out.below hbv
   obtain⟨v2,hv2⟩:∃v2,ss2[j]?=some v2:=⟨_,List.getElem?_eq_getElem YZ⟩
   obtain⟨v1,hv1⟩:∃v1,ss1[j]?=some v1:=⟨_,List.getElem?_eq_getElem ac_⟩
   obtain⟨b2,o2,Bw,akb,hc2⟩:=Uf.sv.at (kD hv2 hy)
   obtain⟨b1,o1,af2,akc,hc1⟩:=Ug.sv.at (kD hv1 hx)
   subst Bw af2
   have y7:=hc2 7 (.int .u64 y.1.now) adK
   have x7:=hc1 7 (.int .u64 x.1.now) adJ
   have x17:=hc1 17 (.int .i64 x.2.1) adP
   obtain⟨e1,e2,d,Ui,hyd,hA,hB,hD⟩:=XD.out.clk j x y hx hy
   rw[←abH.out] at hA hB
   have hsub:IntKind.u64.wrap (y.1.now-x.1.now)=d:=by
    rw[show y.1.now-x.1.now=d by omega]
    rcases Ui with h|h<;>subst h<;>rfl
   have ajG:IntKind.i64.wrap ((j:Int)+1)=j+1:=IntWalk.i64_in _ (by have:=abz;omega)
   have hcase:((j:Int)!=(-1))=true∧((j:Int)==(-1))=false∧d=0:=⟨aI,aI,hA ah⟩
   clear hyd hA hB hD Ui Ug Uf hc1 hc2 hx hy hv1 hv2 e1 e2
   (obtain⟨hcs,hfs,hls,hns,hms⟩:=aC.rules K5v.out)
   generalize x.2.1=st at*
   obtain⟨b1',b2',rfl⟩:=hcase
   ·by_cases s1:st=1
    ·subst s1
     go_wp2_with fail
     go_region
     go_wp2_with fail
     go_roundw
     case rel=>exact⟨j+1,ah,bI,aD⟩
     case measure=>simp[intOf];omega
    ·have g1:(st==1)=false:=by simp[s1]
     by_cases s2:st=2
     ·subst s2
      go_wp2_with fail
      go_region
      go_wp2_with fail
      go_roundw
      case rel=>exact⟨j+1,ah,bI,aD⟩
      case measure=>simp[intOf];omega
     ·have g2:(st==2)=false:=by simp[s2]
      go_wp2_with fail
      go_region
      go_wp2_with fail
      go_roundw
      case rel=>exact⟨j+1,ah,bI,aD⟩
      case measure=>simp[intOf];omega):P:=h
theorem afj{P:Prop}(h:P:=by
 clear Xg Sb
 subst hq
 go_upto_if 47 with(first|((with_reducible refine bO 36 ?_);(refine aN rfl 36 _ _ rfl x9.out (.agg (hC (.slice (some ⟨bp,op,none⟩) p.parts.length c1) (.slice a2 p.wins.length c2) (.slice a3 p.chans.length c3) iv p ⟨.slice (some ⟨b8,o8,none⟩) h8.seats.length yQ,Lx,OQ,rD,yP⟩ h8)) d_ (HV8.out) ?_ (_) (gJ 11 SB ()) ?_ ?_ ?_;(exact fK);(exact aG);(exact aG);(intro w9 Bp lg Lm nK;(have T9:=Lib.hid Bp);(have hm9:=HM8.out.bL HAB.out x9.out HK8.out iA aB aB aB lg);(have HM9:=Lib.hid hm9);(obtain⟨b9,o9,af6,akd,GZ⟩:=hm9.sv.at (kD hu8 hy8));(cases af6);(have afU:=GZ 15 (.int .i64 y.1.want) adR);(clear hm9 GZ Bp);(obtain⟨hcb,bn,hlb,hnb,hmb⟩:=aC.rules T9.out))))|fail)
 have KZ9:=Lib.hid (KZ8.out.grown lg aI)
 have HAF:=Lib.hid (show∀B,B<w0.heap.size→gG B ⟨.slice (some ⟨bs,os,none⟩) h.seats.length Ox,ss,av,rows,got⟩ h→gG B ⟨.slice (some ⟨b8,o8,none⟩) h8.seats.length yQ,Lx,OQ,rD,yP⟩ h8 from fun B hB ha=>Mc.out B ah (HMA.out B hB ha))
 have Uk:Below w.heap.size w w9:=Xv.trans (bq lg ah ah)
 have ajz:=lg.size
 clear hcb bn hlb hnb hmb afU SB
 have afw:=jL (.slice (some ⟨bp,op,none⟩) p.parts.length c1) (.slice a2 p.wins.length c2) (.slice a3 p.chans.length c3) iv p ⟨.slice (some ⟨b8,o8,none⟩) h8.seats.length yQ,Lx,OQ,rD,yP⟩ (h8)
 have Yq:hC0.size=11:=rfl
 go_wp2_with(first|((with_reducible refine bS 36 ?_);(refine aJ rfl 36 _ rfl (hC (.slice (some ⟨bp,op,none⟩) p.parts.length c1) (.slice a2 p.wins.length c2) (.slice a3 p.chans.length c3) iv p ⟨.slice (some ⟨b8,o8,none⟩) h8.seats.length yQ,Lx,OQ,rD,yP⟩ (h8)) d_ (HV8.out) T9.out ?_ ?_;(exact aG)))|((with_reducible refine bO 36 ?_);(refine aN rfl 36 _ _ rfl KZ9.out (.agg (hC (.slice (some ⟨bp,op,none⟩) p.parts.length c1) (.slice a2 p.wins.length c2) (.slice a3 p.chans.length c3) iv p ⟨.slice (some ⟨b8,o8,none⟩) h8.seats.length yQ,Lx,OQ,rD,yP⟩ (h8))) d_ (HV8.out) ?_ (_) (gJ 11 mY ()) ?_ ?_ ?_;(exact fK);(exact aG);(exact aG);(intro GR jD jT tq eP;(have kY:=Lib.hid jD))))|fail)
 have hfr:=MR.bL (R:=w.heap.size+1) (ks:=tO) (HM9.out) (HAF.out (w.heap.size+1) ah (HM.out.away ah)) KZ9.out rfl aB aB aB aB jT
 exact iP Tryz.results39 d_ HV8.out aF kY.out rfl ⟨⟨.slice (some ⟨b8,o8,none⟩) h8.seats.length yQ,Lx,OQ,rD,yP⟩,rfl,hfr,fun B hB h=>HAF.out B ah h,(Uk).trans (eP.mono ah)⟩):P:=h
theorem abl{P:Prop}(h:P:=by
 have jO:Below w2.heap.size w2 w3:=aD
 have fJ:=hbw2.trans (jO.mono hbw2.size)
 have K3:=Lib.hid (K2.out.below jO K2.out.lt)
 have WS:=Lib.hid (KY.out.below jO KY.out.lt)
 have hz3:=jO.size
 have hbi:=KI.out.rules
 obtain⟨hci,hfi,Eb,hni,hmi⟩:=hbi
 obtain⟨hc3,hf3,hl3,sU,ng⟩:=K3.out.rules
 have cP3:=(hc3 8).trans gP
 have cA3:=(hc3 a).trans gA
 have hly:=WS.out.lt
 have Xq:=WS.out.rules
 obtain⟨hcy,hfy,-,hny,hmy⟩:=Xq
 clear cA cB cP hb3 jO hc3 hcy K2 KY
 go_wp2_with(first|((with_reducible refine bS 119 ?_);(refine aJ rfl 119 _ rfl (dY c) iC (gQ c) K3.out ?_ ?_;(exact aG)))|((with_reducible refine bO 119 ?_);(refine aN rfl 119 _ _ rfl WS.out (jm c) iC (gQ c) ?_ _ (pQ _ _) ?_ ?_ ?_);(exact CZ);(exact mI);(exact mI);(intro w9 Bp lg Lm nK;(have Bz:=fJ.trans (Below.mono nK (Nat.le_add_right w.heap.size 1)));(have GZ:=Bp.rules.1);(rw[gK] at GZ)))|fail)
 exact bodyPost_ret (v:= .tuple #[jm c,.string m,.int .i64 2]) XY rfl ⟨rfl,Bz⟩):P:=h
theorem aeM{P:Prop}(h:P:=by
 have jO:Below w2.heap.size w2 w3:=aD
 have fJ:=hbw2.trans (jO.mono hbw2.size)
 have K3:=Lib.hid (K2.out.below jO K2.out.lt)
 have WS:=Lib.hid (KY.out.below jO KY.out.lt)
 have hz3:=jO.size
 have hbi:=KI.out.rules
 obtain⟨hci,hfi,Eb,hni,hmi⟩:=hbi
 obtain⟨hc3,hf3,hl3,sU,ng⟩:=K3.out.rules
 have cP3:=(hc3 8).trans gP
 have cA3:=(hc3 a).trans gA
 have hly:=WS.out.lt
 have Xq:=WS.out.rules
 obtain⟨hcy,hfy,-,hny,hmy⟩:=Xq
 clear cA cB cP hb3 jO hc3 hcy K2 KY
 have hne:¬a=8:=ah
 have hne':¬(8:Nat)=a:=ah
 go_wp2_with(first|((with_reducible refine bS 119 ?_);(generalize bN:World.setCell _ _ _=w5);(have K5:aC w5 w.heap.size (dY ((c.set a ra).set 8 ((pc+4)%4294967296))) 119:=adV);(generalize hC5:(((c.set a ra).set 8 ((pc+4)%4294967296)):List Int)=c5 at K5);(have K6:aC w5 (w.heap.size+1) (dY []) 119:=YL);(have hb5:Below w.heap.size w w5:=bM);(have HK5:=Lib.hid K5);(have Xe:=Lib.hid K6);(clear bN K5 K6 cP3 cA3);(refine aJ rfl 119 _ rfl (dY c5) iC (gQ c5) HK5.out ?_ ?_;(exact aG)))|((with_reducible refine bO 119 ?_);(refine aN rfl 119 _ _ rfl Xe.out (jm c5) iC (gQ c5) ?_ _ (pQ _ _) ?_ ?_ ?_);(exact CZ);(exact mI);(exact mI);(intro w9 Bp lg Lm nK;(have Bz:=hb5.trans (Below.mono nK (Nat.le_add_right w.heap.size 1)));(have GZ:=Bp.rules.1);(rw[gK] at GZ)))|fail)
 rw[hC5]
 exact bodyPost_ret (v:= .tuple #[jm c5,.string v,.int .i64 0]) XZ rfl ⟨rfl,Bz⟩):P:=h
theorem aeL{P:Prop}(h:P:=by
 have jO:Below w2.heap.size w2 w3:=aD
 have fJ:=hbw2.trans (jO.mono hbw2.size)
 have K3:=Lib.hid (K2.out.below jO K2.out.lt)
 have WS:=Lib.hid (KY.out.below jO KY.out.lt)
 have hz3:=jO.size
 have hbi:=KI.out.rules
 obtain⟨hci,hfi,Eb,hni,hmi⟩:=hbi
 obtain⟨hc3,hf3,hl3,sU,ng⟩:=K3.out.rules
 have cP3:=(hc3 8).trans gP
 have cA3:=(hc3 a).trans gA
 have hly:=WS.out.lt
 have Xq:=WS.out.rules
 obtain⟨hcy,hfy,-,hny,hmy⟩:=Xq
 clear cA cB cP hb3 jO hc3 hcy K2 KY
 have hne:¬a=8:=ah
 have hne':¬(8:Nat)=a:=ah
 go_wp2_with(first|((with_reducible refine bS 119 ?_);(generalize bN:World.setCell _ _ _=w5);(have K5:aC w5 w.heap.size (dY ((c.set a v).set 8 ((pc+4)%4294967296))) 119:=adV);(generalize hC5:(((c.set a v).set 8 ((pc+4)%4294967296)):List Int)=c5 at K5);(have K6:aC w5 (w.heap.size+1) (dY []) 119:=YL);(have hb5:Below w.heap.size w w5:=bM);(have HK5:=Lib.hid K5);(have Xe:=Lib.hid K6);(clear bN K5 K6 cP3 cA3);(refine aJ rfl 119 _ rfl (dY c5) iC (gQ c5) HK5.out ?_ ?_;(exact aG)))|((with_reducible refine bO 119 ?_);(refine aN rfl 119 _ _ rfl Xe.out (jm c5) iC (gQ c5) ?_ _ (pQ _ _) ?_ ?_ ?_);(exact CZ);(exact mI);(exact mI);(intro w9 Bp lg Lm nK;(have Bz:=hb5.trans (Below.mono nK (Nat.le_add_right w.heap.size 1)));(have GZ:=Bp.rules.1);(rw[gK] at GZ)))|fail)
 rw[hC5]
 exact bodyPost_ret (v:= .tuple #[jm c5,.string m,.int .i64 0]) XZ rfl ⟨rfl,Bz⟩):P:=h
theorem Ab{P:Prop}(h:P:=by
 subst hr
 go_enter Tryz.func200,Tryz.ntmps200
 go_wp2_with fail
 go_region
 go_wp2_with fail
 exact bodyPost_ret (v:= .tuple #[.agg #[.int .i64 0,.bool false],.bool false]) Fe rfl ⟨rfl,aD⟩):P:=h
theorem aeK{P:Prop}(h:P:=by
 subst hy
 clear W9
 ((try clear hcx hfx hlx hnx hmx);(have bx0:=LC.out);(obtain⟨hcx,hfx,hlx,hnx,hmx⟩:=aC.rules bx0);(have KX4:=Lib.hid bx0);(clear bx0))
 go_wp2_with fail
 with_reducible refine(HF3.out _ (Below.refl _ _)).mono ?_
 rintro en w4 ⟨rfl,hb4⟩
 have OA:=Lib.hid (LC.out.below hb4 hxr)
 have Bu:=Lib.hid (yN.out.below hb4 yN.out.lt)
 ((try clear hcb bn hlb hnb hmb);(have aW:=mM.out.below hb4);(obtain⟨hcb,bn,hlb,hnb,hmb⟩:=aC.rules aW.box);(have pU:=Lib.hid aW);(clear aW))
 clear hcx hfx hlx hnx hmx
 have hBb:w1.heap.size≠b:=ah
 have hBx:¬w.heap.size=w1.heap.size:=ah
 go_wp2_with(first|((with_reducible refine bO 126 ?_);(refine aN rfl 126 _ _ rfl Bu.out (Tab.je p4) Tab.aX (Ue) ?_ (Tab.dS p4) (Zi p p4) ?_ ?_ ?_;(exact fK);(exact aG);(exact aG);(intro w5 G5 hg5 GY hb5;(have Iy:=Lib.hid G5);(have KX6:=Lib.hid (OA.out.grown hg5 aR));(have Ho:=Lib.hid (pU.out.local OZ.out hBb Bu.out G5 hg5 HP4.out));(have hx6:=KX6.out);(have hc6:=hx6.rules.1);(clear G5 hx6))))|((with_reducible refine bS 126 ?_);(refine aJ rfl 126 _ rfl (Tab.dS p4) Tab.aX (Ue) Iy.out ?_ ?_;(exact aG)))|fail)
 with_reducible refine(HA.out _ _ Ho.out).mono ?_
 rintro en w7 ⟨rfl,⟨s7,kw7,afz⟩,vC⟩
 have aj4:=kV (aA zO.out (ay hb4 (some b))) hg5 ah
 go_wp2_with fail
 exact bodyPost_ret (v:= .bool true) P7 rfl ⟨rfl,⟨s7,kw7,HST.out.trans afz (by have:=hb4.size;omega)⟩,aA aj4 vC⟩):P:=h
theorem aeJ{P:Prop}(h:P:=by
 subst hr
 clear hw hsi hsb HR
 go_enter Tryz.func172,Tryz.ntmps172
 go_wp2_with fail
 ((generalize bN:World.alloc _ _=w0);(have KP:aC w0 (w.heap.size) (gu pid par st q) 126:=bA);(have KX:aC w0 (w.heap.size+1) (#[.int .u32 x1,.int .u32 m,.int .u32 xb,.int .u32 xc]) 124:=bA);(have hb0:Below w.heap.size w w0:=bM);(have hz0:w0.heap.size=w.heap.size+1+1:=bX);(clear bN);(have KP:=Lib.hid KP);(have KX:=Lib.hid KX))
 ((try clear hcb bn hlb hnb hmb);(have aW:=HW.out.below hb0);(obtain⟨hcb,bn,hlb,hnb,hmb⟩:=aC.rules aW.box);(have jV:=Lib.hid aW);(clear aW))
 ((try clear hcx hfx hlx hnx hmx);(have bx0:=KX.out);(obtain⟨hcx,hfx,hlx,hnx,hmx⟩:=aC.rules bx0);(have sV:=Lib.hid bx0);(clear bx0))
 go_region
 go_wp2_with fail
 exact bodyPost_ret (v:= .tuple #[.int .u32 0,.int .i64 7]) Fa rfl ⟨rfl,⟨s,HW.out.below aD,fun _ _ _ h=>h⟩,ay aD _⟩):P:=h
theorem vF{P:Prop}(h:P:=by
 rw[←iR]
 exact(aC.new1 _ _ _ aI).below hb1 cZ):P:=h
theorem Yk{P:Prop}(h:P:=by
 have hfr:=XE.out.kr.bL (R:=w.heap.size+1+1) (ks:=uZ) (BA _ ah (HR.out.away ah)) Hl.out rfl aB aB aB aB jT
 exact iP Tryz.results62 eF hv6 aF kY.out rfl ⟨s6,rfl,hfr,fun B hB h=>BA B ah h,tu.trans (eP.mono ah)⟩):P:=h
theorem aeI{P:Prop}(h:P:=by
 subst hy
 go_wp2_with fail
 with_reducible refine(hRM.out _ (Below.refl _ _)).mono ?_
 rintro en w15 ⟨v15,rfl,afD,aia⟩
 obtain⟨a15,m15,n15,rfl⟩:=afD.is
 ((try clear hcb bn hlb hnb hmb);(have aW:=agf.out.below aia);(obtain⟨hcb,bn,hlb,hnb,hmb⟩:=aC.rules aW.box);(have XC:=Lib.hid aW);(clear aW))
 have H15:=Lib.hid afD
 clear afD hcp hfp hlp hnp hmp
 go_wp2_with fail
 exact bodyPost_ret (v:= .tuple #[]) P8 rfl ⟨rfl,⟨_,XC.out.zP H15.out,HST.out _ _⟩,aA Uo (aA (ay aia (some b)) (aM _ _ _ _))⟩):P:=h
theorem Yh{P:Prop}(h:P:=by
 rw[hrk]
 refine⟨rfl,{s3 with Bx:=s.Bx,bs:=s.bs,Tr:=s.Tr,Se:=s.Se},⟨?_,{krA with Bx:=krB.Bx,Tr:=krB.Tr,Se:=krB.Se},hfa b ah HW.out.aw⟩,fun B hB _ h=>hfa B hB h,hfin⟩
 exact((T9.out.set 18 _).cast (Qf _ _ _ _)).cast (by rw[oP,oP,fM,fM];rfl)):P:=h
theorem aeG{P:Prop}(h:P:=by
 subst hy
 go_wp2_with(first|((with_reducible refine bS 126 ?_);(refine aJ rfl 126 _ rfl (Tab.dS p) Tab.aX (hpv) zM.out ?_ ?_;(exact aG)))|fail)
 with_reducible refine(HA.out 7 _ qg.out).mono ?_
 rintro en w3 ⟨rfl,hks,hg3⟩
 go_wp2_with fail
 exact bodyPost_ret (v:= .bool true) J7 rfl ⟨rfl,KS.from hks hbw2.size,aA (ay hbw2 (some b)) hg3⟩):P:=h
theorem aeE{P:Prop}(h:P:=by
 clear d1f
 go_enter Tryz.func52,Tryz.ntmps52
 go_upto_block 0 with fail
 (refine bH ?_;apply bR;(focus((apply vv (hid:=by decide));(iterate 2 (apply bJ (hid:=by decide)));go_wp2_with fail;exact⟨rfl,rfl,rfl⟩)))
 go_wp2_with fail
 refine dn ?_
 go_wp2_with fail
 exact bodyPost_end (v:= .tuple #[]) om rfl ⟨rfl,s,HW.out.below hd1,fun _ _ _ h=>h,ay hd1 _⟩):P:=h
theorem aeC{P:Prop}(h:P:=by
 have hfr:=MR.bL (R:=w.heap.size+1) (ks:=tO) HM6.out (HAF.out (w.heap.size+1) ah (HM.out.away ah)) Hl.out rfl aB aB aB aB jT
 exact iP Tryz.results15 d_ OD.out aF kY.out rfl ⟨s2,rfl,hfr,fun B hB h=>HAF.out B ah h,HB6.out.trans (eP.mono ah)⟩):P:=h
theorem aeB{P:Prop}(h:P:=by
 rw[hy]
 have hfr:=Br.out.kr.bL (R:=w.heap.size) (ks:=lu) (HR5.out _ ah) TQ.out rfl aB aB aB aB zW
 refine iP Tryz.results51 eG vR aF Ib.out rfl ⟨(s5),rfl,hfr,fun B hB=>HR5.out B ah,?_⟩
 exact jC.trans ((bq lg ah ah).trans pV)):P:=h
theorem EH{P:Prop}(h:P:=by
 repeat' split
 all_goals first|exact jq|exact Kl _):P:=h
theorem aeA{P:Prop}(h:P:=by
 clear hs4 hr4 hcd uF hld hnd hmd
 go_wp2_with fail
 go_roundw
 case rel=>
  exact⟨0+1,a4,m4,n4,ah,bI,vU.out.EJ H4.out (Pipe.qd G_.out _ _ _),EB.out,Xi.out.other _ _ aR,aA Et (aM _ _ _ _)⟩
 case measure=>simp[intOf]):P:=h
theorem aez{P:Prop}(h:P:=by
 clear hs4 hr4 hcd uF hld hnd hmd
 go_wp2_with fail
 go_roundw
 case rel=>
  exact⟨1+1,a4,m4,n4,ah,bI,vU.out.EJ H4.out (Pipe.qd G_.out _ _ _),EB.out,Xi.out.other _ _ aR,aA Et (aM _ _ _ _)⟩
 case measure=>simp[intOf]):P:=h
theorem aey{P:Prop}(h:P:=by
 clear hs4 hr4 hcd uF hld hnd hmd
 go_wp2_with fail
 go_roundw
 case rel=>
  exact⟨2+1,a4,m4,n4,ah,bI,vU.out.EJ H4.out (Pipe.qd G_.out _ _ _),EB.out,Xi.out.other _ _ aR,aA Et (aM _ _ _ _)⟩
 case measure=>simp[intOf]):P:=h
theorem aex{P:Prop}(h:P:=by
 clear hs4 hr4 hcd uF hld hnd hmd
 go_wp2_with fail
 go_roundw
 case rel=>
  exact⟨3+1,a4,m4,n4,ah,bI,vU.out.EJ H4.out (Pipe.qd G_.out _ _ _),EB.out,Xi.out.other _ _ aR,aA Et (aM _ _ _ _)⟩
 case measure=>simp[intOf]):P:=h
theorem Ye{P:Prop}(h:P:=by
 have h3:=z8.out B ah
 exact⟨h3.1,h3.2.1,h3.2.2.1,h3.2.2.2.1,⟨h3.2.2.2.2.1.1,h.2.2.2.2.1.2.1,h3.2.2.2.2.1.2.2⟩,h3.2.2.2.2.2⟩):P:=h
theorem aes{P:Prop}(h:P:=by
 go_wp2_with fail
 with_reducible refine(HEN.out _ _ pU.out).mono ?_
 rintro en w6 ⟨rfl,hks,xR⟩
 subst hy
 go_wp2_with fail
 exact bodyPost_ret (v:= .tuple #[]) E_ rfl ⟨rfl,KS.from hks GY,aA HG5.out xR⟩):P:=h
theorem aer{P:Prop}(h:P:=by
 rw[if_neg aI] at hr
 subst hr
 go_wp2_with fail
 exact bodyPost_ret (v:= .tuple #[.int .u32 0,.int .i64 1]) J5 rfl ⟨rfl,⟨s,HW.out.below aD,fun _ _ _ h=>h⟩,ay aD _⟩):P:=h
theorem aep{P:Prop}(h:P:=by
 rw[if_neg aI] at hr
 subst hr
 go_wp2_with fail
 exact bodyPost_ret (v:= .tuple #[.int .u32 0,.int .i64 1]) J4 rfl ⟨rfl,⟨s,HW.out.below aD,fun _ _ _ h=>h⟩,ay aD _⟩):P:=h
theorem aeo{P:Prop}(h:P:=by
 apply List.ext_getElem?
 intro j
 rw[List.getElem?_take]
 split
 ·rename_i hj
  rw[List.getElem?_drop,hk2 j _ (List.getElem?_eq_getElem hj),List.getElem?_eq_getElem hj]
 ·rename_i hj
  rw[List.getElem?_eq_none ah]):P:=h
theorem aem{P:Prop}(h:P:=by
 exact h.kr.Bx.sl.bC hg (kF hk hb h.kr.Bx.sl [5,1] (fun x hx=>by
  obtain⟨i,u,y,hu,hy,rfl⟩:=aa3 hx
  show[kind u,1]=[5,1]
  rw[jr (h.kr.Bx.el i u y hu hy)]) aB)):P:=h
theorem ael{P:Prop}(h:P:=by
 intro i u x hu hx
 exact(h.kr.Bx.el i u x hu hx).bC hg (kF hk hb (h.kr.Bx.el i u x hu hx) [3,4] (fun x hx=>mH) aB)):P:=h
theorem aek{P:Prop}(h:P:=by
 go_enter Tryz.func84,Tryz.ntmps84
 go_wp2_with fail
 exact bodyPost_ret (v:= .tuple #[.string ⟨#[]⟩,.int .i64 1]) PZ rfl ⟨rfl,aD⟩):P:=h
theorem X8{P:Prop}(h:P:=by
 go_enter Tryz.func11,Tryz.ntmps11
 go_wp2_with fail
 go_ret
 exact⟨rfl,Below.refl _ _⟩):P:=h
theorem aeh{P:Prop}(h:P:=by
 obtain rfl|rfl|rfl|rfl|rfl|rfl|rfl|rfl|rfl:i=0∨i=1∨i=2∨i=3∨i=4∨i=5∨i=6∨i=7∨i=8:=by omega
 all_goals rfl):P:=h
theorem aeg{P:Prop}(h:P:=by
 rw[←hx,List.getElem?_map] at hq
 obtain⟨c,hc1,hc2⟩:=Option.map_eq_some_iff.1 hq
 rw[←hk,List.getElem?_map,hcell j c hc1,Option.map_some,hc2]):P:=h
theorem aef{P:Prop}(h:P:=by
 exact⟨i+1,s',ah,bI,by rw[hs];exact vU.out,by rw[hs];exact HS.out,aA hgw (ay Ew (some b)),r_.out⟩):P:=h
theorem Mf{P:Prop}(h:P:=by
 exact h.mono ah ah ah):P:=h
theorem aea{P:Prop}(h:P:=by
 exact h.kr.Tr.bC hg (kF hk hb h.kr.Tr [1,2,2,3] (fun x hx=>mH) aB)):P:=h
theorem ad_{P:Prop}(h:P:=by
 exact h.kr.Se.bC hg (kF hk hb h.kr.Se [1,4] (fun x hx=>mH) aB)):P:=h
theorem ad8{P:Prop}(h:P:=by
 exact h.kr.S.bC hg (kF hk hb h.kr.S [3,1] (fun x hx=>mH) aB)):P:=h
theorem ad7{P:Prop}(h:P:=by
 simp only[wfi,Lit.wf,IntKind.min,IntKind.max,IntKind.bits,IntKind.signed,Bool.and_eq_true,decide_eq_true_eq]
 simp;omega):P:=h
theorem adZ{P:Prop}(h:P:=by
 have h2:=List.all_eq_true.1 hno off (List.mem_range.2 ho)
 simp only[decide_eq_true_eq] at h2
 exact h2 h1):P:=h
theorem adY{P:Prop}(h:P:=by
 rw[List.drop_eq_nil_of_le (by rw[Array.length_toList,Tab.jd];decide)]
 simp[Tab.je,Value.cells]):P:=h
theorem Y7{P:Prop}(h:P:=by
 rw[hs]
 exact fun B hB hne h=>⟨HR6.out B ah (abI.out B hB hne h).1,(abI.out B hB hne h).2⟩):P:=h
theorem Y2{P:Prop}(h:P:=by
 subst hij
 rw[if_pos rfl] at h1 h2
 split at h1<;>cases h1
 split at h2<;>cases h2
 exact hk):P:=h
theorem O1{P:Prop}(h:P:=by((intro W hW);(have hcb:=eu hW hlb hcb);(have hcr:=eu hW Xr hcr);(have hcs:=eu hW hls hcs);(have hcm:=eu hW hlm hcm);go_simp;(all_goals with_reducible rfl))):P:=h
theorem ahv{P:Prop}(h:P:=by first|(simp only[bE,dh];omega)|(have hx5:=Below.size ‹Below w2.drew.heap.size w2.drew w5›;simp only[bE,dh] at hx5;omega)):P:=h
theorem abk{P:Prop}(h:P:=by((intro W hW);(have hcb:=eu hW hlb hcb);(have hcr:=eu hW Xr hcr);(have hcm:=eu hW hlm hcm);go_simp;(all_goals with_reducible rfl))):P:=h
theorem Ua{P:Prop}(h:P:=by((intro W hW);(have hcb:=eu hW hlb hcb);(have hcd:=eu hW hld hcd);(have hcq:=eu hW hlq hcq);go_simp;(all_goals with_reducible rfl))):P:=h
theorem abj{P:Prop}(h:P:=by((intro W hW);(have hcb:=eu hW hlb hcb);(have hcx:=eu hW hlx hcx);(have hcp:=eu hW hlp hcp);go_simp;(all_goals with_reducible rfl))):P:=h
theorem abh{P:Prop}(h:P:=by((intro W hW);(have hcb:=eu hW hlb hcb);(have hcp:=eu hW hlp hcp);(have hcx:=eu hW hlx hcx);go_simp;(all_goals with_reducible rfl))):P:=h
theorem abg{P:Prop}(h:P:=by((intro W hW);(have hcb:=eu hW hlb hcb);(have hca:=eu hW hla hca);(have hct:=eu hW hlt hct);go_simp;(all_goals with_reducible rfl))):P:=h
theorem afh{P:Prop}(h:P:=by((intro W hW);(have hcb:=eu hW hlb hcb);(have hcp:=eu hW hlp hcp);(have hcd:=eu hW hld hcd);go_simp;(all_goals with_reducible rfl))):P:=h
theorem afg{P:Prop}(h:P:=by((intro W hW);(have hcb:=eu hW hlb hcb);(have hcd:=eu hW hld hcd);(have hcx:=eu hW hlx hcx);go_simp;(all_goals with_reducible rfl))):P:=h
theorem aff{P:Prop}(h:P:=by((intro W hW);(have hcb:=eu hW hlb hcb);(have hcy:=eu hW hly hcy);(have hcx:=eu hW hlx hcx);go_simp;(all_goals with_reducible rfl))):P:=h
theorem Sn{P:Prop}(h:P:=by have h9:=ho3.fP c hc;first|(have h8:=Below.size ‹Below w0.heap.size w0 w5›;omega)|(have h8:=Below.size ‹Below w0.heap.size w0 w2›;omega)):P:=h
theorem X5{P:Prop}(h:P:=by have h9:=ho2.fP c hc;first|(have h8:=Below.size ‹Below w0.heap.size w0 w5›;omega)|(have h8:=Below.size ‹Below w0.heap.size w0 w1›;omega)):P:=h
theorem adV{P:Prop}(h:P:=by rw[←bN];exact((K3.out.set a _).set 8 _).cast (by rw[ug hcl (by omega),ug (by rw[List.length_set];exact hcl) (by omega)])):P:=h
theorem adT{P:Prop}(h:P:=by have h9:=ho1.fP c hc;first|(have h8:=Below.size ‹Below w0.heap.size w0 w5›;omega)|(simp only[bE] at h9;omega)):P:=h
theorem nM{P:Prop}(h:P:=by((intro W hW);(have hcb:=eu hW hlb hcb);(have hcp:=eu hW hlp hcp);go_simp;(all_goals with_reducible rfl))):P:=h
theorem oN{P:Prop}(h:P:=by((intro W hW);(have hcb:=eu hW hlb hcb);(have hcd:=eu hW hld hcd);go_simp;(all_goals with_reducible rfl))):P:=h
theorem rA{P:Prop}(h:P:=by((intro W hW);(have hcb:=eu hW hlb hcb);(have hcl:=eu hW hll hcl);go_simp;(all_goals with_reducible rfl))):P:=h
theorem yt{P:Prop}(h:P:=by((intro W hW);(have hcb:=eu hW hlb hcb);(have hcx:=eu hW hlx hcx);go_simp;(all_goals with_reducible rfl))):P:=h
theorem EG{P:Prop}(h:P:=by((intro W hW);(have hcb:=eu hW hlb hcb);(have hci:=eu hW Eb hci);go_simp;(all_goals with_reducible rfl))):P:=h
theorem adS{P:Prop}(h:P:=by((intro W hW);(have hcb:=eu hW hlb hcb);(have hcf:=eu hW hlf hcf);go_simp;(all_goals with_reducible rfl))):P:=h
theorem adR{P:Prop}(h:P:=by rw[show(R5 u8 y8).cells=xC u8 y8.1 (sx y8.2.1 y8.2.2) from rfl,Array.getElem?_toList,wM,hyw]):P:=h
theorem XZ{P:Prop}(h:P:=by rw[show jm c5=.agg (dY c5) from rfl,gK c5];simp[results,Tryz.results113,go_sem,GZ]):P:=h
theorem adQ{P:Prop}(h:P:=by rw[show jm c5=.agg (dY c5) from rfl,gK c5];simp[results,Tryz.results145,go_sem,hc7]):P:=h
theorem adP{P:Prop}(h:P:=by rw[show(R5 v1 x).cells=xC v1 x.1 (sx x.2.1 x.2.2) from rfl,Array.getElem?_toList,tK];rfl):P:=h
theorem XY{P:Prop}(h:P:=by rw[show jm c=.agg (dY c) from rfl,gK c];simp[results,Tryz.results113,go_sem,GZ]):P:=h
theorem adO{P:Prop}(h:P:=by rw[←bN];exact HW4.out.grown ((HW4.out.box.set 17 _).cast (yS _ _ _ _)) (aM _ _ _ _)):P:=h
theorem adN{P:Prop}(h:P:=by first|(first|exact DF fV hs3 _ _|exact DF fV (hs3.below hd5) _ _)|fail):P:=h
theorem adM{P:Prop}(h:P:=by first|(first|exact Gu fV hs3 _ _|exact Gu fV (hs3.below hd5) _ _)|fail):P:=h
theorem bK{P:Prop}(h:P:=by rw[List.getD_eq_getElem?_getD,List.getElem?_eq_getElem (by omega)];exact List.getElem_mem _):P:=h
theorem adK{P:Prop}(h:P:=by rw[show(R5 v2 y).cells=xC v2 y.1 (sx y.2.1 y.2.2) from rfl,Array.getElem?_toList,wz]):P:=h
theorem adJ{P:Prop}(h:P:=by rw[show(R5 v1 x).cells=xC v1 x.1 (sx x.2.1 x.2.2) from rfl,Array.getElem?_toList,wz]):P:=h
theorem adI{P:Prop}(h:P:=by((intro W hW);(have hcb:=eu hW ahQ hcb);go_simp;(all_goals with_reducible rfl))):P:=h
theorem adH{P:Prop}(h:P:=by first|(first|with_reducible rfl|rfl|(trace "2";simp[Act.eval,Act.put]))|fail):P:=h
theorem adG{P:Prop}(h:P:=by first|(first|with_reducible rfl|rfl|(trace "3";simp[Act.eval,Act.put]))|fail):P:=h
theorem wu{P:Prop}(h:P:=by((intro W hW);(have hcb:=eu hW hlb hcb);go_simp;(all_goals with_reducible rfl))):P:=h
theorem Sm{P:Prop}(h:P:=by simp only[bE] at*;have:=hbm.size;first|omega|(have:=hbb.size;omega)):P:=h
theorem adF{P:Prop}(h:P:=by((intro W hW);(have hcx:=eu hW hlx hcx);go_simp;(all_goals with_reducible rfl))):P:=h
theorem XV{P:Prop}(h:P:=by have:=Below.size ‹Below w2.heap.size w2 w2.drew›;simp only[bE] at*;omega):P:=h
theorem rz{P:Prop}(h:P:=by((intro W hW);((have hcl:=hW.rules.1));go_simp;(all_goals with_reducible rfl))):P:=h
theorem adE{P:Prop}(h:P:=by first|exact Nat.le_refl _|exact Below.size ‹Below oW.heap.size oW oW.drew›):P:=h
theorem adD{P:Prop}(h:P:=by intro v hv;simp at hv;rcases hv with rfl|rfl|rfl|rfl|rfl|rfl<;>rfl):P:=h
theorem IC{P:Prop}(h:P:=by first|exact Nat.le_refl _|exact Below.size ‹Below w2.heap.size w2 w2.drew›):P:=h
theorem Sk{P:Prop}(h:P:=by first|exact Nat.le_refl _|exact Below.size ‹Below w0.heap.size w0 w0.drew›):P:=h
theorem adB{P:Prop}(h:P:=by have h1:=hd8.size;have h2:=nK.size;simp only[bE] at h1;omega):P:=h
theorem adA{P:Prop}(h:P:=by first|exact Nat.le_refl _|exact Below.size ‹Below oW.heap.size oW xP›):P:=h
theorem adz{P:Prop}(h:P:=by rw[show(i:Int)+1-1=i by omega];exact IntWalk.i64_in _ (by omega)):P:=h
theorem ady{P:Prop}(h:P:=by first|exact Nat.le_refl _|exact Below.size ‹Below w0.heap.size w0 xP›):P:=h
theorem adx{P:Prop}(h:P:=by unfold oV;rw[Int.toNat_natCast,List.getD_eq_getElem?_getD,hbb];rfl):P:=h
theorem Si{P:Prop}(h:P:=by first|exact Nat.le_refl _|exact Below.size ‹Below w2.heap.size w2 w4›):P:=h
theorem adw{P:Prop}(h:P:=by first|exact Nat.le_refl _|exact Below.size ‹Below w2.heap.size w2 w3›):P:=h
theorem adv{P:Prop}(h:P:=by first|exact Nat.le_refl _|exact Below.size ‹Below w0.heap.size w0 w3›):P:=h
theorem adu{P:Prop}(h:P:=by unfold sO;rw[Int.toNat_natCast,List.getD_eq_getElem?_getD,hc];rfl):P:=h
theorem adt{P:Prop}(h:P:=by rw[←bN,HE2.out];exact(KP7.out.set 12 _).cast (Ky _ _ _ _ _)):P:=h
theorem ads{P:Prop}(h:P:=by rw[show(f_ p dZ).seats.length=p.parts.length from hsl1];simp):P:=h
theorem XT{P:Prop}(h:P:=by rw[←bN];exact aA (aM _ _ _ _) (aM _ _ _ _)):P:=h
theorem adr{P:Prop}(h:P:=by have e1:=jT.size;have e2:=hbm.size;have e3:=hbb.size;omega):P:=h
theorem Sg{P:Prop}(h:P:=by intro c hc;simp at hc;rcases hc with rfl|rfl|rfl|rfl<;>rfl):P:=h
theorem CZ{P:Prop}(h:P:=by first|(first|omega|(simp only[b_];decide))|fail):P:=h
theorem fK{P:Prop}(h:P:=by first|(first|(solve|simp)|(simp;omega)|omega)|fail):P:=h
theorem Me{P:Prop}(h:P:=by unfold IntKind.wrap;simp[IntKind.signed,IntKind.bits];omega):P:=h
theorem CX{P:Prop}(h:P:=by have:=hb3.size;simp only[bE,dh];omega):P:=h
theorem XQ{P:Prop}(h:P:=by have:=hb5.size;simp only[bE] at this;exact this):P:=h
theorem adn{P:Prop}(h:P:=by have:=hd8.size;simp only[bE] at this;exact this):P:=h
theorem wh{P:Prop}(h:P:=by rw[←bN];exact(Below.refl _ _).alloc (Nat.le_refl _) _):P:=h
theorem Sd{P:Prop}(h:P:=by simp only[Value.ownBlock,Option.some.injEq] at hb;omega):P:=h
theorem XP{P:Prop}(h:P:=by unfold partAt;rw[List.getD_eq_getElem?_getD,hpt];rfl):P:=h
theorem adj{P:Prop}(h:P:=by have:=EC.out.fP c hc;have:=oK.size;omega):P:=h
theorem adi{P:Prop}(h:P:=by first|omega|(simp only[World.size_alloc];omega)):P:=h
theorem adg{P:Prop}(h:P:=by have:=Below.size ‹Below wr.heap.size wr w7›;omega):P:=h
theorem adf{P:Prop}(h:P:=by have:=h.Ze.P.len;rw[List.length_take];omega):P:=h
theorem XO{P:Prop}(h:P:=by simp[results,Tryz.results206,go_sem,afS,afR]):P:=h
theorem ac_{P:Prop}(h:P:=by rw[show ss1.length=_ from Ug.nX];exact abC):P:=h
theorem YZ{P:Prop}(h:P:=by rw[show ss2.length=_ from Uf.nX];exact hjl):P:=h
theorem bF{P:Prop}(h:P:=by first|assumption|exact absurd ‹_› (by decide)):P:=h
theorem mI{P:Prop}(h:P:=by first|(first|with_reducible rfl|rfl)|fail):P:=h
theorem YX{P:Prop}(h:P:=by simp[results,Tryz.results118,go_sem,hc2,hc3]):P:=h
theorem J9{P:Prop}(h:P:=by first|exact OG.out|exact OG.out.below hd8):P:=h
theorem Qd{P:Prop}(h:P:=by first|exact fJ.alloc fJ.size _|exact bl):P:=h
theorem jP{P:Prop}(h:P:=by(try have k2:=(Lib.hid hb1).out);exact bx):P:=h
theorem kP{P:Prop}(h:P:=by(try have k1:=(Lib.hid hb1).out);exact bx):P:=h
theorem kN{P:Prop}(h:P:=by(try have k3:=(Lib.hid hb1).out);exact bx):P:=h
theorem mH{P:Prop}(h:P:=by obtain⟨y,_,rfl⟩:=List.mem_map.1 hx;rfl):P:=h
theorem kM{P:Prop}(h:P:=by rw[Int.tmod_eq_emod_of_nonneg hB1];omega):P:=h
theorem YM{P:Prop}(h:P:=by intro h;rw[h] at hNN;simp at hNN;omega):P:=h
theorem YL{P:Prop}(h:P:=by(have kk:=WS.out);rw[←bN];exact bx):P:=h
theorem YK{P:Prop}(h:P:=by rw[←HH2.out];exact ahM.mono (by omega)):P:=h
theorem Fj{P:Prop}(h:P:=by(have kk:=K3.out);rw[←bN];exact bx):P:=h
theorem Qb{P:Prop}(h:P:=by(have kk:=K4.out);rw[←bN];exact bx):P:=h
theorem Qa{P:Prop}(h:P:=by have:=hb0.size;have:=hg3.size;omega):P:=h
theorem mG{P:Prop}(h:P:=by simp[results,Tryz.results114,go_sem]):P:=h
theorem rJ{P:Prop}(h:P:=by simp[results,Tryz.results139,go_sem]):P:=h
theorem Fe{P:Prop}(h:P:=by simp[results,Tryz.results200,go_sem]):P:=h
theorem Fb{P:Prop}(h:P:=by simp[results,Tryz.results171,go_sem]):P:=h
theorem Fa{P:Prop}(h:P:=by simp[results,Tryz.results172,go_sem]):P:=h
theorem J7{P:Prop}(h:P:=by simp[results,Tryz.results149,go_sem]):P:=h
theorem J6{P:Prop}(h:P:=by simp[results,Tryz.results167,go_sem]):P:=h
theorem J5{P:Prop}(h:P:=by simp[results,Tryz.results168,go_sem]):P:=h
theorem J4{P:Prop}(h:P:=by simp[results,Tryz.results169,go_sem]):P:=h
theorem P8{P:Prop}(h:P:=by simp[results,Tryz.results116,go_sem]):P:=h
theorem P7{P:Prop}(h:P:=by simp[results,Tryz.results111,go_sem]):P:=h
theorem P5{P:Prop}(h:P:=by simp[results,Tryz.results163,go_sem]):P:=h
theorem YF{P:Prop}(h:P:=by simp[results,Tryz.results140,go_sem]):P:=h
theorem YE{P:Prop}(h:P:=by simp[results,Tryz.results142,go_sem]):P:=h
theorem YD{P:Prop}(h:P:=by simp[results,Tryz.results201,go_sem]):P:=h
theorem YC{P:Prop}(h:P:=by simp[results,Tryz.results204,go_sem]):P:=h
theorem YB{P:Prop}(h:P:=by simp[results,Tryz.results144,go_sem]):P:=h
theorem YA{P:Prop}(h:P:=by simp[results,Tryz.results143,go_sem]):P:=h
theorem Yz{P:Prop}(h:P:=by simp[results,Tryz.results170,go_sem]):P:=h
theorem Yy{P:Prop}(h:P:=by simp[results,Tryz.results118,go_sem]):P:=h
theorem om{P:Prop}(h:P:=by simp[results,Tryz.results52,go_sem]):P:=h
theorem wL{P:Prop}(h:P:=by rw[jW];show 17+6<26;decide):P:=h
theorem E_{P:Prop}(h:P:=by simp[results,Tryz.results91,go_sem]):P:=h
theorem J3{P:Prop}(h:P:=by show w.heap.size≤w1.heap.size;omega):P:=h
theorem PZ{P:Prop}(h:P:=by simp[results,Tryz.results84,go_sem]):P:=h
theorem PY{P:Prop}(h:P:=by simp[results,Tryz.results74,go_sem]):P:=h
theorem nD{P:Prop}(h:P:=by rw[jW];show _≤17+6;decide):P:=h
theorem nC{P:Prop}(h:P:=by rw[jW];show _<17+6;decide):P:=h
theorem nA{P:Prop}(h:P:=by rw[←bN];exact aM _ _ _ _):P:=h
theorem PV{P:Prop}(h:P:=by simp only[List.length_cons];omega):P:=h
theorem PU{P:Prop}(h:P:=by simp[Value.ownBlock] at hc;omega):P:=h
theorem PN{P:Prop}(h:P:=by rw[←bN];exact aC.new _ _ _):P:=h
theorem BM{P:Prop}(h:P:=by simp only[bE];omega):P:=h
theorem BL{P:Prop}(h:P:=by rw[uj hbn];omega):P:=h
theorem PK{P:Prop}(h:P:=by rw[Tab.jd];omega):P:=h
theorem PG{P:Prop}(h:P:=by rw[hr.nX];exact hwl):P:=h
theorem bA{P:Prop}(h:P:=by rw[←bN];exact bx):P:=h
theorem bM{P:Prop}(h:P:=by rw[←bN];exact bl):P:=h
theorem EY{P:Prop}(h:P:=by intro x hx;cases hx):P:=h
theorem JR{P:Prop}(h:P:=by rw[F4];omega):P:=h
theorem JQ{P:Prop}(h:P:=by rw[F3];omega):P:=h
theorem JO{P:Prop}(h:P:=by have:=hk.P;omega):P:=h
theorem PD{P:Prop}(h:P:=by rw[jX];omega):P:=h
theorem Pz{P:Prop}(h:P:=by have:=hk.L;omega):P:=h
theorem Py{P:Prop}(h:P:=by simpa using Bt.out):P:=h
theorem tC{P:Prop}(h:P:=by rw[fM,fM]):P:=h
theorem uO{P:Prop}(h:P:=by rw[jW];rfl):P:=h
theorem bX{P:Prop}(h:P:=by rw[←bN];simp):P:=h
theorem JK{P:Prop}(h:P:=by simp;try omega):P:=h
theorem oh{P:Prop}(h:P:=by simp[hs]):P:=h
theorem rG{P:Prop}(h:P:=by simp[h2]):P:=h
theorem BG{P:Prop}(h:P:=by simp[h4]):P:=h
theorem wH{P:Prop}(h:P:=by simp[g]):P:=h
