/- Part 36 of 50 of the proof of topWindows_holds. Conditions: see each. -/
import Derived.Test.YtgmodehldmahiaaGreatDoorW14
import Derived.Test.YtgmodehldmahiaaGreatDoorW25
import Derived.Test.YtgmodehldmahiaaGreatDoorW35
set_option linter.unusedVariables false
set_option linter.unusedSimpArgs false
set_option maxRecDepth 8192
set_option maxHeartbeats 40000000
section
namespace Go.Proofs.YtgmodehldmahiaaGreatDoor
open Go Go.RowKit Go.Tm
def rP(c:bf.Ch)(ms:List Ms)(lost now:Int)(body:ByteArray):List Ms×Int×Int:=
 if c.2.2.2.1<body.size then(ms,lost,4) else if c.1=1 then([(now,body)],lost,0) else if ms.length<c.2.2.2.2 then(ms++[(now,body)],lost,0) else(ms,wrap64 (lost+1),0)
theorem agA:∃i,TyM Tryz.prog 138 2 true i (.agg #[.int .u64 0,.string ⟨#[]⟩]) 24 91:=by
 have h:(Tryz.prog.info? 138).map (fun i=>(i.zero,i.size,i.bytes))=some (some (.agg #[.int .u64 0,.string ⟨#[]⟩]),2,24):=aj
 obtain⟨i,hi,hz,hs,hb⟩:=info_parts h
 exact⟨i,Sv,Tryz.underlying91,hi,hz,hs,hb,rfl⟩
theorem aad(c:bf.Ch)(u:Value)(ms:List Ms)(lost now:Int)(body:ByteArray)(w:World)(hu:Sl w true 2 u (ms.map Bo))(hms:ms.length≤1000000000)(CU:body.size≤9223372036854775807):
  Calls Tryz.prog 118 #[bf.uI c,.agg #[u,.int .i64 lost],.int .u64 now,.string body] w fun en w'=>∃u',en=.returned (.tuple #[.agg #[u',.int .i64 (rP c ms lost now body).2.1],.int .i64 (rP c ms lost now body).2.2])∧Sl w' true 2 u' ((rP c ms lost now body).1.map Bo)∧Below w.heap.size w w':=by
 have HU:=Lib.hid hu
 obtain⟨r,hr⟩:∃r,r=rP c ms lost now body:=⟨_,rfl⟩
 rw[←hr]
 unfold rP at hr
 have HC:=Sl.um (m:=ms.length) Sv Tryz.underlying91 hu (ms.length:Int) rfl aI
 obtain⟨kd,fr,tt,sz,dp⟩:=c
 dsimp only at hr
 obtain⟨i0,hM⟩:=agA
 obtain⟨a,cap,rfl,hl⟩:=hu.shape
 rw[Aq] at hl HU HC⊢
 by_cases h1:sz<body.size
 ·rw[if_pos h1] at hr
  subst hr
  clear hu HC
  go_enter Tryz.func118,Tryz.ntmps118
  go_wp2_with fail
  exact bodyPost_ret (v:= .tuple #[.agg #[.slice a ms.length cap,.int .i64 lost],.int .i64 4]) Yy rfl ⟨_,rfl,HU.out.below aD,aD⟩
 ·rw[if_neg h1] at hr
  by_cases h2:kd=1
  ·subst h2
   rw[if_pos rfl] at hr
   subst hr
   clear hu HC
   go_enter Tryz.func118,Tryz.ntmps118
   go_wp2_with(first|((with_reducible refine SF 91 ?_);(refine yH rfl _ rfl hM aB (Bo (now,body)) ?_ (FC _) ?_;(exact aG)))|((with_reducible refine Qy ?_);(refine wY rfl rfl hM none [] ?_ ?_ (w.heap.size+1+1+1) (Bo (now,body)) (Sl.qE (FC _) aI) ?_ ?_ ?_ ?_;(exact aG);(focus(exact Sl.nil _ _ _));(exact aG);(focus(decide));(focus(decide));(intro g9 n9 w9 vN nK;(have b2:aC w9 (w.heap.size+1) #[.slice none 0 0,.int .i64 lost] 93:=vE);(obtain⟨hc2,hf2,hl2,hn2,hm2⟩:=b2.rules);(have K2:=Lib.hid b2);(clear b2);(have b3:aC w9 (w.heap.size+1+1) #[.slice none 0 0,.int .i64 0] 93:=z_);(obtain⟨hc3,hf3,hl3,sU,ng⟩:=b3.rules);(have K3:=Lib.hid b3);(clear b3);(have Uk:Below w.heap.size w w9:=aD);(have Bt:=Lib.hid vN.sl);(have lg:=vN.fP g9 rfl);(simp only[World.size_alloc,World.size_setCell,bE] at lg);(clear vN nK))))|fail)
   exact bodyPost_ret (v:= .tuple #[.agg #[.slice (some ⟨g9,0,none⟩) 1 n9,.int .i64 lost],.int .i64 0]) YX rfl ⟨_,rfl,by
    refine Sl.setOther (Sl.setOther (Sl.setOther ?_ ?_ _ _) ?_ _ _) ?_ _ _
    ·exact Bt.out
    all_goals(right;intro b hb;simp only[Value.ownBlock,Option.some.injEq] at hb;omega),aD⟩
  ·rw[if_neg h2] at hr
   have ek:(kd==1)=false:=rG
   by_cases h3:ms.length<dp
   ·rw[if_pos h3] at hr
    subst hr
    obtain⟨ao,hrun,hsl⟩:=HC
    rw[List.take_of_length_le aI] at hsl
    have HS:=Lib.hid hsl
    clear hu hsl
    go_enter Tryz.func118,Tryz.ntmps118
    go_wp2_with(first|((with_reducible refine SF 91 ?_);(refine yH rfl _ rfl hM aB (Bo (now,body)) ?_ (FC _) ?_;(exact aG)))|((with_reducible refine Qy ?_);(refine wY rfl rfl hM ao (ms.map Bo) ?_ ?_ (w.heap.size+1+1+1) (Bo (now,body)) (Sl.qE (FC _) aI) ?_ ?_ ?_ ?_;(exact aG);(focus((try rw[Aq]);exact HS.out.below aD));(exact aG);(focus(simp[maxLen];omega));(focus(simp;omega));(intro g9 n9 w9 vN nK;(have b2:aC w9 (w.heap.size+1) #[.slice a ms.length cap,.int .i64 lost] 93:=vE);(obtain⟨hc2,hf2,hl2,hn2,hm2⟩:=b2.rules);(have K2:=Lib.hid b2);(clear b2);(have b3:aC w9 (w.heap.size+1+1) #[.slice none 0 0,.int .i64 0] 93:=z_);(obtain⟨hc3,hf3,hl3,sU,ng⟩:=b3.rules);(have K3:=Lib.hid b3);(clear b3);(have Uk:Below w.heap.size w w9:=aD);(have Bt:=Lib.hid vN.sl);(have lg:=vN.fP g9 rfl);(simp only[World.size_alloc,World.size_setCell,bE] at lg);(clear vN nK))))|fail)
    exact bodyPost_ret (v:= .tuple #[.agg #[.slice (some ⟨g9,0,none⟩) (ms.length+1) n9,.int .i64 lost],.int .i64 0]) YX rfl ⟨_,rfl,by
    refine Sl.setOther (Sl.setOther (Sl.setOther ?_ ?_ _ _) ?_ _ _) ?_ _ _
    ·simpa using Bt.out
    all_goals(right;intro b hb;simp only[Value.ownBlock,Option.some.injEq] at hb;omega),aD⟩
   ·rw[if_neg h3] at hr
    subst hr
    clear hu HC
    go_enter Tryz.func118,Tryz.ntmps118
    go_wp2_with fail
    exact bodyPost_ret (v:= .tuple #[.agg #[.slice a ms.length cap,.int .i64 (wrap64 (lost+1))],.int .i64 0]) Yy rfl ⟨_,rfl,HU.out.below aD,aD⟩
end Go.Proofs.YtgmodehldmahiaaGreatDoor
end
section
namespace Go.Proofs.YtgmodehldmahiaaGreatDoor
open Go Go.RowKit Go.Tm
attribute [local go_sem] fB fA fu dR dA dQ dP dO dN dM dL dK dJ dI dH dG dF iq ig h_ g_ gZ gY gX gN gW gV fF fE fD fC eY eX eU
noncomputable def ji(k:Kn)(n:Int)(body:ByteArray)(now:Int):Kn:=
 if n<0∨(k.ins.length:Int)≤n∨(k.bx.length:Int)≤n then k
 else{k with bx:=k.bx.set n.toNat ⟨(rP (sO k n) (oV k n).ms (oV k n).lost now body).1,(rP (sO k n) (oV k n).ms (oV k n).lost now body).2.1⟩}
theorem RQ(s:Ks)(k:Kn)(n:Int)(body:ByteArray)(now:Int)(w:World)(hr:KR w s k)(hk:Fit k)(hn:n<0∨(k.ins.length:Int)≤n∨(k.bx.length:Int)≤n):
  Calls Tryz.prog 94 #[.agg (kC s k),.int .i64 n,.string body,.int .u64 now] w (Kj w s k k):=by
 have HR:=Lib.hid hr
 have hkv:=hr.val
 have hbl:=hk.bx
 have hil:=hk.ins
 have hbn:=hr.Bx.len
 obtain⟨ai,ci,hvi,Eb⟩:=hr.In.shape
 obtain⟨ab,cb,hvb,hlb⟩:=hr.Bx.sl.shape
 rw[bf.qN] at hvi Eb
 rw[uj hbn] at hvb hlb
 clear hr
 have hd:(decide (n<0)=true)∨(decide (n<0)=false∧decide ((k.ins.length:Int)≤n)=true)∨(decide (n<0)=false∧decide ((k.ins.length:Int)≤n)=false∧decide ((k.bx.length:Int)≤n)=true):=by
  simp only[decide_eq_true_eq,decide_eq_false_iff_not]
  omega
 clear hn
 rcases hd with e1|⟨e1,e2⟩|⟨e1,e2,e3⟩
 all_goals
  go_enter Tryz.func94,Tryz.ntmps94
  go_upto_if 26 with fail
  ((generalize bN:World.alloc _ _=w0);(have KB:aC w0 (w.heap.size) (kC s k) 57:=bA);(have KZ:aC w0 (w.heap.size+1) (R6) 57:=bA);(have hb0:Below w.heap.size w w0:=bM);(have hz0:w0.heap.size=w.heap.size+1+1:=bX);(clear bN);(have KB:=Lib.hid KB);(have KZ:=Lib.hid KZ))
  have hw0:=HR.out.below hb0
  have hcb:=KB.out.rules.1
  have hk0:R6.size=17:=rfl
  go_wp2_with(first|((with_reducible refine bS 57 ?_);(refine aJ rfl 57 _ rfl (kC s k) eG (hkv) KB.out ?_ ?_;(exact aG)))|((with_reducible refine bO 57 ?_);(refine aN rfl 57 _ _ rfl KZ.out (.agg (kC s k)) eG (hkv) ?_ (_) (zf _ rW _ _) ?_ ?_ ?_;(exact fK);(exact aG);(exact aG);(intro uH EA zW Xl pV;(have Ib:=Lib.hid EA))))|fail)
  have hfr:=hw0.bL (R:=w.heap.size+1) (ks:=lu) (HR.out.away ah) KZ.out rfl aB aB aB aB zW
  exact iP Tryz.results94 eG hkv aF Ib.out rfl ⟨s,rfl,hfr,fun _ _ h=>h,hb0.trans (pV.mono ah)⟩
theorem Gu{W:World}{qa:Nat}{i:Int}{a:Option Addr}{m n:Nat}{t:TypeId}{v:Value}{l:List Ms}(hB:aC W qa #[.slice a m n,.int .i64 i] t)(hs:Sl W true 2 v (l.map Bo))(v0 v1:Value):Sl ((W.setCell ⟨qa,0,none⟩ v0).setCell ⟨qa,1,none⟩ v1) true 2 v (l.map Bo):=
 have ap:=kF (ks:=[5,1]) rfl hB hs [3,4] (fun x hx=>mH) aB
 (hs.setOther ap _ _).setOther ap _ _
theorem VO{W:World}{s:Ks}{k:Kn}(h:KR W s k)(a:Option Addr)(m n:Nat):Val true 17 (.agg (kC {s with Bx:= .slice a m n} k)):=⟨_,rfl,jX _ k,by
 rw[fM];intro x hx
 simp only[List.mem_cons,List.not_mem_nil,or_false] at hx
 rcases hx with rfl|rfl|rfl|rfl|rfl|rfl|rfl|rfl|rfl|rfl|rfl|rfl|rfl|rfl|rfl|rfl|rfl
 ·exact jB h.P
 ·exact jB h.L
 ·rfl
 ·exact jB h.S
 ·exact jB h.Pi
 ·rfl
 ·exact jB h.H
 ·rfl
 ·exact jB h.Im
 ·exact jB h.Ou
 ·exact jB h.In
 ·rfl
 ·rfl
 ·exact jB h.Tr
 ·exact jB h.Se
 ·rfl
 ·rfl⟩
theorem WA(s:Ks)(k:Kn)(m:Nat)(body:ByteArray)(now:Int)(w:World)(hr:KR w s k)(hk:Fit k)(h1:m<k.ins.length)(h2:m<k.bx.length)(CU:body.size≤9223372036854775807):
  Calls Tryz.prog 94 #[.agg (kC s k),.int .i64 m,.string body,.int .u64 now] w (Kj w s k (ji k m body now)):=by
 have HR:=Lib.hid hr
 have hkv:=hr.val
 have hbl:=hk.bx
 have hil:=hk.ins
 have hbn:=hr.Bx.len
 have hsi:=hr.In
 have hsb:=hr.Bx.sl
 obtain⟨ai,ci,hvi,Eb⟩:=hsi.shape
 obtain⟨ab,cb,hvb,hlb⟩:=hsb.shape
 rw[bf.qN] at hvi Eb
 rw[uj hbn] at hvb hlb
 obtain⟨c,hc⟩:∃c,k.ins[m]?=some c:=⟨_,List.getElem?_eq_getElem ah⟩
 obtain⟨bb,hbb⟩:∃bb,k.bx[m]?=some bb:=⟨_,List.getElem?_eq_getElem ah⟩
 obtain⟨ub,hub⟩:∃ub,s.bs[m]?=some ub:=⟨_,List.getElem?_eq_getElem ah⟩
 have hia:sO k m=c:=adu
 have hba:oV k m=bb:=adx
 obtain⟨y,hy⟩:∃y,y=ji k m body now:=⟨_,rfl⟩
 rw[←hy]
 unfold ji at hy
 rw[if_neg ah,hia,hba,Int.toNat_natCast] at hy
 have Uc:=hr.Bx.el m ub bb hub hbb
 have afX:=hk.TN bb (List.mem_of_getElem? hbb)
 have HSE:=Lib.hid (fun W h=>aad c ub bb.ms bb.lost now body W h afX.1 CU)
 obtain⟨au,mu,cu,rfl⟩:=Uc.is
 generalize rP c bb.ms bb.lost now body=r at*
 obtain⟨r1,r2,r3⟩:=r
 dsimp only at HSE hy
 rw[hvi] at hsi
 rw[hvb] at hsb
 have HSB:=Lib.hid hsb
 obtain⟨bi,oi,rfl,hbi,hci⟩:=hsi.at (i:=m) (x:=bf.uI c) (bf.El hc)
 obtain⟨bo,oo,rfl,aj',hco⟩:=hsb.at (i:=m) (x:=WQ (.slice au mu cu) bb) (A9 hub hbb)
 have HCI:=Lib.hid hci
 have HCO:=Lib.hid hco
 have hvc:Val true 5 (bf.uI c):=bf.Qv c
 have hvo:Val true 2 (WQ (.slice au mu cu) bb):=hsb.val _ (List.mem_of_getElem? (A9 hub hbb))
 have hm0:(0:Int)≤(m:Int):=ah
 have HUB:=Lib.hid Uc
 have HY:=Lib.hid hy
 have e1:decide ((m:Int)<0)=false:=decide_eq_false ah
 have e2:decide ((k.ins.length:Int)≤(m:Int))=false:=decide_eq_false ah
 have e3:decide ((k.bx.length:Int)≤(m:Int))=false:=decide_eq_false ah
 have e2n:decide (k.ins.length≤m)=false:=decide_eq_false ah
 have e3n:decide (k.bx.length≤m)=false:=decide_eq_false ah
 clear hr hsi hsb hci hco Uc hy
 go_enter Tryz.func94,Tryz.ntmps94
 go_upto_if 26 with fail
 ((generalize bN:World.alloc _ _=w0);(have KB:aC w0 (w.heap.size) (kC s k) 57:=bA);(have KZ:aC w0 (w.heap.size+1) (R6) 57:=bA);(have hb0:Below w.heap.size w w0:=bM);(have hz0:w0.heap.size=w.heap.size+1+1:=bX);(clear bN);(have KB:=Lib.hid KB);(have KZ:=Lib.hid KZ))
 have sF:w.heap.size+1+1≤w0.heap.size:=ah
 clear hz0
 (obtain⟨hcb,bn,ahQ,hnb,hmb⟩:=aC.rules KB.out)
 go_wp2_with fail
 refine ME (fun qa ao m4 n4 W=>aC W qa #[.slice ao m4 n4,.int .i64 r2] 93∧Sl W true 2 (.slice ao m4 n4) (r1.map Bo)∧Below w0.heap.size w0 W∧w0.heap.size≤qa) ?G ?_ ?_
 rotate_left
 ·((refine aY (fun W=>Below w0.heap.size w0 W) (fun i=>decide (i<17)&&i !=15) aj ?_);
          (have hS:Below w0.heap.size w0 w0.drew:=(Below.refl _ _).drew);
          (refine tk 0 29 hS ?_);
          (refine tk 1 30 hS ?_ (hy:=Or.inl ⟨aF,adI⟩));
          (refine tk 2 31 hS ?_);
          (refine tk 3 32 hS ?_);
          (refine cO 4 (oi:=⟨some 33,_,_,_,_,_⟩) rfl aj sx hS (gU 95 _ rfl (b:=bi) (off:=oi+m*5) (bf.uI c).cells bf.lX hvc aF bg (fun W hs=>HCI.out.below (hb0.trans (hs.mono hb0.size)) hbi)) ?_);
          (try simp only[pt]);
          (refine tk 5 34 hS ?_);
          (refine tk 6 35 hS ?_ (hy:=Or.inl ⟨aF,adI⟩));
          (refine tk 7 36 hS ?_);
          (refine tk 8 37 hS ?_);
          (refine cO 9 (oi:=⟨some 38,_,_,_,_,_⟩) rfl aj sx hS (gU 93 _ rfl (b:=bo) (off:=oo+m*2) (WQ (.slice au mu cu) bb).cells Sw hvo aF bg (fun W hs=>HCO.out.below (hb0.trans (hs.mono hb0.size)) aj')) ?_);
          (try simp only[pt]);
          (refine tk 10 39 hS ?_);
          (refine tk 11 40 hS ?_);
          (refine gI 12 16 (oi:=⟨some 41,_,_,_,_,_⟩) (oj:=⟨some 9,_,_,_,_,_⟩) rfl rfl aj rfl rfl (fun K hK=>?_) (fun K hK=>?_));
          (focus((go_simp;(with_reducible refine(HSE.out _ (HUB.out.below (hb0.trans (hS.mono hb0.size)))).mono ?_);rintro en w3 ⟨v3,rfl,hs3,hb3⟩;(have hS:=hS.trans (Below.mono hb3 hS.size));(obtain⟨a3,m3,n3,rfl⟩:=hs3.is);(try(have fV:=aC.below fV hb3 fV.lt));(try go_wp2_with fail));(refine hK.out _ _ (fun _=>bF) ?_;clear hK K);(try simp only[pt]);(refine tk 13 28 hS ?_);(try simp only[pt]);(refine bG 15 (oi:=⟨some 43,_,_,_,_,_⟩) (v:=?_) rfl aj sx (Or.inl ⟨aF,?_⟩) ?_;rotate_left;focus((intro W hW);go_simp;(all_goals with_reducible rfl)));(try simp only[pt]);(refine tk 14 42 hS ?_);(try simp only[pt]);(refine aK 16 (oi:=⟨some 9,_,_,_,_,_⟩) rfl aj rfl (fun K hK=>?_));(refine iH 93 rfl (z:= .agg #[.slice none 0 0,.int .i64 0]) aj #[.slice none 0 0,.int .i64 0] rfl ?_);(refine hidS hK (hS.alloc hS.size _) (fun hS=>?_);clear hK K);(try simp only[pt]);(first|((have fV:=aC.new w3 #[.slice none 0 0,.int .i64 0] 93);(have hd5:Below w3.heap.size w3 (w3.alloc (.cells #[.slice none 0 0,.int .i64 0] 93)):=(Below.refl _ _).alloc (Nat.le_refl _) _);(have mK:w0.heap.size≤w3.heap.size:=adv);(generalize w3.alloc (.cells #[.slice none 0 0,.int .i64 0] 93)=w5 at hS fV hd5⊢);(generalize w3.heap.size=qa at fV mK⊢))|((have fV:=aC.new w0.drew #[.slice none 0 0,.int .i64 0] 93);(have hd5:Below w0.drew.heap.size w0.drew (w0.drew.alloc (.cells #[.slice none 0 0,.int .i64 0] 93)):=(Below.refl _ _).alloc (Nat.le_refl _) _);(have mK:w0.heap.size≤w0.drew.heap.size:=Sk);(generalize w0.drew.alloc (.cells #[.slice none 0 0,.int .i64 0] 93)=w5 at hS fV hd5⊢);(generalize w0.drew.heap.size=qa at fV mK⊢)));(refine aT 17 aj ?_ rfl);(simp only[List.toList_toArray,List.drop_succ_cons,List.drop_zero]);((have OU:=Lib.hid fV);(obtain⟨jb1,jb2,jb3,jb4,jb5⟩:=aC.rules fV);go_wp2_with fail;(refine u_.of qa a3 m3 n3 ⟨(OU.out.set 0 _).set 1 _,?_,?_,mK⟩ ?_);(exact adM);(focus exact bl);with_reducible rfl)));
          (focus((refine iH 93 rfl (z:= .agg #[.slice none 0 0,.int .i64 0]) aj #[.slice none 0 0,.int .i64 0] rfl ?_);(refine hidS hK (hS.alloc hS.size _) (fun hS=>?_);clear hK K);(try simp only[pt]);(first|((have fV:=aC.new w3 #[.slice none 0 0,.int .i64 0] 93);(have hd5:Below w3.heap.size w3 (w3.alloc (.cells #[.slice none 0 0,.int .i64 0] 93)):=(Below.refl _ _).alloc (Nat.le_refl _) _);(have mK:w0.heap.size≤w3.heap.size:=adv);(generalize w3.alloc (.cells #[.slice none 0 0,.int .i64 0] 93)=w5 at hS fV hd5⊢);(generalize w3.heap.size=qa at fV mK⊢))|((have fV:=aC.new w0.drew #[.slice none 0 0,.int .i64 0] 93);(have hd5:Below w0.drew.heap.size w0.drew (w0.drew.alloc (.cells #[.slice none 0 0,.int .i64 0] 93)):=(Below.refl _ _).alloc (Nat.le_refl _) _);(have mK:w0.heap.size≤w0.drew.heap.size:=Sk);(generalize w0.drew.alloc (.cells #[.slice none 0 0,.int .i64 0] 93)=w5 at hS fV hd5⊢);(generalize w0.drew.heap.size=qa at fV mK⊢)));(refine aK 12 (oi:=⟨some 41,_,_,_,_,_⟩) rfl aj rfl (fun K hK=>?_));(go_simp;(with_reducible refine(HSE.out _ (HUB.out.below (hb0.trans (hS.mono hb0.size)))).mono ?_);rintro en w3 ⟨v3,rfl,hs3,hb3⟩;(have hS:=hS.trans (Below.mono hb3 hS.size));(obtain⟨a3,m3,n3,rfl⟩:=hs3.is);(try(have fV:=aC.below fV hb3 fV.lt));(try go_wp2_with fail));(refine hK.out _ _ (fun _=>bF) ?_;clear hK K);(try simp only[pt]);(refine tk 13 28 hS ?_);(try simp only[pt]);(refine bG 15 (oi:=⟨some 43,_,_,_,_,_⟩) (v:=?_) rfl aj sx (Or.inl ⟨aF,?_⟩) ?_;rotate_left;focus((intro W hW);go_simp;(all_goals with_reducible rfl)));(try simp only[pt]);(refine tk 14 42 hS ?_);(try simp only[pt]);(refine aT 17 aj ?_ rfl);(simp only[List.toList_toArray,List.drop_succ_cons,List.drop_zero]);((have OU:=Lib.hid fV);(obtain⟨jb1,jb2,jb3,jb4,jb5⟩:=aC.rules fV);go_wp2_with fail;(refine u_.of qa a3 m3 n3 ⟨(OU.out.set 0 _).set 1 _,?_,?_,mK⟩ ?_);(exact adM);(focus exact bl);with_reducible rfl))))
 rintro qa ao m4 n4 w2 ⟨hB2,hs2,hS2,xX⟩
 have hz2:=hS2.size
 have Eo:=Lib.hid (KB.out.below hS2 KB.out.lt)
 have Oz:=Lib.hid (KZ.out.below hS2 KZ.out.lt)
 have KA2:=Lib.hid hB2
 have HS2:=Lib.hid hs2
 have hbw2:=hb0.trans (hS2.mono hb0.size)
 have akx:=Lib.hid (HSB.out.below hbw2)
 clear hB2 hs2 hcb bn ahQ hnb hmb HCI HCO HSE HUB
 (obtain⟨hcb,bn,hlb,hnb,hmb⟩:=aC.rules Eo.out)
 go_wp2_with fail
 with_reducible refine(Nn _ (tZ s.bs k.bx) _ akx.out BL).mono ?_
 rintro en w8 ⟨v8,rfl,xQ,jU⟩
 obtain⟨g,n6,rfl,O7,Xu,hbg,hgl,hfg,hcg⟩:=xQ.form BL
 rw[uj hbn] at xQ O7
 have OJ:=jU.size
 have x9:=Lib.hid (Eo.out.below jU Eo.out.lt)
 have KZ8:=Lib.hid (Oz.out.below jU Oz.out.lt)
 have KA8:=Lib.hid (KA2.out.below jU KA2.out.lt)
 have zN:=Lib.hid xQ
 have hla:=KA2.out.lt
 clear hfg hcg xQ hcb bn hlb hnb hmb
 (obtain⟨hcb,bn,hlb,hnb,hmb⟩:=aC.rules x9.out)
 (obtain⟨hcy,hfy,hly,hny,hmy⟩:=aC.rules KA8.out)
 have hml:m<(tZ s.bs k.bx).length:=BL
 have WZ:Val true 2 (.agg #[.slice ao m4 n4,.int .i64 r2]):=⟨_,rfl,rfl,CW⟩
 have hk0:R6.size=17:=rfl
 have lg:=aM w8 w.heap.size 11 (.slice (some ⟨g,0,none⟩) k.bx.length n6)
 have Bt:=Lib.hid (zN.out.Ai lg ah)
 have KB9:=Lib.hid ((x9.out.set 11 (.slice (some ⟨g,0,none⟩) k.bx.length n6)).cast (Qr s k _))
 have Yt:=VO HR.out (some ⟨g,0,none⟩) k.bx.length n6
 have Lm:=lg.size
 go_wp2_with(first|((with_reducible refine bO 93 ?_);(refine dw (base:=w2.heap.size) rfl _ _ rfl Sw g k.bx.length n6 Bt.out m hml ?_ (.agg #[.slice ao m4 n4,.int .i64 r2]) ?_ WZ ?_;(exact aG);(exact aG);(intro oW zU nY;(have EC:=Lib.hid zU);(have aku:=Lib.hid (KB9.out.grown nY aR));(have aio:=Lib.hid ((KZ8.out.other _ _ aI).grown nY aR));(have XJ:=Lib.hid nY);(clear zU hcb hcy))))|((with_reducible refine bS 57 ?_);(refine aJ rfl 57 _ rfl (kC {s with Bx:= .slice (some ⟨g,0,none⟩) k.bx.length n6} k) eG (Yt) aku.out ?_ ?_;(exact aG)))|((with_reducible refine bO 57 ?_);(refine aN rfl 57 _ _ rfl aio.out (.agg (kC {s with Bx:= .slice (some ⟨g,0,none⟩) k.bx.length n6} k)) eG (Yt) ?_ (_) (zf _ rW _ _) ?_ ?_ ?_;(exact fK);(exact aG);(exact aG);(intro GR jD jT tq eP;(have kY:=Lib.hid jD))))|fail)
 have nY:=XJ.out
 have ak5:=nY.size
 have hso:=EC.out.sl
 rw[show(Value.agg #[.slice ao m4 n4,.int .i64 r2])=WQ (.slice ao m4 n4) ⟨r1,r2⟩ from rfl,Nr hbn] at hso
 have akh:Below w.heap.size w8 (w8.setCell ⟨w.heap.size,11,none⟩ (.slice (some ⟨g,0,none⟩) k.bx.length n6)):=bq lg (Nat.le_refl _) ah
 have Yv:Below w.heap.size w oW:=hbw2.trans ((jU.mono ah).trans (akh.trans (bq nY ah aR)))
 have hbi:Md oW (.slice (some ⟨g,0,none⟩) k.bx.length n6) (s.bs.set m (.slice ao m4 n4)) (k.bx.set m ⟨r1,r2⟩):=⟨hso,by simp[hbn],fun i u y hu hy=>by
  rw[List.getElem?_set] at hu hy
  by_cases him:m=i
  ·subst him
   simp only[if_true] at hu hy
   rw[if_pos ah] at hu hy
   cases hu;cases hy
   have h8:=HS2.out.below jU
   have h9:=h8.bC lg (kF (ks:=lu) HR.out.kinds x9.out h8 [3,4] (fun x hx=>mH) aB)
   exact h9.bC nY (HS2.out.apart hbg)
  ·rw[if_neg him] at hu hy
   have h0:=HR.out.Bx.el i u y hu hy
   exact h0.below Yv⟩
 have hkr:KR oW {s with Bx:= .slice (some ⟨g,0,none⟩) k.bx.length n6,bs:=s.bs.set m (.slice ao m4 n4)} {k with bx:=k.bx.set m ⟨r1,r2⟩}:={HR.out.below Yv with Bx:=hbi}
 have hZ:iL (w.heap.size+1) {s with Bx:= .slice (some ⟨g,0,none⟩) k.bx.length n6,bs:=s.bs.set m (.slice ao m4 n4)} {k with bx:=k.bx.set m ⟨r1,r2⟩}:=by
  have h:=HR.out.away (B:=w.heap.size+1) ah
  exact⟨h.1,h.2.1,h.2.2.1,h.2.2.2.1,⟨h.2.2.2.2.1.1,.inr fun c hc=>PU,h.2.2.2.2.1.2.2⟩,h.2.2.2.2.2⟩
 have hfr:=hkr.bL (ks:=lu) hZ aio.out rfl aB aB aB aB jT
 have hy:=HY.out
 subst hy
 refine iP Tryz.results94 eG Yt aF kY.out rfl ⟨_,?_,hfr,fun B hB h=>⟨h.1,h.2.1,h.2.2.1,h.2.2.2.1,⟨h.2.2.2.2.1.1,.inr fun c hc=>PU,h.2.2.2.2.1.2.2⟩,h.2.2.2.2.2⟩,Yv.trans (eP.mono ah)⟩
 rw[fM,fM]
theorem RU(s:Ks)(k:Kn)(n:Int)(body:ByteArray)(now:Int)(w:World)(hr:KR w s k)(hk:Fit k)(CU:body.size≤9223372036854775807):
  Calls Tryz.prog 94 #[.agg (kC s k),.int .i64 n,.string body,.int .u64 now] w (Kj w s k (ji k n body now)):=by
 by_cases h:n<0∨(k.ins.length:Int)≤n∨(k.bx.length:Int)≤n
 ·rw[show ji k n body now=k from by unfold ji;rw[if_pos h]]
  exact RQ s k n body now w hr hk h
 ·obtain⟨m,rfl⟩:∃m:Nat,n=m:=⟨n.toNat,ah⟩
  exact WA s k m body now w hr hk ah ah CU
end Go.Proofs.YtgmodehldmahiaaGreatDoor
end
