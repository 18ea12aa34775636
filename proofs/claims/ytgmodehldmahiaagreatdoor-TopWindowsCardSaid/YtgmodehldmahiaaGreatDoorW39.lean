/- Part 39 of 50 of the proof of topWindows_holds. Conditions: see each. -/
import Derived.Test.YtgmodehldmahiaaGreatDoorW14
import Derived.Test.YtgmodehldmahiaaGreatDoorW38
set_option linter.unusedVariables false
set_option linter.unusedSimpArgs false
set_option maxRecDepth 8192
set_option maxHeartbeats 40000000
section
namespace Go.Proofs.YtgmodehldmahiaaGreatDoor
open Go Go.RowKit Go.Tm
attribute [local go_sem] wz wM yY tK uR yX yV yU yT
theorem SI(s:Ks)(k:Kn)(st bo:Int):Array.foldl (fun(cs:Array Value) (x:Value×Nat)=>cs.setIfInBounds x.snd x.fst) #[Value.slice none 0 0,Value.slice none 0 0,Value.int IntKind.i64 0,Value.slice none 0 0,Value.slice none 0 0,Value.int IntKind.i64 0,Value.slice none 0 0,Value.int IntKind.u64 0,Value.slice none 0 0,Value.slice none 0 0,Value.slice none 0 0,Value.slice none 0 0,Value.string {data:=#[]},Value.slice none 0 0,Value.slice none 0 0,Value.int IntKind.i64 0,Value.int IntKind.i64 0,Value.int IntKind.i64 0,Value.int IntKind.i64 0,Value.int IntKind.i64 0,Value.int IntKind.i64 0,Value.int IntKind.i64 0,Value.int IntKind.i64 0] (xC s k (sx st bo)).zipIdx 0 19=xC s k (wx st bo (0,0,0,0)):=by
 rw[oP,oP,fM];kernel_rfl
theorem Zc(s:Ks)(k:Kn)(ex:Array Value)(v:Value):(xC s k ex).setIfInBounds 19 v=xC s k (ex.setIfInBounds 2 v):=BR s k ex 2 v
theorem Zb(s:Ks)(k:Kn)(ex:Array Value)(v:Value):(xC s k ex).setIfInBounds 20 v=xC s k (ex.setIfInBounds 3 v):=BR s k ex 3 v
theorem Za(s:Ks)(k:Kn)(ex:Array Value)(v:Value):(xC s k ex).setIfInBounds 21 v=xC s k (ex.setIfInBounds 4 v):=BR s k ex 4 v
theorem Y_(s:Ks)(k:Kn)(ex:Array Value)(v:Value):(xC s k ex).setIfInBounds 22 v=xC s k (ex.setIfInBounds 5 v):=BR s k ex 5 v
theorem xD{W:World}{b:Nat}{s:Ks}{k:Kn}{st bo:Int}{x:DN}{t:TypeId}(h:aC W b (xC s k (wx st bo x)) t):Cells W b 0 (iM s k st bo).cells.toList:=fun j v hv=>by
 have hj:j<19:=by
  have:=(List.getElem?_eq_some_iff.1 hv).1
  rw[show(iM s k st bo).cells=xC s k (sx st bo) from rfl,Array.length_toList,jW] at this
  exact this
 rw[h.rules.1,Nat.zero_add]
 rw[show(iM s k st bo).cells=xC s k (sx st bo) from rfl,Array.getElem?_toList] at hv
 rw[←hv]
 by_cases Ls:j<17
 ·rw[Ac _ _ _ Ls,Ac _ _ _ Ls]
 ·obtain rfl|rfl:j=17∨j=18:=by omega
  ·rw[tK,tK];rfl
  ·rw[uR,uR];rfl
theorem xu:Ty Tryz.prog 74 4 true:=⟨aj,aj,aB,aj⟩
noncomputable def lC(x:DN)(k:Kn)(st bo:Int):Kn×Int×Int:=
 if st=1 then dU x (jI k) (if(jI k).want=1 then 2 else if(jI k).want=2 then 3 else 1) bo else(k,st,bo)
theorem Ry(s:Ks)(k:Kn)(st bo:Int)(x:DN)(w:World)(hr:KR w s k)(hs:st≠1):Calls Tryz.prog 62 #[EK x,iM s k st bo] w (FH w s k k st bo):=by
 have HR:=Lib.hid hr
 have hv:=jM hr st bo
 have e1:(st==1)=false:=oh
 have HG:=Lib.hid (fun W=>Cn s k st bo W)
 rw[e1] at HG
 have hk0:GX.size=19:=rfl
 have Ud:(xC s k (sx st bo)).size=19:=uO
 clear hr hs
 go_enter Tryz.func62,Tryz.ntmps62
 go_wp2_with(first|((with_reducible refine bS 59 ?_);((generalize bN:World.alloc _ _=w0);(have KX:aC w0 (w.heap.size) (#[.int .i64 x.1,.int .i64 x.2.1,.int .i64 x.2.2.1,.int .i64 x.2.2.2]) 74:=bA);(have KB:aC w0 (w.heap.size+1) (xC s k (sx st bo)) 59:=bA);(have KZ:aC w0 (w.heap.size+1+1) (GX) 59:=bA);(have hb0:Below w.heap.size w w0:=bM);(have hz0:w0.heap.size=w.heap.size+1+1+1:=bX);(clear bN);(have KX:=Lib.hid KX);(have KB:=Lib.hid KB);(have KZ:=Lib.hid KZ));(refine aJ rfl 59 _ rfl (xC s k (sx st bo)) eF hv KB.out ?_ ?_;(exact aG)))|fail)
 with_reducible refine(HG.out w0).mono ?_
 rintro en w1 ⟨rfl,hb1⟩
 have hz1:=hb1.size
 have vV:=Lib.hid (KB.out.below hb1 KB.out.lt)
 have Bq:=Lib.hid (KZ.out.below hb1 KZ.out.lt)
 have bP:=hb0.trans (hb1.mono hb0.size)
 go_wp2_with(first|((with_reducible refine bS 59 ?_);(refine aJ rfl 59 _ rfl (xC s k (sx st bo)) eF (hv) vV.out ?_ ?_;(exact aG)))|((with_reducible refine bO 59 ?_);(refine aN rfl 59 _ _ rfl Bq.out (iM s k st bo) eF (hv) ?_ (_) (gJ 19 pY ()) ?_ ?_ ?_;(exact fK);(exact aG);(exact aG);(intro GR jD jT tq eP;(have kY:=Lib.hid jD))))|fail)
 have hfr:=(HR.out.below bP).bL (R:=w.heap.size+1+1) (ks:=uZ) (HR.out.away ah) Bq.out rfl aB aB aB aB jT
 exact iP Tryz.results62 eF hv aF kY.out rfl ⟨s,rfl,hfr,fun _ _ h=>h,bP.trans (eP.mono ah)⟩
theorem Rx(s:Ks)(k:Kn)(bo:Int)(x:DN)(w:World)(hr:KR w s k)(hT:iV w)(hf:AB k)(hl:(jI k).gone≠0→H9 x (jI k).gone=3→oJ x.1 (jI k)):
  Calls Tryz.prog 62 #[EK x,iM s k 1 bo] w (FH w s k (lC x k 1 bo).1 (lC x k 1 bo).2.1 (lC x k 1 bo).2.2):=by
 have HR:=Lib.hid hr
 have hv:=jM hr 1 bo
 have hkv:=hr.val
 have HG:=Lib.hid (fun W=>Cn s k 1 bo W)
 have HS:=Lib.hid (fun W h1 h2=>Z4 s k W h1 h2 hf)
 have Ec:=Lib.hid (fun W (h:Below w.heap.size w W)=>hT.below h)
 obtain⟨y,hy⟩:∃y,y=lC x k 1 bo:=⟨_,rfl⟩
 rw[←hy]
 unfold lC at hy
 rw[if_pos rfl] at hy
 generalize jI k=k3 at*
 have HY:=Lib.hid hy
 have HL:=Lib.hid hl
 have hk0:GX.size=19:=rfl
 have Mv:=SI s k 1 bo
 clear hr hT hf hl hy
 go_enter Tryz.func62,Tryz.ntmps62
 go_wp2_with(first|((with_reducible refine bS 59 ?_);((generalize bN:World.alloc _ _=w0);(have KX:aC w0 (w.heap.size) (#[.int .i64 x.1,.int .i64 x.2.1,.int .i64 x.2.2.1,.int .i64 x.2.2.2]) 74:=bA);(have KB:aC w0 (w.heap.size+1) (xC s k (sx 1 bo)) 59:=bA);(have KZ:aC w0 (w.heap.size+1+1) (GX) 59:=bA);(have hb0:Below w.heap.size w w0:=bM);(have hz0:w0.heap.size=w.heap.size+1+1+1:=bX);(clear bN);(have KX:=Lib.hid KX);(have KB:=Lib.hid KB);(have KZ:=Lib.hid KZ));(refine aJ rfl 59 _ rfl (xC s k (sx 1 bo)) eF hv KB.out ?_ ?_;(exact aG)))|fail)
 with_reducible refine(HG.out w0).mono ?_
 rintro en w1 ⟨rfl,hb1⟩
 have hz1:=hb1.size
 have vV:=Lib.hid (KB.out.below hb1 KB.out.lt)
 have Bq:=Lib.hid (KZ.out.below hb1 KZ.out.lt)
 have CV:=Lib.hid (KX.out.below hb1 KX.out.lt)
 have bP:=hb0.trans (hb1.mono hb0.size)
 have sF:w.heap.size+1+1+1≤w0.heap.size:=ah
 clear hz0
 (obtain⟨hcx,hfx,hlx,hnx,hmx⟩:=aC.rules CV.out)
 have Ud:(xC s k (sx 1 bo)).size=19:=uO
 have ai8:(xC s k (wx 1 bo (0,0,0,0))).size=23:=uO
 go_wp2_with(first|((with_reducible refine bS 59 ?_);(refine aJ rfl 59 _ rfl (xC s k (sx 1 bo)) eF (hv) vV.out ?_ ?_;(exact aG)))|((with_reducible refine bS 57 ?_);(generalize bN:World.alloc _ _=w2);(have KBw:aC w2 w1.heap.size (xC s k (wx 1 bo x)) 113:=(by rw[←bN];exact(aC.new w1 _ _).cast (by simp only[Zc,Zb,Za,Y_];rfl)));(have hb2:Below w1.heap.size w1 w2:=bM);(have hcc:=wS KBw);(have qg:=Lib.hid KBw);(clear bN KBw hcx Ud ai8 Mv);(refine aO rfl 57 _ rfl w1.heap.size 0 ?_ (.agg (kC s k)) eG hkv hcc ?_;(exact aG)))|fail)
 have hz2:=hb2.size
 have hbw2:=bP.trans (hb2.mono ah)
 have Oz:=Lib.hid (Bq.out.below hb2 Bq.out.lt)
 with_reducible refine(HS.out w2 (HR.out.below hbw2) (Ec.out w2 hbw2)).mono ?_
 rintro en w3 ⟨s3,rfl,qY,qH,hb3⟩
 have hz3:=hb3.size
 have JE:=qY.val
 have mM:=Lib.hid (qg.out.below hb3 qg.out.lt)
 have Jw:=Lib.hid (Oz.out.below hb3 Oz.out.lt)
 have hlw:=qg.out.lt
 have Ia:=Lib.hid qY
 have z8:=Lib.hid qH
 have abu:(xC s k (wx 1 bo x)).size=23:=uO
 have fJ:=hbw2.trans (hb3.mono ah)
 clear qY qH
 go_upto_block 0 with(first|((with_reducible refine bO 57 ?_);(refine aN rfl 57 _ _ rfl mM.out (.agg (kC s3 k3)) eG (JE) ?_ (_) (Fw s s3 k k3 (wx 1 bo x)) ?_ ?_ ?_;(exact fK);(exact aG);(exact aG);(intro w4 Oy hg4 vT hb4;(have T_:=Lib.hid Oy);(have hcw:=Oy.rules.1))))|fail)
 have ak0:=hg4.size
 have HW4:Hid (SW w4 w1.heap.size s3 k3 1 bo x):=Lib.hid ⟨T_.out,Ia.out.bL (ks:=sQ) (z8.out _ hlw (HR.out.away ah)) mM.out (rU HR.out _) wL aB aB aB hg4,z8.out _ hlw (HR.out.away ah)⟩
 have Iw:=Lib.hid (Jw.out.grown hg4 aR)
 have nU:Below w.heap.size w w4:=fJ.trans (bq hg4 ah ah)
 obtain⟨hcw,hfw,ali,hnw,hmw⟩:=T_.out.rules
 by_cases g1:k3.want=1
 ·have hy:=HY.out
  have d1:(k3.want==1)=true:=by simp[g1]
  rw[if_pos g1] at hy
  clear g1
  go_wp2_with fail
  generalize bN:World.setCell _ _ _=w5
  have TT:Hid (SW w5 w1.heap.size s3 k3 2 bo x):=Lib.hid adO
  have hg5:w4.grownBy w5 (some w1.heap.size):=nA
  have GY:=hg5.size
  have TP:=Lib.hid (Iw.out.grown hg5 aR)
  have jC:=nU.trans (bq (n:=w.heap.size) hg5 ah ah)
  clear bN hcw
  with_reducible refine(xH w5 w1.heap.size s3 k3 2 bo x TT.out HL.out).mono ?_
  rintro en w6 ⟨rfl,s6,uL,zR,xR⟩
  have WY:=xR.size
  have XE:=Lib.hid uL
  have hv6:=jM uL.kr (dU x k3 2 bo).2.1 (dU x k3 2 bo).2.2
  have hc6:=xD uL.box
  have Hl:=Lib.hid (TP.out.grown xR aR)
  have BA:∀B,B<w0.heap.size→iL B s k→iL B s6 (dU x k3 2 bo).1:=fun B hB h=>zR B ah ah (z8.out B ah h)
  have tu:Below w.heap.size w w6:=jC.trans (bq xR ah ah)
  clear uL zR
  subst hy
  go_wp2_with(first|((with_reducible refine bS 59 ?_);(refine aO rfl 59 _ rfl w1.heap.size (0) ?_ (iM s6 (dU x k3 2 bo).1 (dU x k3 2 bo).2.1 (dU x k3 2 bo).2.2) eF (hv6) hc6 ?_;(exact aG)))|((with_reducible refine bO 59 ?_);(refine aN rfl 59 _ _ rfl Hl.out (iM s6 (dU x k3 2 bo).1 (dU x k3 2 bo).2.1 (dU x k3 2 bo).2.2) eF (hv6) ?_ (_) (gJ 19 pY ()) ?_ ?_ ?_;(exact fK);(exact aG);(exact aG);(intro GR jD jT tq eP;(have kY:=Lib.hid jD))))|fail)
  exact Yk
 by_cases g2:k3.want=2
 ·have hy:=HY.out
  have d1:(k3.want==1)=false:=by simp[g1]
  have d2:(k3.want==2)=true:=by simp[g2]
  rw[if_neg g1,if_pos g2] at hy
  clear g1 g2
  go_wp2_with fail
  generalize bN:World.setCell _ _ _=w5
  have TT:Hid (SW w5 w1.heap.size s3 k3 3 bo x):=Lib.hid adO
  have hg5:w4.grownBy w5 (some w1.heap.size):=nA
  have GY:=hg5.size
  have TP:=Lib.hid (Iw.out.grown hg5 aR)
  have jC:=nU.trans (bq (n:=w.heap.size) hg5 ah ah)
  clear bN hcw
  with_reducible refine(xH w5 w1.heap.size s3 k3 3 bo x TT.out HL.out).mono ?_
  rintro en w6 ⟨rfl,s6,uL,zR,xR⟩
  have WY:=xR.size
  have XE:=Lib.hid uL
  have hv6:=jM uL.kr (dU x k3 3 bo).2.1 (dU x k3 3 bo).2.2
  have hc6:=xD uL.box
  have Hl:=Lib.hid (TP.out.grown xR aR)
  have BA:∀B,B<w0.heap.size→iL B s k→iL B s6 (dU x k3 3 bo).1:=fun B hB h=>zR B ah ah (z8.out B ah h)
  have tu:Below w.heap.size w w6:=jC.trans (bq xR ah ah)
  clear uL zR
  subst hy
  go_wp2_with(first|((with_reducible refine bS 59 ?_);(refine aO rfl 59 _ rfl w1.heap.size (0) ?_ (iM s6 (dU x k3 3 bo).1 (dU x k3 3 bo).2.1 (dU x k3 3 bo).2.2) eF (hv6) hc6 ?_;(exact aG)))|((with_reducible refine bO 59 ?_);(refine aN rfl 59 _ _ rfl Hl.out (iM s6 (dU x k3 3 bo).1 (dU x k3 3 bo).2.1 (dU x k3 3 bo).2.2) eF (hv6) ?_ (_) (gJ 19 pY ()) ?_ ?_ ?_;(exact fK);(exact aG);(exact aG);(intro GR jD jT tq eP;(have kY:=Lib.hid jD))))|fail)
  exact Yk
 ·have hy:=HY.out
  have d1:(k3.want==1)=false:=by simp[g1]
  have d2:(k3.want==2)=false:=by simp[g2]
  rw[if_neg g1,if_neg g2] at hy
  clear g1 g2
  go_wp2_with fail
  have TT:=HW4
  have TP:=Iw
  have jC:=nU
  with_reducible refine(xH w4 w1.heap.size s3 k3 1 bo x TT.out HL.out).mono ?_
  rintro en w6 ⟨rfl,s6,uL,zR,xR⟩
  have WY:=xR.size
  have XE:=Lib.hid uL
  have hv6:=jM uL.kr (dU x k3 1 bo).2.1 (dU x k3 1 bo).2.2
  have hc6:=xD uL.box
  have Hl:=Lib.hid (TP.out.grown xR aR)
  have BA:∀B,B<w0.heap.size→iL B s k→iL B s6 (dU x k3 1 bo).1:=fun B hB h=>zR B ah ah (z8.out B ah h)
  have tu:Below w.heap.size w w6:=jC.trans (bq xR ah ah)
  clear uL zR
  subst hy
  go_wp2_with(first|((with_reducible refine bS 59 ?_);(refine aO rfl 59 _ rfl w1.heap.size (0) ?_ (iM s6 (dU x k3 1 bo).1 (dU x k3 1 bo).2.1 (dU x k3 1 bo).2.2) eF (hv6) hc6 ?_;(exact aG)))|((with_reducible refine bO 59 ?_);(refine aN rfl 59 _ _ rfl Hl.out (iM s6 (dU x k3 1 bo).1 (dU x k3 1 bo).2.1 (dU x k3 1 bo).2.2) eF (hv6) ?_ (_) (gJ 19 pY ()) ?_ ?_ ?_;(exact fK);(exact aG);(exact aG);(intro GR jD jT tq eP;(have kY:=Lib.hid jD))))|fail)
  exact Yk
theorem xL(s:Ks)(k:Kn)(st bo:Int)(x:DN)(w:World)(hr:KR w s k)(hT:iV w)(hf:st=1→AB k)(hl:st=1→(jI k).gone≠0→H9 x (jI k).gone=3→oJ x.1 (jI k)):
  Calls Tryz.prog 62 #[EK x,iM s k st bo] w (FH w s k (lC x k st bo).1 (lC x k st bo).2.1 (lC x k st bo).2.2):=by
 by_cases h:st=1
 ·subst h;exact Rx s k bo x w hr hT (hf rfl) (hl rfl)
 ·rw[show lC x k st bo=(k,st,bo) from by unfold lC;rw[if_neg h]]
  exact Ry s k st bo x w hr h
end Go.Proofs.YtgmodehldmahiaaGreatDoor
end
section
namespace Go.Proofs.YtgmodehldmahiaaGreatDoor
open Go Go.RowKit Go.Tm
attribute [local go_sem] wz wM yY tK uR yX yV yU yT
theorem aaJ(s:Ks)(k:Kn):Array.foldl (fun(cs:Array Value) (x:Value×Nat)=>cs.setIfInBounds x.snd x.fst) #[Value.slice none 0 0,Value.slice none 0 0,Value.int IntKind.i64 0,Value.slice none 0 0,Value.slice none 0 0,Value.int IntKind.i64 0,Value.slice none 0 0,Value.int IntKind.u64 0,Value.slice none 0 0,Value.slice none 0 0,Value.slice none 0 0,Value.slice none 0 0,Value.string {data:=#[]},Value.slice none 0 0,Value.slice none 0 0,Value.int IntKind.i64 0,Value.int IntKind.i64 0,Value.int IntKind.i64 0,Value.int IntKind.i64 0] (kC s k).zipIdx 0 17=xC s k (sx 0 0):=by
 rw[oP,fM];kernel_rfl
noncomputable def qz(x:DN)(im:List ByteArray)(ou ins:List bf.Ch):Kn×Int×Int:=dU x (jk x.1 im ou ins 0) 1 1
theorem Wz(x:DN)(vi vo vn:Value)(im:List ByteArray)(ou ins:List bf.Ch)(w:World)(hi:Sl w false 1 vi (vQ im))(ho:Sl w true 5 vo (bf.lU ou))(hn:Sl w true 5 vn (bf.lU ins))
  (hf:Fit (kI x.1 im ou ins 0))(hsz:(bY (kI x.1 im ou ins 0) 0).1.size≤maxLen)(hbi:im.length≤8796093022208)(CU:ou.length≤1000000)(hbn:ins.length≤1000000)
  (hl:(jk x.1 im ou ins 0).gone≠0→H9 x (jk x.1 im ou ins 0).gone=3→oJ x.1 (jk x.1 im ou ins 0)):
  Calls Tryz.prog 19 #[EK x,vi,vo,vn] w fun e w'=>∃s',e=.returned (iM s' (qz x im ou ins).1 (qz x im ou ins).2.1 (qz x im ou ins).2.2)∧KR w' s' (qz x im ou ins).1∧(∀B,B<w.heap.size→iL B s' (qz x im ou ins).1)∧Below w.heap.size w w':=by
 have HBO:=Lib.hid (fun W h1 h2 h3=>A_ x.1 vi vo vn im ou ins 0 W h1 h2 h3 hf hsz hbi CU hbn)
 have HI:=Lib.hid hi
 have HO:=Lib.hid ho
 have HN:=Lib.hid hn
 unfold qz
 generalize jk x.1 im ou ins 0=kb at*
 have HL:=Lib.hid hl
 have hk0:GX.size=19:=rfl
 have Mv:=fun s'=>aaJ s' kb
 have ag3:=fun s'=>SI s' kb 1 1
 have ajO:=fun s' v=>yS s' kb (sx 0 0) v
 have ajN:=fun s' v=>Qf s' kb (sx 1 0) v
 have ajE:=fun s'=>jX s' kb
 have ajD:=fun s'=>(show(xC s' kb (sx 0 0)).size=19 from by rw[jW];rfl)
 have ai4:=fun s'=>(show(xC s' kb (sx 1 1)).size=19 from by rw[jW];rfl)
 have ajC:=fun s'=>(show(xC s' kb (wx 1 1 (0,0,0,0))).size=23 from by rw[jW];rfl)
 clear hi ho hn hl
 go_enter Tryz.func19,Tryz.ntmps19
 go_wp2_with fail
 ((generalize bN:World.alloc _ _=w0);(have KX:aC w0 (w.heap.size) (#[.int .i64 x.1,.int .i64 x.2.1,.int .i64 x.2.2.1,.int .i64 x.2.2.2]) 74:=bA);(have KZ:aC w0 (w.heap.size+1) (GX) 59:=bA);(have hb0:Below w.heap.size w w0:=bM);(have hz0:w0.heap.size=w.heap.size+1+1:=bX);(clear bN);(have KX:=Lib.hid KX);(have KZ:=Lib.hid KZ))
 have sF:w.heap.size+1+1≤w0.heap.size:=ah
 clear hz0
 (obtain⟨hcx,hfx,hlx,hnx,hmx⟩:=aC.rules KX.out)
 ((refine aY (fun W=>Below w0.heap.size w0 W) (fun i=>decide (i<9)) aj ?_);
          (have hS:Below w0.heap.size w0 w0.drew:=(Below.refl _ _).drew);
          (refine tk 0 10 hS ?_);
          (refine tk 1 11 hS ?_ (hy:=Or.inl ⟨aF,adF⟩));
          (refine tk 2 12 hS ?_);
          (refine tk 3 13 hS ?_);
          (refine tk 4 14 hS ?_);
          (refine tk 7 17 hS ?_ (hy:=Or.inl ⟨aF,adF⟩));
          (refine aK 5 (oi:=⟨some 15,_,_,_,_,_⟩) rfl aj rfl (fun K hK=>?_));
          (go_simp;(with_reducible refine(HBO.out _ (HI.out.below (hb0.trans (hS.mono hb0.size))) (HO.out.below (hb0.trans (hS.mono hb0.size))) (HN.out.below (hb0.trans (hS.mono hb0.size)))).mono ?_);rintro en w3 ⟨s3,rfl,qY,qH,hb3⟩;(have hS:=hS.trans (Below.mono hb3 hS.size));skip;(try go_wp2_with fail));
          (refine hK.out _ _ (fun _=>bF) ?_;clear hK K);
          (try simp only[pt]);
          (refine tk 6 16 hS ?_);
          (refine tk 8 18 hS ?_);
          (refine aT 9 aj ?_ rfl);
          (simp only[List.toList_toArray,List.drop_succ_cons,List.drop_zero]))
 have hz3:=hS.size
 have Ia:=Lib.hid qY
 have z8:=Lib.hid (show∀B,B<w0.heap.size→iL B s3 kb from fun B hB=>qH B (by simp only[bE] at*;omega))
 have Jw:=Lib.hid (KZ.out.below hS KZ.out.lt)
 have fJ:=hb0.trans (hS.mono hb0.size)
 clear qY qH Mv ag3 ajO ajN ajE ajD ai4 ajC hcx hfx hlx hnx hmx
 go_wp2_with fail
 generalize bN:World.alloc _ _=w4
 have KBw:aC w4 w3.heap.size (xC s3 kb (wx 1 1 x)) 113:=by
  rw[←bN]
  refine(aC.new w3 _ _).cast ?_
  simp only[yS,Qf,Zc,Zb,Za,Y_]
  try rfl
 have hb4:Below w3.heap.size w3 w4:=bM
 have vT:=hb4.size
 have hlw:=KBw.lt
 have TT:Hid (SW w4 w3.heap.size s3 kb 1 1 x):=Lib.hid ⟨KBw,Ia.out.below hb4,Ia.out.away (Nat.le_refl _)⟩
 have Iw:=Lib.hid (Jw.out.below hb4 Jw.out.lt)
 have hlz:=Jw.out.lt
 have nU:=fJ.trans (hb4.mono ah)
 clear bN KBw
 with_reducible refine(xH w4 w3.heap.size s3 kb 1 1 x TT.out HL.out).mono ?_
 rintro en w6 ⟨rfl,s6,uL,zR,xR⟩
 have WY:=xR.size
 have XE:=Lib.hid uL
 have hv6:=jM uL.kr (dU x kb 1 1).2.1 (dU x kb 1 1).2.2
 have hc6:=xD uL.box
 have Hl:=Lib.hid (Iw.out.grown xR aR)
 have BA:∀B,B<w0.heap.size→iL B s6 (dU x kb 1 1).1:=fun B hB=>zR B ah ah (z8.out B hB)
 have tu:Below w.heap.size w w6:=nU.trans (bq xR ah ah)
 clear uL zR
 go_wp2_with(first|((with_reducible refine bS 59 ?_);(refine aO rfl 59 _ rfl w3.heap.size (0) ?_ (iM s6 (dU x kb 1 1).1 (dU x kb 1 1).2.1 (dU x kb 1 1).2.2) eF (hv6) hc6 ?_;(exact aG)))|((with_reducible refine bO 59 ?_);(refine aN rfl 59 _ _ rfl Hl.out (iM s6 (dU x kb 1 1).1 (dU x kb 1 1).2.1 (dU x kb 1 1).2.2) eF (hv6) ?_ (_) (gJ 19 pY ()) ?_ ?_ ?_;(exact fK);(exact aG);(exact aG);(intro GR jD jT tq eP;(have kY:=Lib.hid jD))))|fail)
 have hfr:=XE.out.kr.bL (R:=w.heap.size+1) (ks:=uZ) (BA _ ah) Hl.out rfl aB aB aB aB jT
 exact iP Tryz.results19 eF hv6 aF kY.out rfl ⟨s6,rfl,hfr,fun B hB=>BA B ah,tu.trans (eP.mono ah)⟩
end Go.Proofs.YtgmodehldmahiaaGreatDoor
end
section
namespace Go.Proofs.YtgmodehldmahiaaGreatDoor
open Go Go.RowKit Go.Tm
theorem Rh(s:ByteArray):(IL 64 s).1.size≤64:=by
 unfold IL
 rw[if_neg aB]
 split
 ·show ByteArray.size ⟨#[]⟩≤64
  decide
 ·rename_i h
  show(s++zeros _).size≤64
  rw[ByteArray.size_append,F6]
  omega
theorem NV(k:Kn)(n:Int):(bY k n).1.size≤64:=by
 unfold bY
 split
 ·exact Rh _
 ·show ByteArray.size ⟨#[]⟩≤64
  decide
theorem zA(k:Kn)(n:Int):(bY k n).1.size≤maxLen:=Nat.le_trans (NV k n) aB
theorem AU(k:Kn)(p:Tab.bV):cK (dV k p).2.1:=by
 unfold dV
 split
 ·exact jq
 ·dsimp only
  split
  ·exact⟨lq,lq⟩
  ·exact jq
end Go.Proofs.YtgmodehldmahiaaGreatDoor
end
section
namespace Go.Proofs.YtgmodehldmahiaaGreatDoor
open Go Go.RowKit Go.Tm
attribute [local go_sem] fB fA fu dR dA dQ dP dO dN dM dL dK dJ dI dH dG dF iq ig h_ g_ gZ gY gX gN gW gV fF fE fD fC eY eX eU
theorem VT:(Tryz.prog.info? 59).map (fun i=>(i.zero,i.size,i.bytes))=some (some (.agg #[.slice none 0 0,.slice none 0 0,.int .i64 0,.slice none 0 0,.slice none 0 0,.int .i64 0,.slice none 0 0,.int .u64 0,.slice none 0 0,.slice none 0 0,.slice none 0 0,.slice none 0 0,.string ⟨#[]⟩,.slice none 0 0,.slice none 0 0,.int .i64 0,.int .i64 0,.int .i64 0,.int .i64 0]),19,336):=by kernel_rfl
theorem RG(v:Value)(xs:List Value)(w:World)(hsl:Sl w true 19 v xs)(hbytes:xs.length*336≤140737488355328):
  Calls Tryz.prog 61 #[v] w fun e w'=>∃v',e=.returned v'∧bB w' w.heap.size 59 true 19 v' xs∧Below w.heap.size w w':=by
 have hsl0:=Lib.hid hsl
 obtain⟨hsz,a,cap,rfl,hl,hm,hform⟩:=hsl
 have hlen:xs.length≤maxLen:=ah
 cases a with
 |none=>
  have h0:xs=[]:=yu
  subst h0
  have hnil:=fun(n c:Nat) (w:World)=>eD Tryz.prog (t:=33) (n:=n) (c:=c) Tryz.underlying33 w
  clear hform hsz hl hm hlen
  go_enter Tryz.func61,Tryz.ntmps61
  exact yw
 |some a=>
  have hnil:=fun(n c:Nat) (w:World)=>eB Tryz.prog (t:=33) (a:=a) (n:=n) (c:=c) Tryz.underlying33 w
  obtain⟨i0,hi,hz0,hz1,hz2⟩:=info_parts VT
  have HI:=Lib.hid hi
  have HZ:=Lib.hid (And.intro hz0 (And.intro hz1 hz2))
  have HS:=Lib.hid hsz
  clear hi hz0 hz1 hz2 hform hl hm hsz
  go_enter Tryz.func61,Tryz.ntmps61
  go_wp2_with(first|(refine wpList_append_own _ rfl _ _ 33 rfl w.heap.size 59 i0 (.agg #[.slice none 0 0,.slice none 0 0,.int .i64 0,.slice none 0 0,.slice none 0 0,.int .i64 0,.slice none 0 0,.int .u64 0,.slice none 0 0,.slice none 0 0,.slice none 0 0,.slice none 0 0,.string ⟨#[]⟩,.slice none 0 0,.slice none 0 0,.int .i64 0,.int .i64 0,.int .i64 0,.int .i64 0]) 19 336 Tryz.underlying33 HI.out HZ.out.1 HZ.out.2.1 HZ.out.2.2 rfl aB (.slice (some ⟨w.heap.size,0,none⟩) 0 0) 0 [] bT (World.ownsRow_made w #[] 0 (Nat.le_refl _) (Nat.zero_le _) rfl) a xs.length cap (flat xs) bT ?c1 ?c2 ?c3 ?c4 ?c5 ?c6 ?_)|fail)
  case c1=>exact dX HS.out
  case c2=>exact(hsl0.out.below ((Below.refl _ _).alloc (Nat.le_refl _) _)).news
  case c3=>exact iD HS.out
  case c4=>omega
  case c5=>omega
  case c6=>simp
  exact yC
theorem Jh:(Tryz.prog.info? 172).map (fun i=>(i.zero,i.size,i.bytes))=some (some (.slice none 0 0),1,24):=by kernel_rfl
theorem RF(v:Value)(xs:List Value)(w:World)(hsl:Sl w false 1 v xs)(hbytes:xs.length*24≤140737488355328):
  Calls Tryz.prog 93 #[v] w fun e w'=>∃v',e=.returned v'∧bB w' w.heap.size 172 false 1 v' xs∧Below w.heap.size w w':=by
 have hsl0:=Lib.hid hsl
 obtain⟨hsz,a,cap,rfl,hl,hm,hform⟩:=hsl
 have hlen:xs.length≤maxLen:=ah
 cases a with
 |none=>
  have h0:xs=[]:=yu
  subst h0
  have hnil:=fun(n c:Nat) (w:World)=>eD Tryz.prog (t:=34) (n:=n) (c:=c) Tryz.underlying34 w
  clear hform hsz hl hm hlen
  go_enter Tryz.func93,Tryz.ntmps93
  exact yw
 |some a=>
  have hnil:=fun(n c:Nat) (w:World)=>eB Tryz.prog (t:=34) (a:=a) (n:=n) (c:=c) Tryz.underlying34 w
  obtain⟨i0,hi,hz0,hz1,hz2⟩:=info_parts Jh
  have HI:=Lib.hid hi
  have HZ:=Lib.hid (And.intro hz0 (And.intro hz1 hz2))
  have HS:=Lib.hid hsz
  clear hi hz0 hz1 hz2 hform hl hm hsz
  go_enter Tryz.func93,Tryz.ntmps93
  go_wp2_with(first|(refine wpList_append_own _ rfl _ _ 34 rfl w.heap.size 172 i0 (.slice none 0 0) 1 24 Tryz.underlying34 HI.out HZ.out.1 HZ.out.2.1 HZ.out.2.2 rfl aB (.slice (some ⟨w.heap.size,0,none⟩) 0 0) 0 [] bT (World.ownsRow_made w #[] 0 (Nat.le_refl _) (Nat.zero_le _) rfl) a xs.length cap (flat xs) bT ?c1 ?c2 ?c3 ?c4 ?c5 ?c6 ?_)|fail)
  case c1=>exact dX HS.out
  case c2=>exact(hsl0.out.below ((Below.refl _ _).alloc (Nat.le_refl _) _)).news
  case c3=>exact iD HS.out
  case c4=>omega
  case c5=>omega
  case c6=>simp
  exact yC
theorem SQ:Ty Tryz.prog 172 1 false:=⟨aj,aj,aB,aj⟩
theorem MU(v:Value)(xs:List Value)(i:Nat)(x:Value)(w:World)(hsl:Sl w false 1 v xs)(hi:i<xs.length)(hx:Val false 1 x)(hn:xs.length≤1048576):
  Calls Tryz.prog 80 #[v,.int .i64 i,x] w fun e w'=>∃v',e=.returned v'∧bB w' w.heap.size 172 false 1 v' (xs.set i x)∧Below w.heap.size w w':=by
 have HS:=Lib.hid hsl
 have HX:=Lib.hid hx
 obtain⟨a,c,rfl,hl⟩:=hsl.shape
 clear hsl hx
 go_enter Tryz.func80,Tryz.ntmps80
 go_wp2_with fail
 with_reducible refine(RF _ xs _ HS.out ah).mono ?_
 rintro en w8 ⟨v8,rfl,xQ,jU⟩
 obtain⟨g,n6,rfl,O7,Xu,hbg,hgl,hfg,hcg⟩:=xQ.form ah
 have OJ:=jU.size
 have zN:=Lib.hid xQ
 clear hfg hcg xQ
 go_wp2_with(first|((with_reducible refine bO 172 ?_);(refine dw (base:=w.heap.size) rfl _ _ rfl SQ g xs.length n6 zN.out i hi ?_ x ?_ HX.out ?_;(exact aG);(exact aG);(intro oW zU nY;(have EC:=Lib.hid zU);(have XJ:=Lib.hid nY);(clear zU nY))))|fail)
 go_ret
 exact⟨_,rfl,EC.out,jU.trans (bq XJ.out hbg ah)⟩
theorem FP(v:Value)(xs:List Value)(i:Nat)(s:Ks)(k:Kn)(st bo:Int)(w:World)(hsl:Sl w true 19 v xs)(hi:i<xs.length)(hr:KR w s k)(hn:xs.length≤1048576):
  Calls Tryz.prog 35 #[v,.int .i64 i,iM s k st bo] w fun e w'=>∃v',e=.returned v'∧bB w' w.heap.size 59 true 19 v' (xs.set i (iM s k st bo))∧Below w.heap.size w w':=by
 have HS:=Lib.hid hsl
 have hx:=jM hr st bo
 have HX:=Lib.hid hx
 have Ud:=jW s k (sx st bo)
 obtain⟨a,c,rfl,hl⟩:=hsl.shape
 clear hsl hx hr
 go_enter Tryz.func35,Tryz.ntmps35
 go_wp2_with fail
 ((generalize bN:World.alloc _ _=w0);(have KB:aC w0 (w.heap.size) (xC s k (sx st bo)) 59:=bA);(have hb0:Below w.heap.size w w0:=bM);(have hz0:w0.heap.size=w.heap.size+1:=bX);(clear bN);(have KB:=Lib.hid KB))
 with_reducible refine(RG _ xs _ (HS.out.below hb0) ah).mono ?_
 rintro en w8 ⟨v8,rfl,xQ,jU⟩
 obtain⟨g,n6,rfl,O7,Xu,hbg,hgl,hfg,hcg⟩:=xQ.form ah
 have OJ:=jU.size
 have zN:=Lib.hid xQ
 have x9:=Lib.hid (KB.out.below jU KB.out.lt)
 clear hfg hcg xQ
 go_wp2_with(first|((with_reducible refine bS 59 ?_);(refine aJ rfl 59 _ rfl (xC s k (sx st bo)) eF (HX.out) x9.out ?_ ?_;(exact aG)))|((with_reducible refine bO 59 ?_);(refine dw (base:=w0.heap.size) rfl _ _ rfl eF g xs.length n6 zN.out i hi ?_ (iM s k st bo) ?_ HX.out ?_;(exact aG);(exact aG);(intro oW zU nY;(have EC:=Lib.hid zU);(have XJ:=Lib.hid nY);(clear zU nY))))|fail)
 go_ret
 exact⟨_,rfl,EC.out.le ah,hb0.trans ((jU.mono ah).trans (bq XJ.out ah ah))⟩
end Go.Proofs.YtgmodehldmahiaaGreatDoor
end
