/- Part 39 of 53 of the proof of topAlone_and_topApart. Conditions: see each. -/
import Derived.Test.YtgmodehldmahiaaGreatDoorB14
import Derived.Test.YtgmodehldmahiaaGreatDoorB38
set_option linter.unusedVariables false
set_option linter.unusedSimpArgs false
set_option maxRecDepth 8192
set_option maxHeartbeats 40000000
section
namespace Go.Proofs.YtgmodehldmahiaaGreatDoor
open Go Go.RowKit Go.Tm
attribute [local go_sem] Dr zV Cg uV uU Ce Cc Cb Ca
theorem X5(s:Ks)(k:Kn)(st bo:Int):Array.foldl (fun(cs:Array Value) (x:Value×Nat)=>cs.setIfInBounds x.snd x.fst) #[Value.slice none 0 0,Value.slice none 0 0,Value.int IntKind.i64 0,Value.slice none 0 0,Value.slice none 0 0,Value.int IntKind.i64 0,Value.slice none 0 0,Value.int IntKind.u64 0,Value.slice none 0 0,Value.slice none 0 0,Value.slice none 0 0,Value.slice none 0 0,Value.string {data:=#[]},Value.slice none 0 0,Value.slice none 0 0,Value.int IntKind.i64 0,Value.int IntKind.i64 0,Value.int IntKind.i64 0,Value.int IntKind.i64 0,Value.int IntKind.i64 0,Value.int IntKind.i64 0,Value.int IntKind.i64 0,Value.int IntKind.i64 0] (xC s k (sx st bo)).zipIdx 0 19=xC s k (wx st bo (0,0,0,0)):=by
 rw[rP,rP,gT];kernel_rfl
theorem adS(s:Ks)(k:Kn)(ex:Array Value)(v:Value):(xC s k ex).setIfInBounds 19 v=xC s k (ex.setIfInBounds 2 v):=ES s k ex 2 v
theorem adR(s:Ks)(k:Kn)(ex:Array Value)(v:Value):(xC s k ex).setIfInBounds 20 v=xC s k (ex.setIfInBounds 3 v):=ES s k ex 3 v
theorem adQ(s:Ks)(k:Kn)(ex:Array Value)(v:Value):(xC s k ex).setIfInBounds 21 v=xC s k (ex.setIfInBounds 4 v):=ES s k ex 4 v
theorem adP(s:Ks)(k:Kn)(ex:Array Value)(v:Value):(xC s k ex).setIfInBounds 22 v=xC s k (ex.setIfInBounds 5 v):=ES s k ex 5 v
theorem Ay{W:World}{b:Nat}{s:Ks}{k:Kn}{st bo:Int}{x:Il}{t:TypeId}(h:aD W b (xC s k (wx st bo x)) t):Cells W b 0 (iC s k st bo).cells.toList:=fun j v hv=>by
 have hj:j<19:=by
  have:=(List.getElem?_eq_some_iff.1 hv).1
  rw[show(iC s k st bo).cells=xC s k (sx st bo) from rfl,Array.length_toList,lH] at this
  exact this
 rw[h.rules.1,Nat.zero_add]
 rw[show(iC s k st bo).cells=xC s k (sx st bo) from rfl,Array.getElem?_toList] at hv
 rw[←hv]
 by_cases QB:j<17
 ·rw[Dq _ _ _ QB,Dq _ _ _ QB]
 ·obtain rfl|rfl:j=17∨j=18:=by omega
  ·rw[uV,uV];rfl
  ·rw[uU,uU];rfl
theorem Ap:Ty Tryz.prog 74 4 true:=⟨ay,ay,aC,ay⟩
noncomputable def oZ(x:Il)(k:Kn)(st bo:Int):Kn×Int×Int:=
 if st=1 then eY x (lK k) (if(lK k).want=1 then 2 else if(lK k).want=2 then 3 else 1) bo else(k,st,bo)
theorem Xa(s:Ks)(k:Kn)(st bo:Int)(x:Il)(w:World)(hr:KR w s k)(hs:st≠1):Calls Tryz.prog 62 #[I7 x,iC s k st bo] w (JG w s k k st bo):=by
 have HR:=ah hr
 have hv:=iT hr st bo
 have e1:(st==1)=false:=oU
 have HG:=ah (fun W=>Fp s k st bo W)
 rw[e1] at HG
 have MU:kP.size=19:=rfl
 have Zg:(xC s k (sx st bo)).size=19:=yw
 clear hr hs
 go_enter Tryz.func62,Tryz.ntmps62
 go_wp2_with(first|((with_reducible refine cK 59 ?_);(generalize bR:World.alloc _ _=w0;have KX:aD w0 (w.heap.size) (#[.int .i64 x.1,.int .i64 x.2.1,.int .i64 x.2.2.1,.int .i64 x.2.2.2]) 74:=bH;have KB:aD w0 (w.heap.size+1) (xC s k (sx st bo)) 59:=bH;have KZ:aD w0 (w.heap.size+1+1) (kP) 59:=bH;have hb0:Below w.heap.size w w0:=bN;have hz0:w0.heap.size=w.heap.size+1+1+1:=bX;clear bR;have KX:=ah KX;have KB:=ah KB;have KZ:=ah KZ);(refine aK rfl 59 _ rfl (xC s k (sx st bo)) dH hv KB.out ?_ ?_;(exact aM)))|fail)
 with_reducible refine(HG.out w0).mono ?_
 rintro en w1 ⟨rfl,hb1⟩
 have hz1:=hb1.size
 have p8:=ah (KB.out.below hb1 KB.out.lt)
 have Er:=ah (KZ.out.below hb1 KZ.out.lt)
 have bW:=hb0.trans (hb1.mono hb0.size)
 go_wp2_with(first|((with_reducible refine cK 59 ?_);(refine aK rfl 59 _ rfl (xC s k (sx st bo)) dH (hv) p8.out ?_ ?_;(exact aM)))|((with_reducible refine bS 59 ?_);(refine aR rfl 59 _ _ rfl Er.out (iC s k st bo) dH (hv) ?_ (_) (gM 19 nZ ()) ?_ ?_ ?_;(exact gG);(exact aM);(exact aM);(intro N7 nN oP zB f_;have pI:=ah nN)))|fail)
 have sK:=(HR.out.below bW).bP (R:=w.heap.size+1+1) (ks:=yI) (HR.out.away aj) Er.out rfl aC aC aC aC oP
 exact jH Tryz.results62 dH hv aF pI.out rfl ⟨s,rfl,sK,fun _ _ h=>h,bW.trans (f_.mono aj)⟩
theorem W_(s:Ks)(k:Kn)(bo:Int)(x:Il)(w:World)(hr:KR w s k)(hT:jw w)(hf:DX k)(hl:(lK k).gone≠0→Mg x (lK k).gone=3→rA x.1 (lK k)):
  Calls Tryz.prog 62 #[I7 x,iC s k 1 bo] w (JG w s k (oZ x k 1 bo).1 (oZ x k 1 bo).2.1 (oZ x k 1 bo).2.2):=by
 have HR:=ah hr
 have hv:=iT hr 1 bo
 have MQ:=hr.val
 have HG:=ah (fun W=>Fp s k 1 bo W)
 have HS:=ah (fun W h1 h2=>aeD s k W h1 h2 hf)
 have Et:=ah (fun W (h:Below w.heap.size w W)=>hT.below h)
 obtain⟨y,hy⟩:∃y,y=oZ x k 1 bo:=⟨_,rfl⟩
 rw[←hy]
 unfold oZ at hy
 rw[if_pos rfl] at hy
 generalize lK k=k3 at*
 have HY:=ah hy
 have HL:=ah hl
 have MU:kP.size=19:=rfl
 have RF:=X5 s k 1 bo
 clear hr hT hf hl hy
 go_enter Tryz.func62,Tryz.ntmps62
 go_wp2_with(first|((with_reducible refine cK 59 ?_);(generalize bR:World.alloc _ _=w0;have KX:aD w0 (w.heap.size) (#[.int .i64 x.1,.int .i64 x.2.1,.int .i64 x.2.2.1,.int .i64 x.2.2.2]) 74:=bH;have KB:aD w0 (w.heap.size+1) (xC s k (sx 1 bo)) 59:=bH;have KZ:aD w0 (w.heap.size+1+1) (kP) 59:=bH;have hb0:Below w.heap.size w w0:=bN;have hz0:w0.heap.size=w.heap.size+1+1+1:=bX;clear bR;have KX:=ah KX;have KB:=ah KB;have KZ:=ah KZ);(refine aK rfl 59 _ rfl (xC s k (sx 1 bo)) dH hv KB.out ?_ ?_;(exact aM)))|fail)
 with_reducible refine(HG.out w0).mono ?_
 rintro en w1 ⟨rfl,hb1⟩
 have hz1:=hb1.size
 have p8:=ah (KB.out.below hb1 KB.out.lt)
 have Er:=ah (KZ.out.below hb1 KZ.out.lt)
 have FT:=ah (KX.out.below hb1 KX.out.lt)
 have bW:=hb0.trans (hb1.mono hb0.size)
 have vO:w.heap.size+1+1+1≤w0.heap.size:=aj
 clear hz0
 obtain⟨gL,iZ,hlx,iY,hmx⟩:=aD.rules FT.out
 have Zg:(xC s k (sx 1 bo)).size=19:=yw
 have aoh:(xC s k (wx 1 bo (0,0,0,0))).size=23:=yw
 go_wp2_with(first|((with_reducible refine cK 59 ?_);(refine aK rfl 59 _ rfl (xC s k (sx 1 bo)) dH (hv) p8.out ?_ ?_;(exact aM)))|((with_reducible refine cK 57 ?_);generalize bR:World.alloc _ _=w2;have KBw:aD w2 w1.heap.size (xC s k (wx 1 bo x)) 113:=(by rw[←bR];exact(aD.new w1 _ _).cast (by simp only[adS,adR,adQ,adP];rfl));have hb2:Below w1.heap.size w1 w2:=bN;have hcc:=ru KBw;have tC:=ah KBw;clear bR KBw gL Zg aoh RF;(refine aN rfl 57 _ rfl w1.heap.size 0 ?_ (.agg (kC s k)) eU MQ hcc ?_;(exact aM)))|fail)
 have hz2:=hb2.size
 have bM:=bW.trans (hb2.mono aj)
 have Uk:=ah (Er.out.below hb2 Er.out.lt)
 with_reducible refine(HS.out w2 (HR.out.below bM) (Et.out w2 bM)).mono ?_
 rintro en w3 ⟨s3,rfl,uI,vQ,hb3⟩
 have hz3:=hb3.size
 have OB:=uI.val
 have pF:=ah (tC.out.below hb3 tC.out.lt)
 have Ob:=ah (Uk.out.below hb3 Uk.out.lt)
 have hlw:=tC.out.lt
 have Mi:=ah uI
 have Dl:=ah vQ
 have afZ:(xC s k (wx 1 bo x)).size=23:=yw
 have gZ:=bM.trans (hb3.mono aj)
 clear uI vQ
 go_upto_block 0 with(first|((with_reducible refine bS 57 ?_);(refine aR rfl 57 _ _ rfl pF.out (.agg (kC s3 k3)) eU (OB) ?_ (_) (Jv s s3 k k3 (wx 1 bo x)) ?_ ?_ ?_;(exact gG);(exact aM);(exact aM);(intro w4 Uj hg4 xU hb4;have Zb:=ah Uj;have hcw:=Uj.rules.1)))|fail)
 have arX:=hg4.size
 have HW4:Hid (SW w4 w1.heap.size s3 k3 1 bo x):=ah ⟨Zb.out,Mi.out.bP (ks:=wu) (Dl.out _ hlw (HR.out.away aj)) pF.out (vC HR.out _) zU aC aC aC hg4,Dl.out _ hlw (HR.out.away aj)⟩
 have M0:=ah (Ob.out.grown hg4 aV)
 have jK:Below w.heap.size w w4:=gZ.trans (bJ hg4 aj aj)
 obtain⟨hcw,hfw,asl,hnw,hmw⟩:=Zb.out.rules
 by_cases g1:k3.want=1
 ·have hy:=HY.out
  have d1:(k3.want==1)=true:=by simp[g1]
  rw[if_pos g1] at hy
  clear g1
  go_wp2_with fail
  generalize bR:World.setCell _ _ _=w5
  have Y1:Hid (SW w5 w1.heap.size s3 k3 2 bo x):=ah ah_
  have nK:w4.grownBy w5 (some w1.heap.size):=qg
  have LP:=nK.size
  have YX:=ah (M0.out.grown nK aV)
  have iE:=jK.trans (bJ (n:=w.heap.size) nK aj aj)
  clear bR hcw
  with_reducible refine(AJ w5 w1.heap.size s3 k3 2 bo x Y1.out HL.out).mono ?_
  rintro en w6 ⟨rfl,s6,x9,C9,A8⟩
  have hz6:=A8.size
  have abZ:=ah x9
  have FL:=iT x9.kr (eY x k3 2 bo).2.1 (eY x k3 2 bo).2.2
  have Oa:=Ay x9.box
  have LY:=ah (YX.out.grown A8 aV)
  have Bb:∀B,B<w0.heap.size→jF B s k→jF B s6 (eY x k3 2 bo).1:=fun B hB h=>C9 B aj aj (Dl.out B aj h)
  have mD:Below w.heap.size w w6:=iE.trans (bJ A8 aj aj)
  clear x9 C9
  subst hy
  go_wp2_with(first|((with_reducible refine cK 59 ?_);(refine aN rfl 59 _ rfl w1.heap.size (0) ?_ (iC s6 (eY x k3 2 bo).1 (eY x k3 2 bo).2.1 (eY x k3 2 bo).2.2) dH (FL) Oa ?_;(exact aM)))|((with_reducible refine bS 59 ?_);(refine aR rfl 59 _ _ rfl LY.out (iC s6 (eY x k3 2 bo).1 (eY x k3 2 bo).2.1 (eY x k3 2 bo).2.2) dH (FL) ?_ (_) (gM 19 nZ ()) ?_ ?_ ?_;(exact gG);(exact aM);(exact aM);(intro N7 nN oP zB f_;have pI:=ah nN)))|fail)
  exact acM
 by_cases g2:k3.want=2
 ·have hy:=HY.out
  have d1:(k3.want==1)=false:=by simp[g1]
  have d2:(k3.want==2)=true:=by simp[g2]
  rw[if_neg g1,if_pos g2] at hy
  clear g1 g2
  go_wp2_with fail
  generalize bR:World.setCell _ _ _=w5
  have Y1:Hid (SW w5 w1.heap.size s3 k3 3 bo x):=ah ah_
  have nK:w4.grownBy w5 (some w1.heap.size):=qg
  have LP:=nK.size
  have YX:=ah (M0.out.grown nK aV)
  have iE:=jK.trans (bJ (n:=w.heap.size) nK aj aj)
  clear bR hcw
  with_reducible refine(AJ w5 w1.heap.size s3 k3 3 bo x Y1.out HL.out).mono ?_
  rintro en w6 ⟨rfl,s6,x9,C9,A8⟩
  have hz6:=A8.size
  have abZ:=ah x9
  have FL:=iT x9.kr (eY x k3 3 bo).2.1 (eY x k3 3 bo).2.2
  have Oa:=Ay x9.box
  have LY:=ah (YX.out.grown A8 aV)
  have Bb:∀B,B<w0.heap.size→jF B s k→jF B s6 (eY x k3 3 bo).1:=fun B hB h=>C9 B aj aj (Dl.out B aj h)
  have mD:Below w.heap.size w w6:=iE.trans (bJ A8 aj aj)
  clear x9 C9
  subst hy
  go_wp2_with(first|((with_reducible refine cK 59 ?_);(refine aN rfl 59 _ rfl w1.heap.size (0) ?_ (iC s6 (eY x k3 3 bo).1 (eY x k3 3 bo).2.1 (eY x k3 3 bo).2.2) dH (FL) Oa ?_;(exact aM)))|((with_reducible refine bS 59 ?_);(refine aR rfl 59 _ _ rfl LY.out (iC s6 (eY x k3 3 bo).1 (eY x k3 3 bo).2.1 (eY x k3 3 bo).2.2) dH (FL) ?_ (_) (gM 19 nZ ()) ?_ ?_ ?_;(exact gG);(exact aM);(exact aM);(intro N7 nN oP zB f_;have pI:=ah nN)))|fail)
  exact acM
 ·have hy:=HY.out
  have d1:(k3.want==1)=false:=by simp[g1]
  have d2:(k3.want==2)=false:=by simp[g2]
  rw[if_neg g1,if_neg g2] at hy
  clear g1 g2
  go_wp2_with fail
  have Y1:=HW4
  have YX:=M0
  have iE:=jK
  with_reducible refine(AJ w4 w1.heap.size s3 k3 1 bo x Y1.out HL.out).mono ?_
  rintro en w6 ⟨rfl,s6,x9,C9,A8⟩
  have hz6:=A8.size
  have abZ:=ah x9
  have FL:=iT x9.kr (eY x k3 1 bo).2.1 (eY x k3 1 bo).2.2
  have Oa:=Ay x9.box
  have LY:=ah (YX.out.grown A8 aV)
  have Bb:∀B,B<w0.heap.size→jF B s k→jF B s6 (eY x k3 1 bo).1:=fun B hB h=>C9 B aj aj (Dl.out B aj h)
  have mD:Below w.heap.size w w6:=iE.trans (bJ A8 aj aj)
  clear x9 C9
  subst hy
  go_wp2_with(first|((with_reducible refine cK 59 ?_);(refine aN rfl 59 _ rfl w1.heap.size (0) ?_ (iC s6 (eY x k3 1 bo).1 (eY x k3 1 bo).2.1 (eY x k3 1 bo).2.2) dH (FL) Oa ?_;(exact aM)))|((with_reducible refine bS 59 ?_);(refine aR rfl 59 _ _ rfl LY.out (iC s6 (eY x k3 1 bo).1 (eY x k3 1 bo).2.1 (eY x k3 1 bo).2.2) dH (FL) ?_ (_) (gM 19 nZ ()) ?_ ?_ ?_;(exact gG);(exact aM);(exact aM);(intro N7 nN oP zB f_;have pI:=ah nN)))|fail)
  exact acM
theorem AQ(s:Ks)(k:Kn)(st bo:Int)(x:Il)(w:World)(hr:KR w s k)(hT:jw w)(hf:st=1→DX k)(hl:st=1→(lK k).gone≠0→Mg x (lK k).gone=3→rA x.1 (lK k)):
  Calls Tryz.prog 62 #[I7 x,iC s k st bo] w (JG w s k (oZ x k st bo).1 (oZ x k st bo).2.1 (oZ x k st bo).2.2):=by
 by_cases h:st=1
 ·subst h;exact W_ s k bo x w hr hT (hf rfl) (hl rfl)
 ·rw[show oZ x k st bo=(k,st,bo) from by unfold oZ;rw[if_neg h]]
  exact Xa s k st bo x w hr h
end Go.Proofs.YtgmodehldmahiaaGreatDoor
end
section
namespace Go.Proofs.YtgmodehldmahiaaGreatDoor
open Go Go.RowKit Go.Tm
attribute [local go_sem] Dr zV Cg uV uU Ce Cc Cb Ca
theorem afa(s:Ks)(k:Kn):Array.foldl (fun(cs:Array Value) (x:Value×Nat)=>cs.setIfInBounds x.snd x.fst) #[Value.slice none 0 0,Value.slice none 0 0,Value.int IntKind.i64 0,Value.slice none 0 0,Value.slice none 0 0,Value.int IntKind.i64 0,Value.slice none 0 0,Value.int IntKind.u64 0,Value.slice none 0 0,Value.slice none 0 0,Value.slice none 0 0,Value.slice none 0 0,Value.string {data:=#[]},Value.slice none 0 0,Value.slice none 0 0,Value.int IntKind.i64 0,Value.int IntKind.i64 0,Value.int IntKind.i64 0,Value.int IntKind.i64 0] (kC s k).zipIdx 0 17=xC s k (sx 0 0):=by
 rw[rP,gT];kernel_rfl
noncomputable def vv(x:Il)(im:List ByteArray)(ou ins:List aW.Ch):Kn×Int×Int:=eY x (kN x.1 im ou ins 0) 1 1
theorem abo(x:Il)(vi vo vn:Value)(im:List ByteArray)(ou ins:List aW.Ch)(w:World)(hi:Sl w false 1 vi (rE im))(ho:Sl w true 5 vo (aW.oC ou))(hn:Sl w true 5 vn (aW.oC ins))
  (hf:Fit (nC x.1 im ou ins 0))(hsz:(dB (nC x.1 im ou ins 0) 0).1.size≤maxLen)(FP:im.length≤8796093022208)(FN:ou.length≤1000000)(Am:ins.length≤1000000)
  (hl:(kN x.1 im ou ins 0).gone≠0→Mg x (kN x.1 im ou ins 0).gone=3→rA x.1 (kN x.1 im ou ins 0)):
  Calls Tryz.prog 19 #[I7 x,vi,vo,vn] w fun e w'=>∃s',e=.returned (iC s' (vv x im ou ins).1 (vv x im ou ins).2.1 (vv x im ou ins).2.2)∧KR w' s' (vv x im ou ins).1∧(∀B,B<w.heap.size→jF B s' (vv x im ou ins).1)∧Below w.heap.size w w':=by
 have HBO:=ah (fun W h1 h2 h3=>Ed x.1 vi vo vn im ou ins 0 W h1 h2 h3 hf hsz FP FN Am)
 have HI:=ah hi
 have HO:=ah ho
 have HN:=ah hn
 unfold vv
 generalize kN x.1 im ou ins 0=kb at*
 have HL:=ah hl
 have MU:kP.size=19:=rfl
 have RF:=fun s'=>afa s' kb
 have alI:=fun s'=>X5 s' kb 1 1
 have ao8:=fun s' v=>B_ s' kb (sx 0 0) v
 have ao7:=fun s' v=>VB s' kb (sx 1 0) v
 have aoX:=fun s'=>kY s' kb
 have aoW:=fun s'=>(show(xC s' kb (sx 0 0)).size=19 from by rw[lH];rfl)
 have aoc:=fun s'=>(show(xC s' kb (sx 1 1)).size=19 from by rw[lH];rfl)
 have aoV:=fun s'=>(show(xC s' kb (wx 1 1 (0,0,0,0))).size=23 from by rw[lH];rfl)
 clear hi ho hn hl
 go_enter Tryz.func19,Tryz.ntmps19
 go_wp2_with fail
 (generalize bR:World.alloc _ _=w0;have KX:aD w0 (w.heap.size) (#[.int .i64 x.1,.int .i64 x.2.1,.int .i64 x.2.2.1,.int .i64 x.2.2.2]) 74:=bH;have KZ:aD w0 (w.heap.size+1) (kP) 59:=bH;have hb0:Below w.heap.size w w0:=bN;have hz0:w0.heap.size=w.heap.size+1+1:=bX;clear bR;have KX:=ah KX;have KZ:=ah KZ)
 have vO:w.heap.size+1+1≤w0.heap.size:=aj
 clear hz0
 obtain⟨gL,iZ,hlx,iY,hmx⟩:=aD.rules KX.out
 ((refine aY (fun W=>Below w0.heap.size w0 W) (fun i=>decide (i<9)) ay ?_);
          have hS:Below w0.heap.size w0 w0.drew:=(Below.refl _ _).drew;
          (refine tk 0 10 hS ?_);
          (refine tk 1 11 hS ?_ (hy:=Or.inl ⟨aF,ah4⟩));
          (refine tk 2 12 hS ?_);
          (refine tk 3 13 hS ?_);
          (refine tk 4 14 hS ?_);
          (refine tk 7 17 hS ?_ (hy:=Or.inl ⟨aF,ah4⟩));
          (refine aJ 5 (oi:=⟨some 15,_,_,_,_,_⟩) rfl ay rfl (fun K hK=>?_));
          (go_simp;(with_reducible refine(HBO.out _ (HI.out.below (hb0.trans (hS.mono hb0.size))) (HO.out.below (hb0.trans (hS.mono hb0.size))) (HN.out.below (hb0.trans (hS.mono hb0.size)))).mono ?_);rintro en w3 ⟨s3,rfl,uI,vQ,hb3⟩;have hS:=hS.trans (Below.mono hb3 hS.size);skip;(try go_wp2_with fail));
          (refine hK.out _ _ (fun _=>b_) ?_;clear hK K);
          (try simp only[pt]);
          (refine tk 6 16 hS ?_);
          (refine tk 8 18 hS ?_);
          (refine aZ 9 ay ?_ rfl);
          simp only[List.toList_toArray,List.drop_succ_cons,List.drop_zero])
 have hz3:=hS.size
 have Mi:=ah uI
 have Dl:=ah (show∀B,B<w0.heap.size→jF B s3 kb from fun B hB=>vQ B (by simp only[bQ] at*;omega))
 have Ob:=ah (KZ.out.below hS KZ.out.lt)
 have gZ:=hb0.trans (hS.mono hb0.size)
 clear uI vQ RF alI ao8 ao7 aoX aoW aoc aoV gL iZ hlx iY hmx
 go_wp2_with fail
 generalize bR:World.alloc _ _=w4
 have KBw:aD w4 w3.heap.size (xC s3 kb (wx 1 1 x)) 113:=by
  rw[←bR]
  refine(aD.new w3 _ _).cast ?_
  simp only[B_,VB,adS,adR,adQ,adP]
  try rfl
 have hb4:Below w3.heap.size w3 w4:=bN
 have xU:=hb4.size
 have hlw:=KBw.lt
 have Y1:Hid (SW w4 w3.heap.size s3 kb 1 1 x):=ah ⟨KBw,Mi.out.below hb4,Mi.out.away (Nat.le_refl _)⟩
 have M0:=ah (Ob.out.below hb4 Ob.out.lt)
 have Xy:=Ob.out.lt
 have jK:=gZ.trans (hb4.mono aj)
 clear bR KBw
 with_reducible refine(AJ w4 w3.heap.size s3 kb 1 1 x Y1.out HL.out).mono ?_
 rintro en w6 ⟨rfl,s6,x9,C9,A8⟩
 have hz6:=A8.size
 have abZ:=ah x9
 have FL:=iT x9.kr (eY x kb 1 1).2.1 (eY x kb 1 1).2.2
 have Oa:=Ay x9.box
 have LY:=ah (M0.out.grown A8 aV)
 have Bb:∀B,B<w0.heap.size→jF B s6 (eY x kb 1 1).1:=fun B hB=>C9 B aj aj (Dl.out B hB)
 have mD:Below w.heap.size w w6:=jK.trans (bJ A8 aj aj)
 clear x9 C9
 go_wp2_with(first|((with_reducible refine cK 59 ?_);(refine aN rfl 59 _ rfl w3.heap.size (0) ?_ (iC s6 (eY x kb 1 1).1 (eY x kb 1 1).2.1 (eY x kb 1 1).2.2) dH (FL) Oa ?_;(exact aM)))|((with_reducible refine bS 59 ?_);(refine aR rfl 59 _ _ rfl LY.out (iC s6 (eY x kb 1 1).1 (eY x kb 1 1).2.1 (eY x kb 1 1).2.2) dH (FL) ?_ (_) (gM 19 nZ ()) ?_ ?_ ?_;(exact gG);(exact aM);(exact aM);(intro N7 nN oP zB f_;have pI:=ah nN)))|fail)
 have sK:=abZ.out.kr.bP (R:=w.heap.size+1) (ks:=yI) (Bb _ aj) LY.out rfl aC aC aC aC oP
 exact jH Tryz.results19 dH FL aF pI.out rfl ⟨s6,rfl,sK,fun B hB=>Bb B aj,mD.trans (f_.mono aj)⟩
end Go.Proofs.YtgmodehldmahiaaGreatDoor
end
section
namespace Go.Proofs.YtgmodehldmahiaaGreatDoor
open Go Go.RowKit Go.Tm
theorem WL(s:ByteArray):(Np 64 s).1.size≤64:=by
 unfold Np
 rw[if_neg aC]
 split
 ·show ByteArray.size ⟨#[]⟩≤64
  decide
 ·rename_i h
  show(s++zeros _).size≤64
  rw[ByteArray.size_append,J7]
  omega
theorem TG(k:Kn)(n:Int):(dB k n).1.size≤64:=by
 unfold dB
 split
 ·exact WL _
 ·show ByteArray.size ⟨#[]⟩≤64
  decide
theorem CB(k:Kn)(n:Int):(dB k n).1.size≤maxLen:=Nat.le_trans (TG k n) aC
theorem D9(k:Kn)(p:aT.dz):dI (eZ k p).2.1:=by
 unfold eZ
 split
 ·exact kF
 ·dsimp only
  split
  ·exact⟨nG,nG⟩
  ·exact kF
end Go.Proofs.YtgmodehldmahiaaGreatDoor
end
section
namespace Go.Proofs.YtgmodehldmahiaaGreatDoor
open Go Go.RowKit Go.Tm
attribute [local go_sem] fO fM fK d_ dM dZ dY dX dW dV dU dS dR dQ dP dO dN iQ iP iO iN iM iL iK iG iJ iI fU fT fQ fP fI fH fC
theorem aaX:(Tryz.prog.info? 59).map (fun i=>(i.zero,i.size,i.bytes))=some (some (.agg #[.slice none 0 0,.slice none 0 0,.int .i64 0,.slice none 0 0,.slice none 0 0,.int .i64 0,.slice none 0 0,.int .u64 0,.slice none 0 0,.slice none 0 0,.slice none 0 0,.slice none 0 0,.string ⟨#[]⟩,.slice none 0 0,.slice none 0 0,.int .i64 0,.int .i64 0,.int .i64 0,.int .i64 0]),19,336):=by kernel_rfl
theorem Xg(v:Value)(xs:List Value)(w:World)(hsl:Sl w true 19 v xs)(hbytes:xs.length*336≤140737488355328):
  Calls Tryz.prog 61 #[v] w fun e w'=>∃v',e=.returned v'∧bI w' w.heap.size 59 true 19 v' xs∧Below w.heap.size w w':=by
 have rF:=ah hsl
 obtain⟨hsz,a,cap,rfl,hl,hm,dL⟩:=hsl
 have hlen:xs.length≤maxLen:=aj
 cases a with
 |none=>
  have h0:xs=[]:=Bp
  subst h0
  have hnil:=fun(n c:Nat) (w:World)=>fE Tryz.prog (t:=33) (n:=n) (c:=c) Tryz.underlying33 w
  clear dL hsz hl hm hlen
  go_enter Tryz.func61,Tryz.ntmps61
  exact Bq
 |some a=>
  have hnil:=fun(n c:Nat) (w:World)=>fD Tryz.prog (t:=33) (a:=a) (n:=n) (c:=c) Tryz.underlying33 w
  obtain⟨i0,hi,hz0,hz1,hz2⟩:=info_parts aaX
  have HI:=ah hi
  have HZ:=ah (And.intro hz0 (And.intro hz1 hz2))
  have HS:=ah hsz
  clear hi hz0 hz1 hz2 dL hl hm hsz
  go_enter Tryz.func61,Tryz.ntmps61
  go_wp2_with(first|(refine wpList_append_own _ rfl _ _ 33 rfl w.heap.size 59 i0 (.agg #[.slice none 0 0,.slice none 0 0,.int .i64 0,.slice none 0 0,.slice none 0 0,.int .i64 0,.slice none 0 0,.int .u64 0,.slice none 0 0,.slice none 0 0,.slice none 0 0,.slice none 0 0,.string ⟨#[]⟩,.slice none 0 0,.slice none 0 0,.int .i64 0,.int .i64 0,.int .i64 0,.int .i64 0]) 19 336 Tryz.underlying33 HI.out HZ.out.1 HZ.out.2.1 HZ.out.2.2 rfl aC (.slice (some ⟨w.heap.size,0,none⟩) 0 0) 0 [] dw (World.ownsRow_made w #[] 0 (Nat.le_refl _) (Nat.zero_le _) rfl) a xs.length cap (flat xs) dw ?c1 ?c2 ?c3 ?c4 ?c5 ?c6 ?_)|fail)
  case c1=>exact fA HS.out
  case c2=>exact(rF.out.below ((Below.refl _ _).alloc (Nat.le_refl _) _)).news
  case c3=>exact jq HS.out
  case c4=>omega
  case c5=>omega
  case c6=>simp
  exact L9
theorem NK:(Tryz.prog.info? 172).map (fun i=>(i.zero,i.size,i.bytes))=some (some (.slice none 0 0),1,24):=by kernel_rfl
theorem Xf(v:Value)(xs:List Value)(w:World)(hsl:Sl w false 1 v xs)(hbytes:xs.length*24≤140737488355328):
  Calls Tryz.prog 93 #[v] w fun e w'=>∃v',e=.returned v'∧bI w' w.heap.size 172 false 1 v' xs∧Below w.heap.size w w':=by
 have rF:=ah hsl
 obtain⟨hsz,a,cap,rfl,hl,hm,dL⟩:=hsl
 have hlen:xs.length≤maxLen:=aj
 cases a with
 |none=>
  have h0:xs=[]:=Bp
  subst h0
  have hnil:=fun(n c:Nat) (w:World)=>fE Tryz.prog (t:=34) (n:=n) (c:=c) Tryz.underlying34 w
  clear dL hsz hl hm hlen
  go_enter Tryz.func93,Tryz.ntmps93
  exact Bq
 |some a=>
  have hnil:=fun(n c:Nat) (w:World)=>fD Tryz.prog (t:=34) (a:=a) (n:=n) (c:=c) Tryz.underlying34 w
  obtain⟨i0,hi,hz0,hz1,hz2⟩:=info_parts NK
  have HI:=ah hi
  have HZ:=ah (And.intro hz0 (And.intro hz1 hz2))
  have HS:=ah hsz
  clear hi hz0 hz1 hz2 dL hl hm hsz
  go_enter Tryz.func93,Tryz.ntmps93
  go_wp2_with(first|(refine wpList_append_own _ rfl _ _ 34 rfl w.heap.size 172 i0 (.slice none 0 0) 1 24 Tryz.underlying34 HI.out HZ.out.1 HZ.out.2.1 HZ.out.2.2 rfl aC (.slice (some ⟨w.heap.size,0,none⟩) 0 0) 0 [] dw (World.ownsRow_made w #[] 0 (Nat.le_refl _) (Nat.zero_le _) rfl) a xs.length cap (flat xs) dw ?c1 ?c2 ?c3 ?c4 ?c5 ?c6 ?_)|fail)
  case c1=>exact fA HS.out
  case c2=>exact(rF.out.below ((Below.refl _ _).alloc (Nat.le_refl _) _)).news
  case c3=>exact jq HS.out
  case c4=>omega
  case c5=>omega
  case c6=>simp
  exact L9
theorem X8:Ty Tryz.prog 172 1 false:=⟨ay,ay,aC,ay⟩
theorem aeH(v:Value)(xs:List Value)(i:Nat)(x:Value)(w:World)(hsl:Sl w false 1 v xs)(hi:i<xs.length)(hx:Val false 1 x)(hn:xs.length≤1048576):
  Calls Tryz.prog 80 #[v,.int .i64 i,x] w fun e w'=>∃v',e=.returned v'∧bI w' w.heap.size 172 false 1 v' (xs.set i x)∧Below w.heap.size w w':=by
 have HS:=ah hsl
 have HX:=ah hx
 obtain⟨a,c,rfl,hl⟩:=hsl.shape
 clear hsl hx
 go_enter Tryz.func80,Tryz.ntmps80
 go_wp2_with fail
 with_reducible refine(Xf _ xs _ HS.out aj).mono ?_
 rintro en w8 ⟨v8,rfl,AY,ku⟩
 obtain⟨g,n6,rfl,UQ,abN,hbg,N_,hfg,hcg⟩:=AY.form aj
 have Uu:=ku.size
 have Ba:=ah AY
 clear hfg hcg AY
 go_wp2_with(first|((with_reducible refine bS 172 ?_);(refine eB (base:=w.heap.size) rfl _ _ rfl X8 g xs.length n6 Ba.out i hi ?_ x ?_ HX.out ?_;(exact aM);(exact aM);(intro rT Db qR;have IU:=ah Db;have ab5:=ah qR;clear Db qR)))|fail)
 go_ret
 exact⟨_,rfl,IU.out,ku.trans (bJ ab5.out hbg aj)⟩
theorem JN(v:Value)(xs:List Value)(i:Nat)(s:Ks)(k:Kn)(st bo:Int)(w:World)(hsl:Sl w true 19 v xs)(hi:i<xs.length)(hr:KR w s k)(hn:xs.length≤1048576):
  Calls Tryz.prog 35 #[v,.int .i64 i,iC s k st bo] w fun e w'=>∃v',e=.returned v'∧bI w' w.heap.size 59 true 19 v' (xs.set i (iC s k st bo))∧Below w.heap.size w w':=by
 have HS:=ah hsl
 have hx:=iT hr st bo
 have HX:=ah hx
 have Zg:=lH s k (sx st bo)
 obtain⟨a,c,rfl,hl⟩:=hsl.shape
 clear hsl hx hr
 go_enter Tryz.func35,Tryz.ntmps35
 go_wp2_with fail
 (generalize bR:World.alloc _ _=w0;have KB:aD w0 (w.heap.size) (xC s k (sx st bo)) 59:=bH;have hb0:Below w.heap.size w w0:=bN;have hz0:w0.heap.size=w.heap.size+1:=bX;clear bR;have KB:=ah KB)
 with_reducible refine(Xg _ xs _ (HS.out.below hb0) aj).mono ?_
 rintro en w8 ⟨v8,rfl,AY,ku⟩
 obtain⟨g,n6,rfl,UQ,abN,hbg,N_,hfg,hcg⟩:=AY.form aj
 have Uu:=ku.size
 have Ba:=ah AY
 have xg:=ah (KB.out.below ku KB.out.lt)
 clear hfg hcg AY
 go_wp2_with(first|((with_reducible refine cK 59 ?_);(refine aK rfl 59 _ rfl (xC s k (sx st bo)) dH (HX.out) xg.out ?_ ?_;(exact aM)))|((with_reducible refine bS 59 ?_);(refine eB (base:=w0.heap.size) rfl _ _ rfl dH g xs.length n6 Ba.out i hi ?_ (iC s k st bo) ?_ HX.out ?_;(exact aM);(exact aM);(intro rT Db qR;have IU:=ah Db;have ab5:=ah qR;clear Db qR)))|fail)
 go_ret
 exact⟨_,rfl,IU.out.le aj,hb0.trans ((ku.mono aj).trans (bJ ab5.out aj aj))⟩
end Go.Proofs.YtgmodehldmahiaaGreatDoor
end
