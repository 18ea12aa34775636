/- Part 47 of 50 of the proof of topWindows_holds. Conditions: see each. -/
import Derived.Test.YtgmodehldmahiaaGreatDoorW14
import Derived.Test.YtgmodehldmahiaaGreatDoorW46
set_option linter.unusedVariables false
set_option linter.unusedSimpArgs false
set_option maxRecDepth 8192
set_option maxHeartbeats 40000000
namespace Go.Proofs.YtgmodehldmahiaaGreatDoor
open Go Go.RowKit Go.Tm
attribute [local go_sem] fB fA fu dR dA dQ dP dO dN dM dL dK dJ dI dH dG dF iq ig h_ g_ gZ gY gX gN gW gV fF fE fD fC eY eX eU
attribute [local go_sem] Dm Dl Dk Dj Di Aj Dh Df Dc Db wQ
theorem Bc{P:Program}{fn:Func}{R:Ending→World→Prop}{a:Act}{W:World}{E t:TypeId}{k b:Nat}{p q:Tmp}{cs:Array Value}{v:Value}(h:fn.results=#[.cell p E,.tmp q])(hT:Ty P E k true)(hx:Val true k (.agg cs))(hp:a.tmps.getD p undef=.pointer (some ⟨b,0,none⟩))(hq:a.tmps.getD q undef=v)(hb:aC W b cs t)(hd:a.defers=[])
  (hR:R (.returned (.tuple #[.agg cs,v])) W):bodyPost P fn R .ret a W:=by
 refine bodyPost_ret (v:= .tuple #[.agg cs,v]) ?_ hd hR
 have hp':a.tmps[p]?.getD undef=.pointer (some ⟨b,0,none⟩):=by simpa using hp
 have hq':a.tmps[q]?.getD undef=v:=BK
 simp[results,h,hp',hq',asAddr,iB hT hx hb.cells]
theorem Tz:Val true 11 (.agg hC0):=⟨_,rfl,rfl,aB⟩
theorem aa5(pv wv cv iv:Value)(p:Plan.iE)(dZ:List (List ByteArray))(w:World)(hp:Plan.gq w pv wv cv p)(hi:xV w iv dZ)(hok:¬Plan.dW p):
  Calls Tryz.prog 8 #[Plan.wC pv wv cv p,iv] w fun e w'=>(∃k,e=.returned (.tuple #[.agg hC0,.int .i64 k])∧k≠0)∧Below w.heap.size w w':=by
 have HC:=Lib.hid (fun W h=>Plan.Cu pv wv cv p W h)
 have HP:=Lib.hid hp
 obtain⟨a1,c1,a2,c2,a3,c3,rfl,rfl,rfl,hl1,hl2,hl3⟩:=hp.shape
 obtain⟨ia,ic,rfl,hil⟩:=hi.shape
 have hval:=Tz
 have hsz0:hC0.size=11:=rfl
 clear hp hi
 go_enter Tryz.func8,Tryz.ntmps8
 go_wp2_with fail
 ((generalize bN:World.alloc _ _=w0);(have KB:aC w0 (w.heap.size) (#[.slice a1 p.parts.length c1,.int .i64 p.frame,.slice a2 p.wins.length c2,.slice a3 p.chans.length c3]) 26:=bA);(have KI:aC w0 (w.heap.size+1) (#[.slice ia dZ.length ic]) 27:=bA);(have KZ:aC w0 (w.heap.size+1+1) (hC0) 36:=bA);(have hb0:Below w.heap.size w w0:=bM);(have hz0:w0.heap.size=w.heap.size+1+1+1:=bX);(clear bN);(have KB:=Lib.hid KB);(have KI:=Lib.hid KI);(have KZ:=Lib.hid KZ))
 with_reducible refine(HC.out w0 (HP.out.below hb0)).mono ?_
 rintro en w1 ⟨⟨k,rfl,hk⟩,hb1⟩
 have hk0:k≠0:=fun h=>hok (hk.1 h)
 have hkb:(k !=0)=true:=by simp[hk0]
 have Bq:=Lib.hid (KZ.out.below hb1 KZ.out.lt)
 have bP:=hb0.trans (hb1.mono hb0.size)
 clear hk
 go_wp2_with(first|((with_reducible refine bO 36 ?_);(refine aN rfl 36 _ _ rfl Bq.out (.agg #[.slice none 0 0,.int .i64 0,.slice none 0 0,.slice none 0 0,.slice none 0 0,.int .u64 0,.int .i64 0,.int .i64 0,.slice none 0 0,.slice none 0 0,.int .i64 0]) d_ (hval) ?_ (_) (gJ 11 mY ()) ?_ ?_ ?_;(exact fK);(exact aG);(exact aG);(intro GR jD jT tq eP;(have kY:=Lib.hid jD))))|fail)
 exact Bc Tryz.results8 d_ hval aF aF kY.out rfl ⟨⟨k,rfl,hk0⟩,bP.trans (eP.mono ah)⟩
theorem Vx(n i:Nat)(hi:i<n):(madeCells #[Value.slice none 0 0] n)[i]?=some (.slice none 0 0):=by
 unfold madeCells
 rw[Array.getElem?_map,Array.getElem?_eq_getElem aR]
 simp[Nat.mod_one]
theorem Z7(w:World)(n:Nat)(hn:n≤1000000)(E:TypeId):Sl (w.alloc (.cells (madeCells #[Value.slice none 0 0] n) E)) false 1 (.slice (some ⟨w.heap.size,0,none⟩) n n) (List.replicate n (.slice none 0 0)):=by
 refine⟨?_,some ⟨w.heap.size,0,none⟩,n,by rw[List.length_replicate],aI,wJ,?_⟩
 ·intro x hx
  obtain⟨_,rfl⟩:=List.mem_replicate.1 hx
  exact⟨rfl,rfl⟩
 ·by_cases h0:n=0
  ·subst h0;exact .inl rfl
  ·refine .inr ⟨w.heap.size,0,rfl,aI,fun i x hx=>?_⟩
   rw[List.getElem?_replicate] at hx
   split at hx
   ·rename_i hi
    cases hx
    intro j v hv
    have hj:j<1:=(List.getElem?_eq_some_iff.1 hv).1
    obtain rfl:j=0:=by omega
    have hb:=(aC.new w (madeCells #[Value.slice none 0 0] n) E).rules.1 (0+i*1+0)
    simp only[Nat.zero_add,Nat.mul_one,Nat.add_zero] at hb⊢
    rw[hb,Vx n i hi]
    exact hv
   ·cases hx
theorem Dy{w:World}{o:Oper}{a:Act}{K:Act→World→Prop}{Q:Exit→Act→World→Prop}(q r:Operand)(ho:o.op=.makeSlice 34 q r)(n:Nat)(hn:n≤1000000)(hq:a.eval q=.int .i64 n)(hr:a.eval r=.int .i64 n)
  (h:∀q w',Sl w' false 1 (.slice (some ⟨q,0,none⟩) n n) (List.replicate n (.slice none 0 0))→Below w.heap.size w w'→w.heap.size≤q→q<w'.heap.size→K (a.put o.dst (.slice (some ⟨q,0,none⟩) n n)) w'):o.wp Tryz.prog a w K Q:=by
 obtain⟨i0,hi0,hz0,hs0,afV⟩:=info_parts Jh
 have hrun:=run_makeSlice (P:=Tryz.prog) w 34 172 i0 _ Tryz.underlying34 hi0 hz0 .i64 .i64 (n:Int) (n:Int) ah (Int.le_refl _) (by rw[hs0];omega) (by rw[afV];omega) ah
 rw[hs0] at hrun
 simp only[Int.toNat_natCast,Nat.mul_one] at hrun
 exact uq _ q r ho _ _ hq hr hrun (h _ _ (Z7 w n hn _) ((Below.refl _ _).alloc (Nat.le_refl _) _) (Nat.le_refl _) aI)
theorem Jg(a b c d e f g:Value)(x y z t:Int)(h:∀v∈[a,b,c,d,e,f],v.oneCell'=true):Val true 11 (.agg #[a,.int .i64 x,b,c,d,.int .u64 y,.int .i64 z,.int .i64 t,e,f,.int .i64 (-1)]):=⟨_,rfl,rfl,by
 intro v hv
 simp only[List.mem_cons,List.not_mem_nil,or_false] at hv h
 rcases hv with rfl|rfl|rfl|rfl|rfl|rfl|rfl|rfl|rfl|rfl|rfl<;>first|rfl|exact h _ aI⟩
theorem CJ{o:Oper}{a:Act}{w:World}{K:Act→World→Prop}{Q:Exit→Act→World→Prop}{s x:Operand}(ho:o.op=.call {callee:= .builtin .append,args:=#[s,x],argTypes:=#[33,33]}){base:Nat}{v:Value}{xs:List Value}(hs:a.eval s=v)
  (hown:bB w base sJ true 19 v xs)(hno:WR w v){u:Nat}{y:Array Value}(hy:Val true 19 (.agg y))(hyn:∀c∈y.toList,kind c≠2)(hsy:Sl w true 19 (.slice (some ⟨u,0,none⟩) 1 1) [.agg y])(hx:a.eval x=.slice (some ⟨u,0,none⟩) 1 1)(h63:xs.length+1≤1000)(hbase:base≤w.heap.size)
  (h:∀v' w',bB w' base sJ true 19 v' (xs++[.agg y])→WR w' v'→w.grownBy w' v.ownBlock→(v'.ownBlock=v.ownBlock∨v'.ownBlock=some w.heap.size)→K (a.put o.dst v') w'):o.wp Tryz.prog a w K Q:=by
 obtain⟨v',w',hr,h1,h2,h3,h4⟩:=D7 o.type hown hno hy hyn hsy h63 hbase
 exact qC ho hs hx hr (h v' w' h1 h2 h3 h4)
theorem zH{ops:Array Oper}{rest:List Oper}{o:Oper}{a:Act}{w:World}{Q:Exit→Act→World→Prop}(hgd:o.guard=none){s x:Operand}(ho:o.op=.call {callee:= .builtin .append,args:=#[s,x],argTypes:=#[33,33]}){base:Nat}{v:Value}{xs:List Value}
  (hown:bB w base sJ true 19 v xs)(hno:WR w v){u:Nat}{y:Array Value}(hy:Val true 19 (.agg y))(hyn:∀c∈y.toList,kind c≠2)(hsy:Sl w true 19 (.slice (some ⟨u,0,none⟩) 1 1) [.agg y])(hs:a.eval s=v)(hx:a.eval x=.slice (some ⟨u,0,none⟩) 1 1)(h63:xs.length+1≤1000)(hbase:base≤w.heap.size)
  (h:∀v' w',bB w' base sJ true 19 v' (xs++[.agg y])→WR w' v'→w.grownBy w' v.ownBlock→(v'.ownBlock=v.ownBlock∨v'.ownBlock=some w.heap.size)→wpList Tryz.prog ops Q rest (a.put o.dst v') w'):wpList Tryz.prog ops Q (o::rest) a w:=
 wpList_plain hgd fun K hK=>CJ ho hs hown hno hy hyn hsy hx h63 hbase fun v' w' h1 h2 h3 h4=>hK _ _ (h v' w' h1 h2 h3 h4)
theorem WR.below{w w':World}{v:Value}(h:WR w v)(hb:Below w.heap.size w w'):WR w' v:=fun g hg=>
 let⟨cs,hbx,hn⟩:=h g hg
 ⟨cs,hbx.below hb hbx.lt,hn⟩
theorem NM{w w':World}{ag:Bool}{k:Nat}{v:Value}{xs:List Value}{o:Option Nat}(h:Sl w ag k v xs)(hg:w.grownBy w' o)(ha:∀g,o=some g→Apart g v xs):Sl w' ag k v xs:=by
 cases o with
 |none=>exact h.below ⟨hg.os,hg.tape,hg.output,hg.size,fun k hk=>hg.block k hk aI⟩
 |some g=>exact h.bC hg (ha g rfl)
theorem VZ(pv wv cv iv:Value)(p:Plan.iE)(s:Hs)(h:Hn)(h1:kind pv=5)(h2:kind wv=5)(h3:kind cv=5)(h4:kind iv=5)(h5:kind s.sv=5)(h6:kind s.av=5):(hC pv wv cv iv p s h).toList.map kind=tO:=by
 rw[jK]
 simp only[List.map_cons,List.map_nil,h1,h2,h3,h4,h5,h6]
 rfl
theorem U1{us:List Ks}{xs:List St}(h:us.length=xs.length)(u:Ks)(x:St):ql us xs++[R5 u x]=ql (us++[u]) (xs++[x]):=by
 unfold ql
 rw[List.zipWith_append h]
 rfl
theorem Nt(pv wv cv iv:Value)(p:Plan.iE)(dZ:List (List ByteArray))(w:World)(hp:Plan.gq w pv wv cv p)(hi:xV w iv dZ)(hok:Plan.dW p)(him:L8 dZ):
  Calls Tryz.prog 8 #[Plan.wC pv wv cv p,iv] w fun e w'=>∃s',e=.returned (.tuple #[.agg (hC pv wv cv iv p s' (f_ p dZ)),.int .i64 0])∧MR w' s' (f_ p dZ) 0∧(∀B,B<w.heap.size→gG B s' (f_ p dZ))∧Below w.heap.size w w':=by
 have HC:=Lib.hid (fun W h=>Plan.Cu pv wv cv p W h)
 have HP:=Lib.hid hp
 have HI:=Lib.hid hi
 have hki:=hi.kind
 obtain⟨a1,c1,a2,c2,a3,c3,rfl,rfl,rfl,hl1,hl2,hl3⟩:=hp.shape
 obtain⟨ia,ic,rfl,hil⟩:=hi.shape
 have W9:=hok.ze
 have hsz0:hC0.size=11:=rfl
 clear hp hi
 go_enter Tryz.func8,Tryz.ntmps8
 go_wp2_with fail
 ((generalize bN:World.alloc _ _=w0);(have KB:aC w0 (w.heap.size) (#[.slice a1 p.parts.length c1,.int .i64 p.frame,.slice a2 p.wins.length c2,.slice a3 p.chans.length c3]) 26:=bA);(have KI:aC w0 (w.heap.size+1) (#[.slice ia dZ.length ic]) 27:=bA);(have KZ:aC w0 (w.heap.size+1+1) (hC0) 36:=bA);(have hb0:Below w.heap.size w w0:=bM);(have hz0:w0.heap.size=w.heap.size+1+1+1:=bX);(clear bN);(have KB:=Lib.hid KB);(have KI:=Lib.hid KI);(have KZ:=Lib.hid KZ))
 have sF:w.heap.size+3≤w0.heap.size:=ah
 with_reducible refine(HC.out w0 (HP.out.below hb0)).mono ?_
 rintro en w1 ⟨⟨k,rfl,hk⟩,hb1⟩
 obtain rfl:k=0:=hk.2 hok
 have hz1:=hb1.size
 have vV:=Lib.hid (KB.out.below hb1 KB.out.lt)
 have KI1:=Lib.hid (KI.out.below hb1 KI.out.lt)
 have Bq:=Lib.hid (KZ.out.below hb1 KZ.out.lt)
 have bP:=hb0.trans (hb1.mono hb0.size)
 have ak4:w.heap.size+3≤w1.heap.size:=ah
 clear hk hz0 hb1
 (obtain⟨hcb,bn,hlb,hnb,hmb⟩:=aC.rules vV.out)
 (obtain⟨hci,hfi,Eb,hni,hmi⟩:=aC.rules KI1.out)
 go_wp2_with fail
 refine MF (α:=Nat) (β:=Nat) (fun qm qa W=>aC W qa (hC (.slice a1 p.parts.length c1) (.slice a2 p.wins.length c2) (.slice a3 p.chans.length c3) (.slice ia dZ.length ic) p ⟨.slice none 0 0,[],.slice (some ⟨qm,0,none⟩) p.parts.length p.parts.length,List.replicate p.parts.length (.slice none 0 0),List.replicate p.parts.length []⟩ ⟨0,0,0,[],-1⟩) 36∧Sl W false 1 (.slice (some ⟨qm,0,none⟩) p.parts.length p.parts.length) (List.replicate p.parts.length (.slice none 0 0))∧Below w1.heap.size w1 W∧w1.heap.size≤qa∧w1.heap.size≤qm∧qm≠qa∧qm<W.heap.size) ?G ?_ ?_
 rotate_left
 focus((refine aY (fun W=>Below w1.heap.size w1 W) (fun i=>decide (i<8)) aj ?_);
                  (have hS:Below w1.heap.size w1 w1.drew:=(Below.refl _ _).drew);
                  (refine tk 0 17 hS ?_ (hy:=Or.inl ⟨aF,EG⟩));
                  (refine tk 1 18 hS ?_ (hy:=Or.inl ⟨aF,EG⟩));
                  (refine tk 2 19 hS ?_);
                  (refine tk 3 20 hS ?_ (hy:=Or.inl ⟨aF,EG⟩));
                  (refine tk 4 21 hS ?_);
                  (refine gI 5 7 (oi:=⟨some 22,_,_,_,_,_⟩) (oj:=⟨some 7,_,_,_,_,_⟩) rfl rfl aj rfl rfl (fun K hK=>?_) (fun K hK=>?_));
                  (focus(((refine Dy _ _ rfl p.parts.length ah bg bg ?_;intro qm wm Hu hbm hqm ajS));(refine hidS hK (hS.trans (hbm.mono hS.size)) (fun hS=>?_);clear hK K);(try simp only[pt]);((try(have hba:=hba.below hbm O6)));(refine tk 6 23 hS ?_);(try simp only[pt]);(refine aK 7 (oi:=⟨some 7,_,_,_,_,_⟩) rfl aj rfl (fun K hK=>?_));((refine gD 36 rfl (z:= .agg hC0) aj hC0 rfl ?_;intro qa wa hba hbb xX O6));(refine hidS hK (hS.trans (hbb.mono hS.size)) (fun hS=>?_);clear hK K);(try simp only[pt]);((try(have Hu:=Hu.below hbb)));(refine aT 8 aj ?_ rfl);(simp only[List.toList_toArray,List.drop_succ_cons,List.drop_zero]);((have afv:=Jg (.slice a1 p.parts.length c1) (.slice a2 p.wins.length c2) (.slice a3 p.chans.length c3) (.slice ia dZ.length ic) (.slice none 0 0) (.slice (some ⟨qm,0,none⟩) p.parts.length p.parts.length) (.slice none 0 0) p.frame 0 0 0 adD);(have WU:=Lib.hid hba);(clear hba);go_wp2_with(first|((with_reducible refine bO 36 ?_);(refine aN rfl 36 _ _ rfl WU.out (.agg #[.slice a1 p.parts.length c1,.int .i64 p.frame,.slice a2 p.wins.length c2,.slice a3 p.chans.length c3,.slice ia dZ.length ic,.int .u64 0,.int .i64 0,.int .i64 0,.slice none 0 0,.slice (some ⟨qm,0,none⟩) p.parts.length p.parts.length,.int .i64 (-1)]) d_ (afv) ?_ (_) (gJ 11 mY ()) ?_ ?_ ?_;(exact fK);(exact aG);(exact aG);(intro GR jD jT tq eP;(have kY:=Lib.hid jD);(clear jD))))|fail);(have afE:w1.heap.size≤qm:=Sm);(have Xp:w1.heap.size≤qa:=Sm);(have hnq:qm≠qa:=ah);(refine oG.of qm qa ⟨kY.out.cast (by rw[jK]),Hu.bC jT (.inr fun b hb=>Sd),bq (aA (ay hS (some qa)) jT) Xp (Nat.le_refl _),Xp,afE,hnq,adr⟩ ?_);with_reducible rfl)));
                  (focus(((refine gD 36 rfl (z:= .agg hC0) aj hC0 rfl ?_;intro qa wa hba hbb xX O6));(refine hidS hK (hS.trans (hbb.mono hS.size)) (fun hS=>?_);clear hK K);(try simp only[pt]);((try(have Hu:=Hu.below hbb)));(refine aK 5 (oi:=⟨some 22,_,_,_,_,_⟩) rfl aj rfl (fun K hK=>?_));((refine Dy _ _ rfl p.parts.length ah bg bg ?_;intro qm wm Hu hbm hqm ajS));(refine hidS hK (hS.trans (hbm.mono hS.size)) (fun hS=>?_);clear hK K);(try simp only[pt]);((try(have hba:=hba.below hbm O6)));(refine tk 6 23 hS ?_);(try simp only[pt]);(refine aT 8 aj ?_ rfl);(simp only[List.toList_toArray,List.drop_succ_cons,List.drop_zero]);((have afv:=Jg (.slice a1 p.parts.length c1) (.slice a2 p.wins.length c2) (.slice a3 p.chans.length c3) (.slice ia dZ.length ic) (.slice none 0 0) (.slice (some ⟨qm,0,none⟩) p.parts.length p.parts.length) (.slice none 0 0) p.frame 0 0 0 adD);(have WU:=Lib.hid hba);(clear hba);go_wp2_with(first|((with_reducible refine bO 36 ?_);(refine aN rfl 36 _ _ rfl WU.out (.agg #[.slice a1 p.parts.length c1,.int .i64 p.frame,.slice a2 p.wins.length c2,.slice a3 p.chans.length c3,.slice ia dZ.length ic,.int .u64 0,.int .i64 0,.int .i64 0,.slice none 0 0,.slice (some ⟨qm,0,none⟩) p.parts.length p.parts.length,.int .i64 (-1)]) d_ (afv) ?_ (_) (gJ 11 mY ()) ?_ ?_ ?_;(exact fK);(exact aG);(exact aG);(intro GR jD jT tq eP;(have kY:=Lib.hid jD);(clear jD))))|fail);(have afE:w1.heap.size≤qm:=Sm);(have Xp:w1.heap.size≤qa:=Sm);(have hnq:qm≠qa:=ah);(refine oG.of qm qa ⟨kY.out.cast (by rw[jK]),Hu.bC jT (.inr fun b hb=>Sd),bq (aA (ay hS (some qa)) jT) Xp (Nat.le_refl _),Xp,afE,hnq,adr⟩ ?_);with_reducible rfl))))
 rintro qm qa w2 ⟨hba,Hu,eP,xX,hqm,hnq,alc⟩
 have O6:=hba.lt
 have hz2:=eP.size
 have WU:=Lib.hid hba
 have HSM:=Lib.hid Hu
 have Ma:=Lib.hid eP
 have hbw2:=bP.trans (eP.mono bP.size)
 have Eo:=Lib.hid (vV.out.below eP vV.out.lt)
 have KI2:=Lib.hid (KI1.out.below eP KI1.out.lt)
 clear hba Hu eP hcb bn hlb hnb hmb hci hfi Eb hni hmi
 (obtain⟨hcb,bn,hlb,hnb,hmb⟩:=aC.rules Eo.out)
 go_wp2_with fail
 go_loopw [28] (fun t W=>∃(i:Nat) (v:Value) (us:List Ks),i≤p.parts.length∧t=.int .i64 i∧us.length=i∧bB W w2.heap.size sJ true 19 v (ql us (iK p dZ i))∧WR W v∧(∀j u,us[j]?=some u→KR W u (iT p dZ j).1∧(∀g,v.ownBlock=some g→iL g u (iT p dZ j).1)∧(∀B,B<w2.heap.size→iL B u (iT p dZ j).1))∧
  aC W qa (hC (.slice a1 p.parts.length c1) (.slice a2 p.wins.length c2) (.slice a3 p.chans.length c3) (.slice ia dZ.length ic) p ⟨v,us,.slice (some ⟨qm,0,none⟩) p.parts.length p.parts.length,List.replicate p.parts.length (.slice none 0 0),List.replicate p.parts.length []⟩ ⟨0,0,0,iK p dZ i,-1⟩) 36∧Sl W false 1 (.slice (some ⟨qm,0,none⟩) p.parts.length p.parts.length) (List.replicate p.parts.length (.slice none 0 0))∧Below w1.heap.size w1 W∧w2.heap.size≤W.heap.size) (fun t _=>p.parts.length-(intOf t).toNat)
 case atStart=>exact⟨0,.slice none 0 0,[],Nat.zero_le _,rfl,rfl,bB.nil,(fun g hg=>by cases hg),(fun j u hu=>by simp at hu),WU.out,HSM.out,Ma.out,Nat.le_refl _⟩
 case round=>
  obtain⟨i,v,us,hi',rfl,hul,hown,hno,hus,hbx,hsl,hbl,hwz⟩:=hrel
  have HOWN:=Lib.hid hown
  have LJ:=Lib.hid hno
  have HUS:=Lib.hid hus
  have He:=Lib.hid hbx
  have HSL:=Lib.hid hsl
  have HBL:=Lib.hid hbl
  have Hy:=bP.trans (hbl.mono bP.size)
  have KBr:=Lib.hid (vV.out.below (hbl.mono (Nat.le_refl _)) vV.out.lt)
  have KIr:=Lib.hid (KI1.out.below (hbl.mono (Nat.le_refl _)) KI1.out.lt)
  have KZr:=Lib.hid (Bq.out.below (hbl.mono (Nat.le_refl _)) Bq.out.lt)
  clear hown hno hus hbx hsl hcb bn hlb hnb hmb
  by_cases hil:i<p.parts.length
  ·obtain⟨pt,hpt⟩:∃pt,p.parts[i]?=some pt:=⟨_,List.getElem?_eq_getElem hil⟩
   have hpe:partAt p i=pt:=XP
   obtain⟨bp,op,hbp,ah9,hcp⟩:=(HP.out.below Hy).parts.at (i:=i) (x:=Plan.OI pt) (by rw[List.getElem?_map,hpt];rfl)
   subst hbp
   have HCP:=Lib.hid hcp
   have afG:=FV pt
   have abr:IntKind.i64.wrap ((i:Int)+1)=i+1:=IntWalk.i64_in _ ah
   have Ul:=aa7 hok him i
   have af3:=TH hok him i
   have hpw:=uX hok i
   rw[hpe] at Ul af3 hpw
   have HBE:=Lib.hid (fun vi vo vn W h1 h2 h3=>Wz pt vi vo vn (zQ dZ i) (bf.rE p.chans i) (bf.sZ p.chans i) W h1 h2 h3 (Ul.fit ah ah ah) (zA _ _) (Av him i).1 (FW hok i) (KE hok i) (fun _ _=>af3.M4 hpw))
   have af5:iT p dZ i=qz pt (zQ dZ i) (bf.rE p.chans i) (bf.sZ p.chans i):=by unfold iT;rw[hpe]
   rw[←af5] at HBE
   have hbare:Bare (iT p dZ i).1:=by rw[af5];exact Gv _ _ _ _
   have SG:=Lib.hid (fun j=>(show Bare (iT p dZ j).1 from Gv _ _ _ _))
   have akv:=Lib.hid (K7 p dZ i)
   have hsl1:(iK p dZ i).length=i:=wW p dZ i
   have hxl:(ql us (iK p dZ i)).length=i:=by rw[ku (by rw[hul,hsl1]),hsl1]
   clear hcp Ul af3 hpw af5 hbare hpt hpe
   generalize hbe:iT p dZ i=x at*
   (obtain⟨hcb,bn,hlb,hnb,hmb⟩:=aC.rules KBr.out)
   (obtain⟨hca,hfa,hla,hna,hma⟩:=aC.rules He.out)
   go_wp2_with(first|((with_reducible refine bS 74 ?_);(refine aO rfl 74 _ rfl bp (op+i*4) ?_ (EK pt) xu (afG) HCP.out ?_;(exact aG)))|fail)
   generalize bN:World.alloc _ _=w3
   have KT:aC w3 wr.heap.size #[.int .i64 pt.1,.int .i64 pt.2.1,.int .i64 pt.2.2.1,.int .i64 pt.2.2.2] 74:=by rw[←bN];exact aC.new1 _ _ _ rfl
   have hb3:Below wr.heap.size wr w3:=bM
   clear bN hcb bn hlb hnb hmb hca hfa hla hna hma
   have hz3:=hb3.size
   have fJ:=Hy.trans (hb3.mono Hy.size)
   have ah_:=HBL.out.trans (hb3.mono HBL.out.size)
   have KT3:=Lib.hid KT
   have G7:=Lib.hid (KBr.out.below hb3 KBr.out.lt)
   have KI3:=Lib.hid (KIr.out.below hb3 KIr.out.lt)
   have agp:=Lib.hid (He.out.below hb3 He.out.lt)
   have afc:=Lib.hid (HOWN.out.kept hb3)
   have aiD:=Lib.hid (LJ.out.below hb3)
   have HB3:=Lib.hid hb3
   clear KT hb3
   (obtain⟨hcb,bn,hlb,hnb,hmb⟩:=aC.rules G7.out)
   (obtain⟨hca,hfa,hla,hna,hma⟩:=aC.rules agp.out)
   (obtain⟨hct,hft,hlt,hnt,hmt⟩:=aC.rules KT3.out)
   obtain⟨i0,hMS⟩:=ML
   have ah5:p.chans.length*40≤140737488355328:=by have:=hok.B_;omega
   ((refine aY (fun W=>Below w3.heap.size w3 W) (fun i=>decide (i<14)) aj ?_);
          (have hS:Below w3.heap.size w3 w3.drew:=(Below.refl _ _).drew);
          (refine tk 0 33 hS ?_);
          (refine tk 1 34 hS ?_ (hy:=Or.inl ⟨aF,abg⟩));
          (refine tk 2 35 hS ?_ (hy:=Or.inl ⟨aF,abg⟩));
          (refine tk 3 36 hS ?_);
          (refine tk 4 37 hS ?_);
          (refine tk 6 39 hS ?_ (hy:=Or.inl ⟨aF,abg⟩));
          (refine tk 7 40 hS ?_);
          (refine tk 9 42 hS ?_ (hy:=Or.inl ⟨aF,abg⟩));
          (refine tk 10 43 hS ?_);
          (refine aK 5 (oi:=⟨some 38,_,_,_,_,_⟩) rfl aj rfl (fun K hK=>?_));
          (go_simp;(with_reducible refine(RP (.slice ia dZ.length ic) dZ i (w.heap.size+1) _ (HI.out.below (fJ.trans (hS.mono fJ.size))) (KI3.out.below hS KI3.out.lt)).mono ?_);rintro en w5 ⟨vi,rfl,hsi,hb5⟩;(have hS:=hS.trans (Below.mono hb5 hS.size));(have HSI:=Lib.hid hsi);(clear hsi);(try go_wp2_with fail));
          (refine hK.out _ _ (fun _=>bF) ?_;clear hK K);
          (try simp only[pt]);
          (refine aK 8 (oi:=⟨some 41,_,_,_,_,_⟩) rfl aj rfl (fun K hK=>?_));
          (go_simp;(with_reducible refine(bf.aax (some ⟨bp,op,none⟩) p.parts.length c1 p.frame (.slice a2 p.wins.length c2) (.slice a3 p.chans.length c3) p.chans i _ (HP.out.chans.below (fJ.trans (hS.mono fJ.size))) ah5).mono ?_);rintro en w6 ⟨vo,rfl,hso,hb6⟩;(have hS:=hS.trans (Below.mono hb6 hS.size));(have HSO:=Lib.hid hso);(clear hso);(try go_wp2_with fail));
          (refine hK.out _ _ (fun _=>bF) ?_;clear hK K);
          (try simp only[pt]);
          (refine aK 11 (oi:=⟨some 44,_,_,_,_,_⟩) rfl aj rfl (fun K hK=>?_));
          (go_simp;(with_reducible refine(bf.Tw (some ⟨bp,op,none⟩) p.parts.length c1 p.frame (.slice a2 p.wins.length c2) (.slice a3 p.chans.length c3) p.chans i _ (HP.out.chans.below (fJ.trans (hS.mono fJ.size))) ah5).mono ?_);rintro en w7 ⟨vn,rfl,hsn,oZ⟩;(have hS:=hS.trans (Below.mono oZ hS.size));(have HSN:=Lib.hid hsn);(clear hsn);(try go_wp2_with fail));
          (refine hK.out _ _ (fun _=>bF) ?_;clear hK K);
          (try simp only[pt]);
          (refine aK 12 (oi:=⟨some 45,_,_,_,_,_⟩) rfl aj rfl (fun K hK=>?_));
          (go_simp;(with_reducible refine(HBE.out vi vo vn _ ((HSI.out.below hb6).below oZ) (HSO.out.below oZ) HSN.out).mono ?_);rintro en w8 ⟨s8,rfl,abB,Un,jU⟩;(have hS:=hS.trans (Below.mono jU hS.size));(have akE:=Lib.hid abB);(have Mc:=Lib.hid Un);(have hsv:=jM abB x.2.1 x.2.2);(have hnu:=aae abB x.2.1 x.2.2);(clear abB Un);(try go_wp2_with fail));
          (refine hK.out _ _ (fun _=>bF) ?_;clear hK K);
          (try simp only[pt]);
          (refine aK 13 (oi:=⟨some 46,_,_,_,_,_⟩) rfl aj rfl (fun K hK=>?_));
          (refine kJ _ rfl hMS aB (iM s8 x.1 x.2.1 x.2.2) bg hsv ?_);
          (refine hidS hK (hS.alloc hS.size _) (fun hS=>?_);clear hK K);
          (try simp only[pt]);
          ((have HY:=Sl.qE (w:=w8) (E:=59) hsv rfl);(have hd9:Below w8.heap.size w8 (w8.alloc (.cells (iM s8 x.1 x.2.1 x.2.2).cells 59)):=(Below.refl _ _).alloc (Nat.le_refl _) _);(generalize w8.alloc (.cells (iM s8 x.1 x.2.1 x.2.2).cells 59)=w9 at hS HY hd9⊢));
          (refine aT 14 aj ?_ rfl);
          (simp only[List.toList_toArray,List.drop_succ_cons,List.drop_zero]))
   have hzs:=hS.size
   have Yr:=afc.out.kept hS
   have ahZ:=Yr.fP
   have afb:=Lib.hid Yr
   have agm:=Lib.hid (aiD.out.below hS)
   have hqn:∀b,b<w2.heap.size→v.ownBlock≠some b:=fun b hb e=>by have:=ahZ b e;omega
   have HQN:=Lib.hid hqn
   have HYY:=Lib.hid HY
   have ajy:w2.heap.size≤w9.heap.size:=ah
   clear Yr ahZ hqn HY hcb bn hlb hnb hmb hca hfa hla hna hma hct hft hlt hnt hmt
   go_wp2_with(first|((with_reducible refine Qy ?_);(refine zH rfl rfl afb.out agm.out hsv hnu HYY.out ?_ ?_ ah ajy ?_;(exact aG);(exact aG);(intro v2 uH zV ahJ zW ae7);(obtain⟨yM,m10,n10,rfl⟩:=zV.sl.is);(have qp:=Lib.hid zV);(have akB:=Lib.hid ahJ);(have XK:=Lib.hid zW);(have afd:=Lib.hid ae7);(have Yx:=Lib.hid ((agp.out.below hS agp.out.lt).grown zW (fun e=>HQN.out qa O6 e.symm)));(clear zV ahJ zW ae7);(obtain⟨hca,hfa,hla,hna,hma⟩:=aC.rules Yx.out)))|fail)
   clear hca hfa hla hna hma
   have nY:=aM uH qa 8 (.slice yM m10 n10)
   have aja:(hC (.slice (some ⟨bp,op,none⟩) p.parts.length c1) (.slice a2 p.wins.length c2) (.slice a3 p.chans.length c3) (.slice ia dZ.length ic) p ⟨v,us,(.slice (some ⟨qm,0,none⟩) p.parts.length p.parts.length),List.replicate p.parts.length (.slice none 0 0),List.replicate p.parts.length []⟩ ⟨0,0,0,iK p dZ i,-1⟩).toList.map kind=tO:=by
    obtain⟨av,mv,nv,hv⟩:=afc.out.sl.is
    subst hv
    exact VZ _ _ _ _ _ _ _ rfl rfl rfl hki rfl rfl
   have ae4:∀(u:Ks) (y:St),KR uH u y.1→iL qa u y.1→KR (uH.setCell ⟨qa,8,none⟩ (.slice yM m10 n10)) u y.1:=fun u y hk ha=>hk.bL ha Yx.out aja iA aB aB aB nY
   have afu:∀g,v.ownBlock=some g→w2.heap.size≤g∧g<w3.heap.size:=fun g hg=>⟨afb.out.fP g hg,by obtain⟨cs,hb,_⟩:=aiD.out g hg;exact hb.lt⟩
   have h78:=jU.size
   have h37:w3.heap.size≤w7.heap.size:=by have e1:=hb5.size;have e2:=hb6.size;have e3:=oZ.size;simp only[bE] at e1;omega
   have hold:∀j u,us[j]?=some u→KR (uH.setCell ⟨qa,8,none⟩ (.slice yM m10 n10)) u (iT p dZ j).1∧(∀g,(Value.slice yM m10 n10).ownBlock=some g→iL g u (iT p dZ j).1)∧(∀B,B<w2.heap.size→iL B u (iT p dZ j).1):=by
    intro j u hu
    obtain⟨k1,k2,k3⟩:=HUS.out j u hu
    have k9:=(k1.below HB3.out).below hS
    refine⟨ae4 u _ (k9.Nc (SG.out j).1 (SG.out j).2.1 (SG.out j).2.2 agm.out k2 XK.out) (k3 qa O6),fun g hg=>?_,k3⟩
    rcases afd.out with e|e
    ·exact k2 g (e.symm.trans hg)
    ·rw[e] at hg
     cases hg
     exact k9.away (Nat.le_refl _)
   have hnew:KR (uH.setCell ⟨qa,8,none⟩ (.slice yM m10 n10)) s8 x.1∧(∀g,(Value.slice yM m10 n10).ownBlock=some g→iL g s8 x.1)∧(∀B,B<w2.heap.size→iL B s8 x.1):=by
    have hb:=SG.out i
    rw[hbe] at hb
    have k9:=akE.out.below hd9
    have kg:∀g,v.ownBlock=some g→iL g s8 x.1:=fun g hg=>Mc.out g (by have:=(afu g hg).2;omega)
    refine⟨ae4 s8 x (k9.Nc hb.1 hb.2.1 hb.2.2 agm.out kg XK.out) (Mc.out qa ah),fun g hg=>?_,fun B hB=>Mc.out B ah⟩
    rcases afd.out with e|e
    ·exact kg g (e.symm.trans hg)
    ·rw[e] at hg
     cases hg
     exact k9.away (Nat.le_refl _)
   have ajL:=akv.out
   have ai_:bB (uH.setCell ⟨qa,8,none⟩ (.slice yM m10 n10)) w2.heap.size sJ true 19 (.slice yM m10 n10) (ql (us++[s8]) (iK p dZ (i+1))):=by
    rw[ajL,←U1 (by rw[hul,hsl1])]
    exact qp.out.Ai nY O6
   have ai':WR (uH.setCell ⟨qa,8,none⟩ (.slice yM m10 n10)) (.slice yM m10 n10):=fun g hg=>by
    obtain⟨cs,hb,hn⟩:=akB.out g hg
    have:=qp.out.fP g hg
    exact⟨cs,hb.other _ _ aR,hn⟩
   have ajd:aC (uH.setCell ⟨qa,8,none⟩ (.slice yM m10 n10)) qa (hC (.slice (some ⟨bp,op,none⟩) p.parts.length c1) (.slice a2 p.wins.length c2) (.slice a3 p.chans.length c3) (.slice ia dZ.length ic) p ⟨.slice yM m10 n10,us++[s8],(.slice (some ⟨qm,0,none⟩) p.parts.length p.parts.length),List.replicate p.parts.length (.slice none 0 0),List.replicate p.parts.length []⟩ ⟨0,0,0,iK p dZ (i+1),-1⟩) 36:=(Yx.out.set 8 _).cast (ae9 _ _ _ _ p _ _ _ (us++[s8]) (iK p dZ (i+1)))
   have ai9:Sl (uH.setCell ⟨qa,8,none⟩ (.slice yM m10 n10)) false 1 (.slice (some ⟨qm,0,none⟩) p.parts.length p.parts.length) (List.replicate p.parts.length (.slice none 0 0)):=by
    have hs9:=(HSL.out.below HB3.out).below hS
    have Xo:=NM hs9 XK.out (fun g hg=> .inr fun b hb=>by
     simp only[Value.ownBlock,Option.some.injEq] at hb
     have:=(afu g hg).1
     omega)
    exact Xo.bC nY (.inr fun b hb=>Sd)
   have ajf:Below w1.heap.size w1 (uH.setCell ⟨qa,8,none⟩ (.slice yM m10 n10)):=Below.setCell (zJ (ah_.trans (hS.mono ah_.size)) XK.out ah (fun g hg=>by have:=(afu g hg).1;omega)) xX _
   have ai7:w2.heap.size≤(uH.setCell ⟨qa,8,none⟩ (.slice yM m10 n10)).heap.size:=by have:=XK.out.size;simp;omega
   go_roundw
   case rel=>
    refine⟨i+1,.slice yM m10 n10,us++[s8],ah,bI,by simp[hul],ai_,ai',fun j u hu=>?_,ajd,ai9,ajf,ai7⟩
    by_cases hj:j<us.length
    ·rw[List.getElem?_append_left hj] at hu
     exact hold j u hu
    ·rw[List.getElem?_append_right ah] at hu
     have hj0:j=i:=by
      have:=(List.getElem?_eq_some_iff.1 hu).1
      simp at this
      omega
     subst hj0
     rw[hul,Nat.sub_self] at hu
     simp only[List.getElem?_cons_zero,Option.some.injEq] at hu
     subst hu
     rw[hbe]
     exact hnew
   case measure=>simp[intOf];omega
  ·have hie:i=p.parts.length:=by omega
   subst hie
   have hdn:decide ((p.parts.length:Int)<p.parts.length)=false:=decide_eq_false ah
   have hsl1:(iK p dZ p.parts.length).length=p.parts.length:=wW ..
   have hmr:MR wr ⟨v,us,(.slice (some ⟨qm,0,none⟩) p.parts.length p.parts.length),List.replicate p.parts.length (.slice none 0 0),List.replicate p.parts.length []⟩ (f_ p dZ) 0:=by
    refine⟨HOWN.out.sl,by rw[show(f_ p dZ).seats.length=p.parts.length from hsl1];exact hul,fun j u y h1 h2=>?_,HSL.out,ads,ads,fun j u l h1 h2=>?_⟩
    ·have h3:(iK p dZ p.parts.length)[j]?=some y:=h2
     have hj:=(List.getElem?_eq_some_iff.1 h3).1
     rw[Du ah] at h3
     cases h3
     exact(HUS.out j u h1).1
    ·dsimp only at h1 h2
     rw[List.getElem?_replicate] at h1 h2
     split at h1
     ·rename_i hj
      rw[if_pos hj] at h2
      cases h1;cases h2
      exact⟨Sl.nil _ _ _,Nat.zero_le _⟩
     ·cases h1
   have hma:∀B,B<w1.heap.size→gG B ⟨v,us,(.slice (some ⟨qm,0,none⟩) p.parts.length p.parts.length),List.replicate p.parts.length (.slice none 0 0),List.replicate p.parts.length []⟩ (f_ p dZ):=fun B hB=>by
    refine⟨iF HOWN.out ah,fun j u y h1 h2=>?_,.inr fun b hb=>Sd,fun j u l h1 h2=>?_⟩
    ·have h3:(iK p dZ p.parts.length)[j]?=some y:=h2
     have hj:=(List.getElem?_eq_some_iff.1 h3).1
     rw[Du ah] at h3
     cases h3
     exact(HUS.out j u h1).2.2 B ah
    ·dsimp only at h1 h2
     rw[List.getElem?_replicate] at h1 h2
     split at h1
     ·rename_i hj
      rw[if_pos hj] at h2
      cases h1;cases h2
      exact .inl rfl
     ·cases h1
   have hv:=mJ (HP.out.below Hy) hki hmr
   have HV:=Lib.hid hv
   have HMR:=Lib.hid hmr
   have HMA:=Lib.hid hma
   have hbx:aC wr qa (hC (.slice a1 p.parts.length c1) (.slice a2 p.wins.length c2) (.slice a3 p.chans.length c3) (.slice ia dZ.length ic) p ⟨v,us,(.slice (some ⟨qm,0,none⟩) p.parts.length p.parts.length),List.replicate p.parts.length (.slice none 0 0),List.replicate p.parts.length []⟩ (f_ p dZ)) 36:=He.out
   have agq:=Lib.hid hbx
   have hsz1:=jL (.slice a1 p.parts.length c1) (.slice a2 p.wins.length c2) (.slice a3 p.chans.length c3) (.slice ia dZ.length ic) p ⟨v,us,(.slice (some ⟨qm,0,none⟩) p.parts.length p.parts.length),List.replicate p.parts.length (.slice none 0 0),List.replicate p.parts.length []⟩ (f_ p dZ)
   clear hv hmr hma hbx He
   go_wp2_with(first|((with_reducible refine bS 36 ?_);(refine aJ rfl 36 _ rfl (hC (.slice a1 p.parts.length c1) (.slice a2 p.wins.length c2) (.slice a3 p.chans.length c3) (.slice ia dZ.length ic) p ⟨v,us,(.slice (some ⟨qm,0,none⟩) p.parts.length p.parts.length),List.replicate p.parts.length (.slice none 0 0),List.replicate p.parts.length []⟩ (f_ p dZ)) d_ (HV.out) agq.out ?_ ?_;(exact aG)))|((with_reducible refine bO 36 ?_);(refine aN rfl 36 _ _ rfl KZr.out (.agg (hC (.slice a1 p.parts.length c1) (.slice a2 p.wins.length c2) (.slice a3 p.chans.length c3) (.slice ia dZ.length ic) p ⟨v,us,(.slice (some ⟨qm,0,none⟩) p.parts.length p.parts.length),List.replicate p.parts.length (.slice none 0 0),List.replicate p.parts.length []⟩ (f_ p dZ))) d_ (HV.out) ?_ (_) (gJ 11 mY ()) ?_ ?_ ?_;(exact fK);(exact aG);(exact aG);(intro GR jD jT tq eP;(have kY:=Lib.hid jD))))|fail)
   have hfr:=HMR.out.bL (R:=w.heap.size+1+1) (ks:=tO) (HMA.out (w.heap.size+1+1) ah) KZr.out rfl aB aB aB aB jT
   exact Bc Tryz.results8 d_ HV.out aF aF kY.out rfl ⟨_,rfl,hfr,fun B hB=>HMA.out B ah,Hy.trans (eP.mono ah)⟩
end Go.Proofs.YtgmodehldmahiaaGreatDoor
