/- Part 45 of 53 of the proof of topAlone_and_topApart. Conditions: see each. -/
import Derived.Test.YtgmodehldmahiaaGreatDoorB14
import Derived.Test.YtgmodehldmahiaaGreatDoorB44
set_option linter.unusedVariables false
set_option linter.unusedSimpArgs false
set_option maxRecDepth 8192
set_option maxHeartbeats 40000000
section
namespace Go.Proofs.YtgmodehldmahiaaGreatDoor
open Go Go.RowKit Go.Tm
attribute [local go_sem] fO fM fK d_ dM dZ dY dX dW dV dU dS dR dQ dP dO dN iQ iP iO iN iM iL iK iG iJ iI fU fT fQ fP fI fH fC
attribute [local go_sem] Gm Gl Gj Gi Gh Dy Gg Gf Gc Gb zZ
theorem Eh{P:Program}{fn:Func}{R:Ending→World→Prop}{a:Act}{W:World}{E t:TypeId}{k b:Nat}{p q:Tmp}{cs:Array Value}{v:Value}(h:fn.results=#[.cell p E,.tmp q])(hT:Ty P E k true)(hx:Val true k (.agg cs))(hp:a.tmps.getD p undef=.pointer (some ⟨b,0,none⟩))(hq:a.tmps.getD q undef=v)(hb:aD W b cs t)(hd:a.defers=[])
  (hR:R (.returned (.tuple #[.agg cs,v])) W):bodyPost P fn R .ret a W:=by
 refine bodyPost_ret (v:= .tuple #[.agg cs,v]) ?_ hd hR
 have hp':a.tmps[p]?.getD undef=.pointer (some ⟨b,0,none⟩):=Ja
 have hq':a.tmps[q]?.getD undef=v:=EM
 simp[results,h,hp',hq',asAddr,iF hT hx hb.cells]
theorem Yy:Val true 11 (.agg jV):=⟨_,rfl,rfl,aC⟩
theorem Ee(pv wv cv iv:Value)(p:bF.jE)(dx:List (List ByteArray))(w:World)(hp:bF.jf w pv wv cv p)(hi:mR w iv dx)(hok:¬bF.gJ p):
  Calls Tryz.prog 8 #[bF.I6 pv wv cv p,iv] w fun e w'=>(∃k,e=.returned (.tuple #[.agg jV,.int .i64 k])∧k≠0)∧Below w.heap.size w w':=by
 have HC:=ah (fun W h=>bF.Fx pv wv cv p W h)
 have HP:=ah hp
 obtain⟨a1,c1,a2,c2,a3,c3,rfl,rfl,rfl,jO,hl2,qM⟩:=hp.shape
 obtain⟨ia,ic,rfl,xW⟩:=hi.shape
 have hval:=Yy
 have QV:jV.size=11:=rfl
 clear hp hi
 go_enter Tryz.func8,Tryz.ntmps8
 go_wp2_with fail
 (generalize bR:World.alloc _ _=w0;have KB:aD w0 (w.heap.size) (#[.slice a1 p.parts.length c1,.int .i64 p.frame,.slice a2 p.wins.length c2,.slice a3 p.chans.length c3]) 26:=bH;have KI:aD w0 (w.heap.size+1) (#[.slice ia dx.length ic]) 27:=bH;have KZ:aD w0 (w.heap.size+1+1) (jV) 36:=bH;have hb0:Below w.heap.size w w0:=bN;have hz0:w0.heap.size=w.heap.size+1+1+1:=bX;clear bR;have KB:=ah KB;have KI:=ah KI;have KZ:=ah KZ)
 with_reducible refine(HC.out w0 (HP.out.below hb0)).mono ?_
 rintro en w1 ⟨⟨k,rfl,hk⟩,hb1⟩
 have MU:k≠0:=fun h=>hok (hk.1 h)
 have hkb:(k !=0)=true:=by simp[MU]
 have Er:=ah (KZ.out.below hb1 KZ.out.lt)
 have bW:=hb0.trans (hb1.mono hb0.size)
 clear hk
 go_wp2_with(first|((with_reducible refine bS 36 ?_);(refine aR rfl 36 _ _ rfl Er.out (.agg #[.slice none 0 0,.int .i64 0,.slice none 0 0,.slice none 0 0,.slice none 0 0,.int .u64 0,.int .i64 0,.int .i64 0,.slice none 0 0,.slice none 0 0,.int .i64 0]) eH (hval) ?_ (_) (gM 11 lX ()) ?_ ?_ ?_;(exact gG);(exact aM);(exact aM);(intro N7 nN oP zB f_;have pI:=ah nN)))|fail)
 exact Eh Tryz.results8 eH hval aF aF pI.out rfl ⟨⟨k,rfl,MU⟩,bW.trans (f_.mono aj)⟩
theorem aaB(n i:Nat)(hi:i<n):(madeCells #[Value.slice none 0 0] n)[i]?=some (.slice none 0 0):=by
 unfold madeCells
 rw[Array.getElem?_map,Array.getElem?_eq_getElem aV]
 simp[Nat.mod_one]
theorem aeG(w:World)(n:Nat)(hn:n≤1000000)(E:TypeId):Sl (w.alloc (.cells (madeCells #[Value.slice none 0 0] n) E)) false 1 (.slice (some ⟨w.heap.size,0,none⟩) n n) (List.replicate n (.slice none 0 0)):=by
 refine⟨?_,some ⟨w.heap.size,0,none⟩,n,by rw[List.length_replicate],aI,yA,?_⟩
 ·intro x hx
  obtain⟨_,rfl⟩:=List.mem_replicate.1 hx
  exact⟨rfl,rfl⟩
 ·by_cases h0:n=0
  ·subst h0;exact .inl rfl
  ·refine .inr ⟨w.heap.size,0,rfl,aI,fun i x hx=>?_⟩
   rw[List.getElem?_replicate] at hx
   split at hx
   ·rename_i hi
    cases hx
    intro j v hv
    have hj:j<1:=(List.getElem?_eq_some_iff.1 hv).1
    obtain rfl:j=0:=by omega
    have hb:=(aD.new w (madeCells #[Value.slice none 0 0] n) E).rules.1 (0+i*1+0)
    simp only[Nat.zero_add,Nat.mul_one,Nat.add_zero] at hb⊢
    rw[hb,aaB n i hi]
    exact hv
   ·cases hx
theorem Gz{w:World}{o:Oper}{a:Act}{K:Act→World→Prop}{Q:Exit→Act→World→Prop}(q r:Operand)(ho:o.op=.makeSlice 34 q r)(n:Nat)(hn:n≤1000000)(hq:a.eval q=.int .i64 n)(hr:a.eval r=.int .i64 n)
  (h:∀q w',Sl w' false 1 (.slice (some ⟨q,0,none⟩) n n) (List.replicate n (.slice none 0 0))→Below w.heap.size w w'→w.heap.size≤q→q<w'.heap.size→K (a.put o.dst (.slice (some ⟨q,0,none⟩) n n)) w'):o.wp Tryz.prog a w K Q:=by
 obtain⟨i0,qN,hz0,hs0,akz⟩:=info_parts NK
 have hrun:=run_makeSlice (P:=Tryz.prog) w 34 172 i0 _ Tryz.underlying34 qN hz0 .i64 .i64 (n:Int) (n:Int) aj (Int.le_refl _) (by rw[hs0];omega) (by rw[akz];omega) aj
 rw[hs0] at hrun
 simp only[Int.toNat_natCast,Nat.mul_one] at hrun
 exact xK _ q r ho _ _ hq hr hrun (h _ _ (aeG w n hn _) ((Below.refl _ _).alloc (Nat.le_refl _) _) (Nat.le_refl _) aI)
theorem aaP(a b c d e f g:Value)(x y z t:Int)(h:∀v∈[a,b,c,d,e,f],v.oneCell'=true):Val true 11 (.agg #[a,.int .i64 x,b,c,d,.int .u64 y,.int .i64 z,.int .i64 t,e,f,.int .i64 (-1)]):=⟨_,rfl,rfl,by
 intro v hv
 simp only[List.mem_cons,List.not_mem_nil,or_false] at hv h
 rcases hv with rfl|rfl|rfl|rfl|rfl|rfl|rfl|rfl|rfl|rfl|rfl<;>first|rfl|exact h _ aI⟩
theorem FE{o:Oper}{a:Act}{w:World}{K:Act→World→Prop}{Q:Exit→Act→World→Prop}{s x:Operand}(ho:o.op=.call {callee:= .builtin .append,args:=#[s,x],argTypes:=#[33,33]}){base:Nat}{v:Value}{xs:List Value}(hs:a.eval s=v)
  (hown:bI w base vX true 19 v xs)(hno:NoU w v){u:Nat}{y:Array Value}(hy:Val true 19 (.agg y))(hyn:∀c∈y.toList,kind c≠2)(LQ:Sl w true 19 (.slice (some ⟨u,0,none⟩) 1 1) [.agg y])(hx:a.eval x=.slice (some ⟨u,0,none⟩) 1 1)(h63:xs.length+1≤1000)(hbase:base≤w.heap.size)
  (h:∀v' w',bI w' base vX true 19 v' (xs++[.agg y])→NoU w' v'→w.grownBy w' v.ownBlock→(v'.ownBlock=v.ownBlock∨v'.ownBlock=some w.heap.size)→K (a.put o.dst v') w'):o.wp Tryz.prog a w K Q:=by
 obtain⟨v',w',hr,h1,h2,h3,h4⟩:=Hf o.type hown hno hy hyn LQ h63 hbase
 exact tV ho hs hx hr (h v' w' h1 h2 h3 h4)
theorem CP{ops:Array Oper}{rest:List Oper}{o:Oper}{a:Act}{w:World}{Q:Exit→Act→World→Prop}(hgd:o.guard=none){s x:Operand}(ho:o.op=.call {callee:= .builtin .append,args:=#[s,x],argTypes:=#[33,33]}){base:Nat}{v:Value}{xs:List Value}
  (hown:bI w base vX true 19 v xs)(hno:NoU w v){u:Nat}{y:Array Value}(hy:Val true 19 (.agg y))(hyn:∀c∈y.toList,kind c≠2)(LQ:Sl w true 19 (.slice (some ⟨u,0,none⟩) 1 1) [.agg y])(hs:a.eval s=v)(hx:a.eval x=.slice (some ⟨u,0,none⟩) 1 1)(h63:xs.length+1≤1000)(hbase:base≤w.heap.size)
  (h:∀v' w',bI w' base vX true 19 v' (xs++[.agg y])→NoU w' v'→w.grownBy w' v.ownBlock→(v'.ownBlock=v.ownBlock∨v'.ownBlock=some w.heap.size)→wpList Tryz.prog ops Q rest (a.put o.dst v') w'):wpList Tryz.prog ops Q (o::rest) a w:=
 wpList_plain hgd fun K hK=>FE ho hs hown hno hy hyn LQ hx h63 hbase fun v' w' h1 h2 h3 h4=>hK _ _ (h v' w' h1 h2 h3 h4)
theorem NoU.below{w w':World}{v:Value}(h:NoU w v)(hb:Below w.heap.size w w'):NoU w' v:=fun g hg=>
 let⟨cs,jo,hn⟩:=h g hg
 ⟨cs,jo.below hb jo.lt,hn⟩
theorem Tw{w w':World}{ag:Bool}{k:Nat}{v:Value}{xs:List Value}{o:Option Nat}(h:Sl w ag k v xs)(hg:w.grownBy w' o)(ha:∀g,o=some g→Apart g v xs):Sl w' ag k v xs:=by
 cases o with
 |none=>exact h.below ⟨hg.os,hg.tape,hg.output,hg.size,fun k hk=>hg.block k hk aI⟩
 |some g=>exact h.bO hg (ha g rfl)
theorem aa2(pv wv cv iv:Value)(p:bF.jE)(s:Hs)(h:Hn)(h1:kind pv=5)(h2:kind wv=5)(h3:kind cv=5)(h4:kind iv=5)(h5:kind s.sv=5)(h6:kind s.av=5):(hC pv wv cv iv p s h).toList.map kind=wV:=by
 rw[kX]
 simp only[List.map_cons,List.map_nil,h1,h2,h3,h4,h5,h6]
 rfl
theorem ZV{us:List Ks}{xs:List St}(h:us.length=xs.length)(u:Ks)(x:St):tH us xs++[stV u x]=tH (us++[u]) (xs++[x]):=by
 unfold tH
 rw[List.zipWith_append h]
 rfl
theorem Ab(pv wv cv iv:Value)(p:bF.jE)(dx:List (List ByteArray))(w:World)(hp:bF.jf w pv wv cv p)(hi:mR w iv dx)(hok:bF.gJ p)(CX:Dk dx):
  Calls Tryz.prog 8 #[bF.I6 pv wv cv p,iv] w fun e w'=>∃s',e=.returned (.tuple #[.agg (hC pv wv cv iv p s' (fu p dx)),.int .i64 0])∧MR w' s' (fu p dx) 0∧(∀B,B<w.heap.size→iR B s' (fu p dx))∧Below w.heap.size w w':=by
 have HC:=ah (fun W h=>bF.Fx pv wv cv p W h)
 have HP:=ah hp
 have HI:=ah hi
 have N9:=hi.kind
 obtain⟨a1,c1,a2,c2,a3,c3,rfl,rfl,rfl,jO,hl2,qM⟩:=hp.shape
 obtain⟨ia,ic,rfl,xW⟩:=hi.shape
 have YJ:=hok.zX
 have QV:jV.size=11:=rfl
 clear hp hi
 go_enter Tryz.func8,Tryz.ntmps8
 go_wp2_with fail
 (generalize bR:World.alloc _ _=w0;have KB:aD w0 (w.heap.size) (#[.slice a1 p.parts.length c1,.int .i64 p.frame,.slice a2 p.wins.length c2,.slice a3 p.chans.length c3]) 26:=bH;have KI:aD w0 (w.heap.size+1) (#[.slice ia dx.length ic]) 27:=bH;have KZ:aD w0 (w.heap.size+1+1) (jV) 36:=bH;have hb0:Below w.heap.size w w0:=bN;have hz0:w0.heap.size=w.heap.size+1+1+1:=bX;clear bR;have KB:=ah KB;have KI:=ah KI;have KZ:=ah KZ)
 have vO:w.heap.size+3≤w0.heap.size:=aj
 with_reducible refine(HC.out w0 (HP.out.below hb0)).mono ?_
 rintro en w1 ⟨⟨k,rfl,hk⟩,hb1⟩
 obtain rfl:k=0:=hk.2 hok
 have hz1:=hb1.size
 have p8:=ah (KB.out.below hb1 KB.out.lt)
 have KI1:=ah (KI.out.below hb1 KI.out.lt)
 have Er:=ah (KZ.out.below hb1 KZ.out.lt)
 have bW:=hb0.trans (hb1.mono hb0.size)
 have ar0:w.heap.size+3≤w1.heap.size:=aj
 clear hk hz0 hb1
 obtain⟨hcb,bC,bn,bA,bE⟩:=aD.rules p8.out
 obtain⟨LV,Qx,vT,hni,hmi⟩:=aD.rules KI1.out
 go_wp2_with fail
 refine RO (α:=Nat) (β:=Nat) (fun qm qa W=>aD W qa (hC (.slice a1 p.parts.length c1) (.slice a2 p.wins.length c2) (.slice a3 p.chans.length c3) (.slice ia dx.length ic) p ⟨.slice none 0 0,[],.slice (some ⟨qm,0,none⟩) p.parts.length p.parts.length,List.replicate p.parts.length (.slice none 0 0),List.replicate p.parts.length []⟩ ⟨0,0,0,[],-1⟩) 36∧Sl W false 1 (.slice (some ⟨qm,0,none⟩) p.parts.length p.parts.length) (List.replicate p.parts.length (.slice none 0 0))∧Below w1.heap.size w1 W∧w1.heap.size≤qa∧w1.heap.size≤qm∧qm≠qa∧qm<W.heap.size) ?G ?_ ?_
 rotate_left
 focus((refine aY (fun W=>Below w1.heap.size w1 W) (fun i=>decide (i<8)) ay ?_);
          have hS:Below w1.heap.size w1 w1.drew:=(Below.refl _ _).drew;
          (refine tk 0 17 hS ?_ (hy:=Or.inl ⟨aF,IY⟩));
          (refine tk 1 18 hS ?_ (hy:=Or.inl ⟨aF,IY⟩));
          (refine tk 2 19 hS ?_);
          (refine tk 3 20 hS ?_ (hy:=Or.inl ⟨aF,IY⟩));
          (refine tk 4 21 hS ?_);
          (refine eX 5 7 (oi:=⟨some 22,_,_,_,_,_⟩) (oj:=⟨some 7,_,_,_,_,_⟩) rfl rfl ay rfl rfl (fun K hK=>?_) (fun K hK=>?_));
          (focus(((refine Gz _ _ rfl p.parts.length aj bG bG ?_;intro qm wm Oq hbm hqm apb));(refine hidS hK (hS.trans (hbm.mono hS.size)) (fun hS=>?_);clear hK K);(try simp only[pt]);((try(have hba:=hba.below hbm UO)));(refine tk 6 23 hS ?_);(try simp only[pt]);(refine aJ 7 (oi:=⟨some 7,_,_,_,_,_⟩) rfl ay rfl (fun K hK=>?_));((refine jD 36 rfl (z:= .agg jV) ay jV rfl ?_;intro qa wa hba yT GQ UO));(refine hidS hK (hS.trans (yT.mono hS.size)) (fun hS=>?_);clear hK K);(try simp only[pt]);((try(have Oq:=Oq.below yT)));exact amq));
          (focus(((refine jD 36 rfl (z:= .agg jV) ay jV rfl ?_;intro qa wa hba yT GQ UO));(refine hidS hK (hS.trans (yT.mono hS.size)) (fun hS=>?_);clear hK K);(try simp only[pt]);((try(have Oq:=Oq.below yT)));(refine aJ 5 (oi:=⟨some 22,_,_,_,_,_⟩) rfl ay rfl (fun K hK=>?_));((refine Gz _ _ rfl p.parts.length aj bG bG ?_;intro qm wm Oq hbm hqm apb));(refine hidS hK (hS.trans (hbm.mono hS.size)) (fun hS=>?_);clear hK K);(try simp only[pt]);((try(have hba:=hba.below hbm UO)));(refine tk 6 23 hS ?_);(try simp only[pt]);exact amq)))
 rintro qm qa w2 ⟨hba,Oq,f_,GQ,hqm,Uf,asc⟩
 have UO:=hba.lt
 have hz2:=f_.size
 have HBA:=ah hba
 have HSM:=ah Oq
 have Ri:=ah f_
 have bM:=bW.trans (f_.mono bW.size)
 have qO:=ah (p8.out.below f_ p8.out.lt)
 have KI2:=ah (KI1.out.below f_ KI1.out.lt)
 clear hba Oq f_ hcb bC bn bA bE LV Qx vT hni hmi
 obtain⟨hcb,bC,bn,bA,bE⟩:=aD.rules qO.out
 go_wp2_with fail
 go_loopw [28] (fun t W=>∃(i:Nat) (v:Value) (us:List Ks),i≤p.parts.length∧t=.int .i64 i∧us.length=i∧bI W w2.heap.size vX true 19 v (tH us (jL p dx i))∧NoU W v∧(∀j u,us[j]?=some u→KR W u (j3 p dx j).1∧(∀g,v.ownBlock=some g→jF g u (j3 p dx j).1)∧(∀B,B<w2.heap.size→jF B u (j3 p dx j).1))∧
  aD W qa (hC (.slice a1 p.parts.length c1) (.slice a2 p.wins.length c2) (.slice a3 p.chans.length c3) (.slice ia dx.length ic) p ⟨v,us,.slice (some ⟨qm,0,none⟩) p.parts.length p.parts.length,List.replicate p.parts.length (.slice none 0 0),List.replicate p.parts.length []⟩ ⟨0,0,0,jL p dx i,-1⟩) 36∧Sl W false 1 (.slice (some ⟨qm,0,none⟩) p.parts.length p.parts.length) (List.replicate p.parts.length (.slice none 0 0))∧Below w1.heap.size w1 W∧w2.heap.size≤W.heap.size) (fun t _=>p.parts.length-(intOf t).toNat)
 case atStart=>exact⟨0,.slice none 0 0,[],Nat.zero_le _,rfl,rfl,bI.nil,(fun g hg=>by cases hg),(fun j u hu=>by simp at hu),HBA.out,HSM.out,Ri.out,Nat.le_refl _⟩
 case round=>
  obtain⟨i,v,us,hi',rfl,hul,hown,hno,hus,jo,hsl,hbl,hwz⟩:=hrel
  have ak3:=ah hown
  have Uo:=ah hno
  have HUS:=ah hus
  have XF:=ah jo
  have HSL:=ah hsl
  have HBL:=ah hbl
  have Zn:=bW.trans (hbl.mono bW.size)
  have KBr:=ah (p8.out.below (hbl.mono (Nat.le_refl _)) p8.out.lt)
  have KIr:=ah (KI1.out.below (hbl.mono (Nat.le_refl _)) KI1.out.lt)
  have KZr:=ah (Er.out.below (hbl.mono (Nat.le_refl _)) Er.out.lt)
  clear hown hno hus jo hsl hcb bC bn bA bE
  by_cases xW:i<p.parts.length
  ·obtain⟨pt,hpt⟩:∃pt,p.parts[i]?=some pt:=⟨_,List.getElem?_eq_getElem xW⟩
   have hpe:partAt p i=pt:=ace
   obtain⟨bp,op,hbp,am9,fF⟩:=(HP.out.below Zn).parts.at (i:=i) (x:=bF.Ut pt) (by rw[List.getElem?_map,hpt];rfl)
   subst hbp
   have HCP:=ah fF
   have akc:=JV pt
   have ajX:IntKind.i64.wrap ((i:Int)+1)=i+1:=IntWalk.i64_in _ aj
   have Zp:=afA hok CX i
   have akD:=YD hok CX i
   have hpw:=yG hok i
   rw[hpe] at Zp akD hpw
   have HBE:=ah (fun vi vo vn W h1 h2 h3=>abo pt vi vo vn (jr dx i) (aW.uQ p.chans i) (aW.qc p.chans i) W h1 h2 h3 (Zp.fit aj aj aj) (CB _ _) (DT CX i).1 (JW hok i) (PY hok i) (fun _ _=>akD.Si hpw))
   have akF:j3 p dx i=vv pt (jr dx i) (aW.uQ p.chans i) (aW.qc p.chans i):=by unfold j3;rw[hpe]
   rw[←akF] at HBE
   have aow:Rl (j3 p dx i).1:=by rw[akF];exact KQ _ _ _ _
   have XY:=ah (fun j=>(show Rl (j3 p dx j).1 from KQ _ _ _ _))
   have aro:=ah (Qg p dx i)
   have Ov:(jL p dx i).length=i:=lg p dx i
   have hxl:(tH us (jL p dx i)).length=i:=by rw[gV (by rw[hul,Ov]),Ov]
   clear fF Zp akD hpw akF aow hpt hpe
   generalize xR:j3 p dx i=x at*
   obtain⟨hcb,bC,bn,bA,bE⟩:=aD.rules KBr.out
   obtain⟨hca,hfa,Xz,hna,hma⟩:=aD.rules XF.out
   go_wp2_with(first|((with_reducible refine cK 74 ?_);(refine aN rfl 74 _ rfl bp (op+i*4) ?_ (I7 pt) Ap (akc) HCP.out ?_;(exact aM)))|fail)
   generalize bR:World.alloc _ _=w3
   have KT:aD w3 wr.heap.size #[.int .i64 pt.1,.int .i64 pt.2.1,.int .i64 pt.2.2.1,.int .i64 pt.2.2.2] 74:=by rw[←bR];exact aD.p9 _ _ _ rfl
   have hb3:Below wr.heap.size wr w3:=bN
   clear bR hcb bC bn bA bE hca hfa Xz hna hma
   have hz3:=hb3.size
   have gZ:=Zn.trans (hb3.mono Zn.size)
   have am_:=HBL.out.trans (hb3.mono HBL.out.size)
   have KT3:=ah KT
   have vK:=ah (KBr.out.below hb3 KBr.out.lt)
   have KI3:=ah (KIr.out.below hb3 KIr.out.lt)
   have ak6:=ah (XF.out.below hb3 XF.out.lt)
   have ajO:=ah (ak3.out.kept hb3)
   have anJ:=ah (Uo.out.below hb3)
   have QE:=ah hb3
   clear KT hb3
   obtain⟨hcb,bC,bn,bA,bE⟩:=aD.rules vK.out
   obtain⟨hca,hfa,Xz,hna,hma⟩:=aD.rules ak6.out
   obtain⟨hct,hft,hlt,hnt,hmt⟩:=aD.rules KT3.out
   obtain⟨i0,hMS⟩:=RX
   have am2:p.chans.length*40≤140737488355328:=by have:=hok.Cn;omega
   ((refine aY (fun W=>Below w3.heap.size w3 W) (fun i=>decide (i<14)) ay ?_);
          have hS:Below w3.heap.size w3 w3.drew:=(Below.refl _ _).drew;
          (refine tk 0 33 hS ?_);
          (refine tk 1 34 hS ?_ (hy:=Or.inl ⟨aF,afO⟩));
          (refine tk 2 35 hS ?_ (hy:=Or.inl ⟨aF,afO⟩));
          (refine tk 3 36 hS ?_);
          (refine tk 4 37 hS ?_);
          (refine tk 6 39 hS ?_ (hy:=Or.inl ⟨aF,afO⟩));
          (refine tk 7 40 hS ?_);
          (refine tk 9 42 hS ?_ (hy:=Or.inl ⟨aF,afO⟩));
          (refine tk 10 43 hS ?_);
          (refine aJ 5 (oi:=⟨some 38,_,_,_,_,_⟩) rfl ay rfl (fun K hK=>?_));
          (go_simp;(with_reducible refine(Xn (.slice ia dx.length ic) dx i (w.heap.size+1) _ (HI.out.below (gZ.trans (hS.mono gZ.size))) (KI3.out.below hS KI3.out.lt)).mono ?_);rintro en w5 ⟨vi,rfl,YI,kV⟩;have hS:=hS.trans (Below.mono kV hS.size);have HSI:=ah YI;clear YI;(try go_wp2_with fail));
          (refine hK.out _ _ (fun _=>b_) ?_;clear hK K);
          (try simp only[pt]);
          (refine aJ 8 (oi:=⟨some 41,_,_,_,_,_⟩) rfl ay rfl (fun K hK=>?_));
          (go_simp;(with_reducible refine(aW.ae2 (some ⟨bp,op,none⟩) p.parts.length c1 p.frame (.slice a2 p.wins.length c2) (.slice a3 p.chans.length c3) p.chans i _ (HP.out.chans.below (gZ.trans (hS.mono gZ.size))) am2).mono ?_);rintro en w6 ⟨vo,rfl,hso,kM⟩;have hS:=hS.trans (Below.mono kM hS.size);have HSO:=ah hso;clear hso;(try go_wp2_with fail));
          (refine hK.out _ _ (fun _=>b_) ?_;clear hK K);
          (try simp only[pt]);
          (refine aJ 11 (oi:=⟨some 44,_,_,_,_,_⟩) rfl ay rfl (fun K hK=>?_));
          (go_simp;(with_reducible refine(aW.Yw (some ⟨bp,op,none⟩) p.parts.length c1 p.frame (.slice a2 p.wins.length c2) (.slice a3 p.chans.length c3) p.chans i _ (HP.out.chans.below (gZ.trans (hS.mono gZ.size))) am2).mono ?_);rintro en w7 ⟨vn,rfl,hsn,pE⟩;have hS:=hS.trans (Below.mono pE hS.size);have HSN:=ah hsn;clear hsn;(try go_wp2_with fail));
          (refine hK.out _ _ (fun _=>b_) ?_;clear hK K);
          (try simp only[pt]);
          (refine aJ 12 (oi:=⟨some 45,_,_,_,_,_⟩) rfl ay rfl (fun K hK=>?_));
          (go_simp;(with_reducible refine(HBE.out vi vo vn _ ((HSI.out.below kM).below pE) (HSO.out.below pE) HSN.out).mono ?_);rintro en w8 ⟨s8,rfl,af9,Zr,ku⟩;have hS:=hS.trans (Below.mono ku hS.size);have arA:=ah af9;have Rj:=ah Zr;have xP:=iT af9 x.2.1 x.2.2;have hnu:=aeM af9 x.2.1 x.2.2;clear af9 Zr;(try go_wp2_with fail));
          (refine hK.out _ _ (fun _=>b_) ?_;clear hK K);
          (try simp only[pt]);
          (refine aJ 13 (oi:=⟨some 46,_,_,_,_,_⟩) rfl ay rfl (fun K hK=>?_));
          (refine mK _ rfl hMS aC (iC s8 x.1 x.2.1 x.2.2) bG xP ?_);
          (refine hidS hK (hS.alloc hS.size _) (fun hS=>?_);clear hK K);
          (try simp only[pt]);
          (have HY:=Sl.pQ (w:=w8) (E:=59) xP rfl;have hd9:Below w8.heap.size w8 (w8.alloc (.cells (iC s8 x.1 x.2.1 x.2.2).cells 59)):=(Below.refl _ _).alloc (Nat.le_refl _) _;generalize w8.alloc (.cells (iC s8 x.1 x.2.1 x.2.2).cells 59)=w9 at hS HY hd9⊢);
          (refine aZ 14 ay ?_ rfl);
          simp only[List.toList_toArray,List.drop_succ_cons,List.drop_zero])
   have hzs:=hS.size
   have ac0:=ajO.out.kept hS
   have amW:=ac0.iy
   have ajN:=ah ac0
   have ak4:=ah (anJ.out.below hS)
   have hqn:∀b,b<w2.heap.size→v.ownBlock≠some b:=fun b hb e=>by have:=amW b e;omega
   have HQN:=ah hqn
   have HYY:=ah HY
   have aoR:w2.heap.size≤w9.heap.size:=aj
   clear ac0 amW hqn HY hcb bC bn bA bE hca hfa Xz hna hma hct hft hlt hnt hmt
   go_wp2_with(first|((with_reducible refine Px ?_);(refine CP rfl rfl ajN.out ak4.out xP hnu HYY.out ?_ ?_ aj aoR ?_;(exact aM);(exact aM);intro v2 zw Md amL Dc ajH;obtain⟨Ep,m10,n10,rfl⟩:=Md.sl.is;have wO:=ah Md;have arx:=ah amL;have ab6:=ah Dc;have ajP:=ah ajH;have ac8:=ah ((ak6.out.below hS ak6.out.lt).grown Dc (fun e=>HQN.out qa UO e.symm));clear Md amL Dc ajH;obtain⟨hca,hfa,Xz,hna,hma⟩:=aD.rules ac8.out))|fail)
   clear hca hfa Xz hna hma
   have qR:=aO zw qa 8 (.slice Ep m10 n10)
   have aoo:(hC (.slice (some ⟨bp,op,none⟩) p.parts.length c1) (.slice a2 p.wins.length c2) (.slice a3 p.chans.length c3) (.slice ia dx.length ic) p ⟨v,us,(.slice (some ⟨qm,0,none⟩) p.parts.length p.parts.length),List.replicate p.parts.length (.slice none 0 0),List.replicate p.parts.length []⟩ ⟨0,0,0,jL p dx i,-1⟩).toList.map kind=wV:=by
    obtain⟨av,mv,nv,hv⟩:=ajO.out.sl.is
    subst hv
    exact aa2 _ _ _ _ _ _ _ rfl rfl rfl N9 rfl rfl
   have ajD:∀(u:Ks) (y:St),KR zw u y.1→jF qa u y.1→KR (zw.setCell ⟨qa,8,none⟩ (.slice Ep m10 n10)) u y.1:=fun u y hk ha=>hk.bP ha ac8.out aoo j6 aC aC aC qR
   have ajZ:∀g,v.ownBlock=some g→w2.heap.size≤g∧g<w3.heap.size:=fun g hg=>⟨ajN.out.iy g hg,by obtain⟨cs,hb,_⟩:=anJ.out g hg;exact hb.lt⟩
   have h78:=ku.size
   have h37:w3.heap.size≤w7.heap.size:=by have e1:=kV.size;have e2:=kM.size;have e3:=pE.size;simp only[bQ] at e1;omega
   have hold:∀j u,us[j]?=some u→KR (zw.setCell ⟨qa,8,none⟩ (.slice Ep m10 n10)) u (j3 p dx j).1∧(∀g,(Value.slice Ep m10 n10).ownBlock=some g→jF g u (j3 p dx j).1)∧(∀B,B<w2.heap.size→jF B u (j3 p dx j).1):=by
    intro j u hu
    obtain⟨k1,k2,k3⟩:=HUS.out j u hu
    have k9:=(k1.below QE.out).below hS
    refine⟨ajD u _ (k9.SG (XY.out j).1 (XY.out j).2.1 (XY.out j).2.2 ak4.out k2 ab6.out) (k3 qa UO),fun g hg=>?_,k3⟩
    rcases ajP.out with e|e
    ·exact k2 g (e.symm.trans hg)
    ·rw[e] at hg
     cases hg
     exact k9.away (Nat.le_refl _)
   have apj:KR (zw.setCell ⟨qa,8,none⟩ (.slice Ep m10 n10)) s8 x.1∧(∀g,(Value.slice Ep m10 n10).ownBlock=some g→jF g s8 x.1)∧(∀B,B<w2.heap.size→jF B s8 x.1):=by
    have hb:=XY.out i
    rw[xR] at hb
    have k9:=arA.out.below hd9
    have kg:∀g,v.ownBlock=some g→jF g s8 x.1:=fun g hg=>Rj.out g (by have:=(ajZ g hg).2;omega)
    refine⟨ajD s8 x (k9.SG hb.1 hb.2.1 hb.2.2 ak4.out kg ab6.out) (Rj.out qa aj),fun g hg=>?_,fun B hB=>Rj.out B aj⟩
    rcases ajP.out with e|e
    ·exact kg g (e.symm.trans hg)
    ·rw[e] at hg
     cases hg
     exact k9.away (Nat.le_refl _)
   have ao5:=aro.out
   have aol:bI (zw.setCell ⟨qa,8,none⟩ (.slice Ep m10 n10)) w2.heap.size vX true 19 (.slice Ep m10 n10) (tH (us++[s8]) (jL p dx (i+1))):=by
    rw[ao5,←ZV (by rw[hul,Ov])]
    exact wO.out.Dx qR UO
   have aom:NoU (zw.setCell ⟨qa,8,none⟩ (.slice Ep m10 n10)) (.slice Ep m10 n10):=fun g hg=>by
    obtain⟨cs,hb,hn⟩:=arx.out g hg
    have:=wO.out.iy g hg
    exact⟨cs,hb.other _ _ aV,hn⟩
   have aos:aD (zw.setCell ⟨qa,8,none⟩ (.slice Ep m10 n10)) qa (hC (.slice (some ⟨bp,op,none⟩) p.parts.length c1) (.slice a2 p.wins.length c2) (.slice a3 p.chans.length c3) (.slice ia dx.length ic) p ⟨.slice Ep m10 n10,us++[s8],(.slice (some ⟨qm,0,none⟩) p.parts.length p.parts.length),List.replicate p.parts.length (.slice none 0 0),List.replicate p.parts.length []⟩ ⟨0,0,0,jL p dx (i+1),-1⟩) 36:=(ac8.out.set 8 _).cast (ajJ _ _ _ _ p _ _ _ (us++[s8]) (jL p dx (i+1)))
   have aoj:Sl (zw.setCell ⟨qa,8,none⟩ (.slice Ep m10 n10)) false 1 (.slice (some ⟨qm,0,none⟩) p.parts.length p.parts.length) (List.replicate p.parts.length (.slice none 0 0)):=by
    have hs9:=(HSL.out.below QE.out).below hS
    have abG:=Tw hs9 ab6.out (fun g hg=> .inr fun b hb=>by
     simp only[Value.ownBlock,Option.some.injEq] at hb
     have:=(ajZ g hg).1
     omega)
    exact abG.bO qR (.inr fun b hb=>acf)
   have aov:Below w1.heap.size w1 (zw.setCell ⟨qa,8,none⟩ (.slice Ep m10 n10)):=Below.setCell (CS (am_.trans (hS.mono am_.size)) ab6.out aj (fun g hg=>by have:=(ajZ g hg).1;omega)) GQ _
   have aog:w2.heap.size≤(zw.setCell ⟨qa,8,none⟩ (.slice Ep m10 n10)).heap.size:=by have:=ab6.out.size;simp;omega
   go_roundw
   case rel=>
    refine⟨i+1,.slice Ep m10 n10,us++[s8],aj,dn,by simp[hul],aol,aom,fun j u hu=>?_,aos,aoj,aov,aog⟩
    by_cases hj:j<us.length
    ·rw[List.getElem?_append_left hj] at hu
     exact hold j u hu
    ·rw[List.getElem?_append_right aj] at hu
     have hj0:j=i:=by
      have:=(List.getElem?_eq_some_iff.1 hu).1
      simp at this
      omega
     subst hj0
     rw[hul,Nat.sub_self] at hu
     simp only[List.getElem?_cons_zero,Option.some.injEq] at hu
     subst hu
     rw[xR]
     exact apj
   case measure=>simp[intOf];omega
  ·have hie:i=p.parts.length:=by omega
   subst hie
   have hdn:decide ((p.parts.length:Int)<p.parts.length)=false:=decide_eq_false aj
   have Ov:(jL p dx p.parts.length).length=p.parts.length:=lg ..
   have hmr:MR wr ⟨v,us,(.slice (some ⟨qm,0,none⟩) p.parts.length p.parts.length),List.replicate p.parts.length (.slice none 0 0),List.replicate p.parts.length []⟩ (fu p dx) 0:=by
    refine⟨ak3.out.sl,by rw[show(fu p dx).seats.length=p.parts.length from Ov];exact hul,fun j u y h1 h2=>?_,HSL.out,ahT,ahT,fun j u l h1 h2=>?_⟩
    ·have h3:(jL p dx p.parts.length)[j]?=some y:=h2
     have hj:=(List.getElem?_eq_some_iff.1 h3).1
     rw[wH aj] at h3
     cases h3
     exact(HUS.out j u h1).1
    ·dsimp only at h1 h2
     rw[List.getElem?_replicate] at h1 h2
     split at h1
     ·rename_i hj
      rw[if_pos hj] at h2
      cases h1;cases h2
      exact⟨Sl.nil _ _ _,Nat.zero_le _⟩
     ·cases h1
   have hma:∀B,B<w1.heap.size→iR B ⟨v,us,(.slice (some ⟨qm,0,none⟩) p.parts.length p.parts.length),List.replicate p.parts.length (.slice none 0 0),List.replicate p.parts.length []⟩ (fu p dx):=fun B hB=>by
    refine⟨lY ak3.out aj,fun j u y h1 h2=>?_,.inr fun b hb=>acf,fun j u l h1 h2=>?_⟩
    ·have h3:(jL p dx p.parts.length)[j]?=some y:=h2
     have hj:=(List.getElem?_eq_some_iff.1 h3).1
     rw[wH aj] at h3
     cases h3
     exact(HUS.out j u h1).2.2 B aj
    ·dsimp only at h1 h2
     rw[List.getElem?_replicate] at h1 h2
     split at h1
     ·rename_i hj
      rw[if_pos hj] at h2
      cases h1;cases h2
      exact .inl rfl
     ·cases h1
   have hv:=je (HP.out.below Zn) N9 hmr
   have HV:=ah hv
   have HMR:=ah hmr
   have HMA:=ah hma
   have jo:aD wr qa (hC (.slice a1 p.parts.length c1) (.slice a2 p.wins.length c2) (.slice a3 p.chans.length c3) (.slice ia dx.length ic) p ⟨v,us,(.slice (some ⟨qm,0,none⟩) p.parts.length p.parts.length),List.replicate p.parts.length (.slice none 0 0),List.replicate p.parts.length []⟩ (fu p dx)) 36:=XF.out
   have ak7:=ah jo
   have Ol:=nk (.slice a1 p.parts.length c1) (.slice a2 p.wins.length c2) (.slice a3 p.chans.length c3) (.slice ia dx.length ic) p ⟨v,us,(.slice (some ⟨qm,0,none⟩) p.parts.length p.parts.length),List.replicate p.parts.length (.slice none 0 0),List.replicate p.parts.length []⟩ (fu p dx)
   clear hv hmr hma jo XF
   go_wp2_with(first|((with_reducible refine cK 36 ?_);(refine aK rfl 36 _ rfl (hC (.slice a1 p.parts.length c1) (.slice a2 p.wins.length c2) (.slice a3 p.chans.length c3) (.slice ia dx.length ic) p ⟨v,us,(.slice (some ⟨qm,0,none⟩) p.parts.length p.parts.length),List.replicate p.parts.length (.slice none 0 0),List.replicate p.parts.length []⟩ (fu p dx)) eH (HV.out) ak7.out ?_ ?_;(exact aM)))|((with_reducible refine bS 36 ?_);(refine aR rfl 36 _ _ rfl KZr.out (.agg (hC (.slice a1 p.parts.length c1) (.slice a2 p.wins.length c2) (.slice a3 p.chans.length c3) (.slice ia dx.length ic) p ⟨v,us,(.slice (some ⟨qm,0,none⟩) p.parts.length p.parts.length),List.replicate p.parts.length (.slice none 0 0),List.replicate p.parts.length []⟩ (fu p dx))) eH (HV.out) ?_ (_) (gM 11 lX ()) ?_ ?_ ?_;(exact gG);(exact aM);(exact aM);(intro N7 nN oP zB f_;have pI:=ah nN)))|fail)
   have sK:=HMR.out.bP (R:=w.heap.size+1+1) (ks:=wV) (HMA.out (w.heap.size+1+1) aj) KZr.out rfl aC aC aC aC oP
   exact Eh Tryz.results8 eH HV.out aF aF pI.out rfl ⟨_,rfl,sK,fun B hB=>HMA.out B aj,Zn.trans (f_.mono aj)⟩
end Go.Proofs.YtgmodehldmahiaaGreatDoor
end
section
namespace Go.Proofs.YtgmodehldmahiaaGreatDoor
open Go Go.RowKit Go.Tm
attribute [local go_sem] fO fM fK d_ dM dZ dY dX dW dV dU dS dR dQ dP dO dN iQ iP iO iN iM iL iK iG iJ iI fU fT fQ fP fI fH fC
def tZ(n:Int):Nat:=if n<0 then 0 else if 600<n then 600 else n.toNat
theorem Sy(n:Int):tZ n≤600:=by unfold tZ;split;·omega
                               split<;>omega
theorem Sw(n:Int)(w:World):Calls Tryz.prog 11 #[.int .i64 n] w fun e w'=>e=.returned (.int .i64 (tZ n))∧Below w.heap.size w w':=by
 unfold tZ
 by_cases h0:n<0
 ·have d0:decide (n<0)=true:=by simp[h0]
  rw[if_pos h0]
  exact acz
 ·have d0:decide (n<0)=false:=by simp[h0]
  rw[if_neg h0]
  by_cases h1:600<n
  ·have d1:decide (600<n)=true:=by simp[h1]
   rw[if_pos h1]
   exact acz
  ·have d1:decide (600<n)=false:=by simp[h1]
   obtain⟨m,rfl⟩:∃m:Nat,n=m:=⟨n.toNat,aj⟩
   rw[if_neg h1,Int.toNat_natCast]
   exact acz
theorem wz(v:Value)(dx:List (List ByteArray))(w:World)(hv:mR w v dx):Calls Tryz.prog 7 #[v] w fun e w'=>(∃b,e=.returned (.bool b))∧Below w.heap.size w w':=by
 obtain⟨a,cap,rfl,hl⟩:=hv.shape
 obtain⟨vs,h1,h2,h3⟩:=hv.row
 have H1:=ah h1
 have H3:=ah h3
 clear hv h1 h3
 go_enter Tryz.func7,Tryz.ntmps7
 go_wp2_with fail
 go_loopw [3] (fun t W=>∃i:Nat,i≤dx.length∧t=.int .i64 i∧Below w.heap.size w W) (fun t _=>dx.length-(intOf t).toNat)
 case atStart=>exact⟨0,Nat.zero_le _,rfl,Below.refl _ _⟩
 case round=>
  obtain⟨i,hi,rfl,bZ⟩:=hrel
  have Bj:=bZ.size
  by_cases hlt:i<dx.length
  ·obtain⟨u,hu⟩:∃u,vs[i]?=some u:=⟨_,List.getElem?_eq_getElem aj⟩
   obtain⟨l,vT⟩:∃l,dx[i]?=some l:=⟨_,List.getElem?_eq_getElem hlt⟩
   obtain⟨ua,un,uc,rfl⟩:=(H3.out i u l hu vT).is
   obtain⟨b,off,xR,hbl,hc⟩:=(H1.out.below bZ).at hu
   subst xR
   have hc0:wr.cell? ⟨b,off+i,none⟩=some (.slice ua un uc):=O8
   have hwr:IntKind.i64.wrap ((i:Int)+1)=i+1:=IntWalk.i64_in _ aj
   have hd:decide ((un:Int)>8)=true∨decide ((un:Int)>8)=false:=by cases decide ((un:Int)>8)<;>simp
   clear hu vT hc
   rcases hd with hd|hd
   ·go_wp2_with fail
    go_ret
    exact⟨⟨_,rfl⟩,bZ⟩
   ·go_wp2_with fail
    go_roundw
    case rel=>exact⟨i+1,aj,dn,bZ⟩
    case measure=>simp[intOf];omega
  ·go_wp2_with fail
   go_ret
   exact⟨⟨_,rfl⟩,bZ⟩
theorem PW(v:Value)(dx:List (List ByteArray))(i:Int)(w:World)(hv:mR w v dx):
  Calls Tryz.prog 14 #[v,.int .i64 i] w fun e w'=>∃u,e=.returned u∧Sl w' false 1 u (rE (jr dx i))∧Below w.heap.size w w':=by
 obtain⟨a,cap,rfl,hl⟩:=hv.shape
 obtain⟨vs,h1,h2,h3⟩:=hv.row
 by_cases h0:i<0
 ·have he:jr dx i=[]:=by unfold jr;rw[if_pos (.inl h0)]
  rw[he]
  have d0:decide (i<0)=true:=yu
  clear h1 h3 hv he
  go_enter Tryz.func14,Tryz.ntmps14
  exact Dn
 have d0:decide (i<0)=false:=yu
 obtain⟨j,rfl⟩:∃j:Nat,i=j:=⟨i.toNat,aj⟩
 by_cases hi:j<dx.length
 ·exact ai4
 ·have he:jr dx j=[]:=by unfold jr;rw[if_pos aj]
  rw[he]
  have d1:decide ((dx.length:Int)≤j)=true:=decide_eq_true aj
  clear h1 h3 hv he h0
  go_enter Tryz.func14,Tryz.ntmps14
  exact Dn
theorem VO(v:Value)(dx:List (List ByteArray))(i:Int)(w:World)(hv:mR w v dx):
  Calls Tryz.prog 23 #[v,.int .i64 i] w fun e w'=>∃u,e=.returned u∧Sl w' false 1 u (rE (jr dx i))∧Below w.heap.size w w':=by
 obtain⟨a,cap,rfl,hl⟩:=hv.shape
 obtain⟨vs,h1,h2,h3⟩:=hv.row
 by_cases h0:i<0
 ·have he:jr dx i=[]:=by unfold jr;rw[if_pos (.inl h0)]
  rw[he]
  have d0:decide (i<0)=true:=yu
  clear h1 h3 hv he
  go_enter Tryz.func23,Tryz.ntmps23
  exact Dn
 have d0:decide (i<0)=false:=yu
 obtain⟨j,rfl⟩:∃j:Nat,i=j:=⟨i.toNat,aj⟩
 by_cases hi:j<dx.length
 ·exact ai3
 ·have he:jr dx j=[]:=by unfold jr;rw[if_pos aj]
  rw[he]
  have d1:decide ((dx.length:Int)≤j)=true:=decide_eq_true aj
  clear h1 h3 hv he h0
  go_enter Tryz.func23,Tryz.ntmps23
  exact Dn
end Go.Proofs.YtgmodehldmahiaaGreatDoor
end
