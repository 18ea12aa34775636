/- Part 35 of 53 of the proof of topAlone_and_topApart. Conditions: see each. -/
import Derived.Test.YtgmodehldmahiaaGreatDoorB14
import Derived.Test.YtgmodehldmahiaaGreatDoorB34
set_option linter.unusedVariables false
set_option linter.unusedSimpArgs false
set_option maxRecDepth 8192
set_option maxHeartbeats 40000000
namespace Go.Proofs.YtgmodehldmahiaaGreatDoor
open Go Go.RowKit Go.Tm
attribute [local go_sem] fO fM fK d_ dM dZ dY dX dW dV dU dS dR dQ dP dO dN iQ iP iO iN iM iL iK iG iJ iI fU fT fQ fP fI fH fC
theorem xK{P:Program}{o:Oper}{a:Act}{w w':World}{K:Act→World→Prop}{Q:Exit→Act→World→Prop}(t:TypeId)(q r:Operand)(ho:o.op=.makeSlice t q r)(x y:Value)(hq:a.eval q=x)(hr:a.eval r=y)
  {v:Value}(hrun:(Instr.makeSlice t x y).run P w=.ok v w')(h:K (a.put o.dst v) w'):o.wp P a w K Q:=by
 unfold Oper.wp execOp
 simp only[ho,hq,hr,hrun,Sem.run_bind,Sem.run_pure,Result.andThen_ok]
 exact h
abbrev lF:Array Value:=#[.slice none 0 0,.int .i64 0]
theorem ae8(n i j:Nat)(hi:i<n)(hj:j<2):(madeCells lF (n*2))[i*2+j]?=lF[j]?:=by
 unfold madeCells
 rw[Array.getElem?_map,Array.getElem?_eq_getElem aV]
 obtain rfl|rfl:j=0∨j=1:=by omega
 ·simp
 ·simp[Nat.add_mod]
theorem jU(w:World)(n:Nat)(hn:n≤1000000)(E:TypeId):Sl (w.alloc (.cells (madeCells lF (n*2)) E)) true 2 (.slice (some ⟨w.heap.size,0,none⟩) n n) (List.replicate n (.agg lF)):=by
 refine⟨?_,some ⟨w.heap.size,0,none⟩,n,by rw[List.length_replicate],aI,yA,?_⟩
 ·intro x hx
  obtain⟨_,rfl⟩:=List.mem_replicate.1 hx
  exact⟨_,rfl,rfl,FX⟩
 ·by_cases h0:n=0
  ·subst h0;exact .inl rfl
  ·refine .inr ⟨w.heap.size,0,rfl,aI,fun i x hx=>?_⟩
   rw[List.getElem?_replicate] at hx
   split at hx
   ·rename_i hi
    cases hx
    intro j v hv
    have hj:j<2:=(List.getElem?_eq_some_iff.1 hv).1
    have hb:=(aD.new w (madeCells lF (n*2)) E).rules.1 (0+i*2+j)
    rw[Nat.zero_add] at hb⊢
    rw[hb,ae8 n i j hi hj,←Array.getElem?_toList]
    exact hv
   ·cases hx
abbrev bxZ:Bx:=⟨[],0⟩
theorem afx{w:World}{v:Value}{n:Nat}(h:Sl w true 2 v (List.replicate n (.agg lF))):Rk w v (List.replicate n (.slice none 0 0)) (List.replicate n bxZ):=by
 refine⟨?_,aI,fun i u x hu hx=>?_⟩
 ·have:vS (List.replicate n (.slice none 0 0)) (List.replicate n bxZ)=List.replicate n (.agg lF):=by
   unfold vS
   rw[List.zipWith_replicate']
  rw[this];exact h
 ·rw[List.getElem?_replicate] at hu hx
  split at hu
  ·rename_i hi
   rw[if_pos hi] at hx
   cases hu;cases hx
   exact Sl.nil w true 2
  ·cases hu
theorem Pp:Ty Tryz.prog 9 1 false:=⟨ay,ay,aC,ay⟩
theorem afd:(Tryz.prog.info? 9).map (fun i=>(i.zero,i.size,i.bytes))=some (some (.string ⟨#[]⟩),1,16):=by kernel_rfl
theorem abj(v:Value)(xs:List Value)(w:World)(hsl:Sl w false 1 v xs)(hbytes:xs.length*16≤140737488355328):
  Calls Tryz.prog 70 #[v] w fun e w'=>∃v',e=.returned v'∧bI w' w.heap.size 9 false 1 v' xs∧Below w.heap.size w w':=by
 have rF:=ah hsl
 obtain⟨hsz,a,cap,rfl,hl,hm,dL⟩:=hsl
 have hlen:xs.length≤maxLen:=aj
 cases a with
 |none=>
  have h0:xs=[]:=Bp
  subst h0
  have hnil:=fun(n c:Nat) (w:World)=>fE Tryz.prog (t:=52) (n:=n) (c:=c) Tryz.underlying52 w
  clear dL hsz hl hm hlen
  go_enter Tryz.func70,Tryz.ntmps70
  exact Bq
 |some a=>
  have hnil:=fun(n c:Nat) (w:World)=>fD Tryz.prog (t:=52) (a:=a) (n:=n) (c:=c) Tryz.underlying52 w
  obtain⟨i0,hi,hz0,hz1,hz2⟩:=info_parts afd
  have HI:=ah hi
  have HZ:=ah (And.intro hz0 (And.intro hz1 hz2))
  have HS:=ah hsz
  clear hi hz0 hz1 hz2 dL hl hm hsz
  go_enter Tryz.func70,Tryz.ntmps70
  go_wp2_with(first|(refine wpList_append_own _ rfl _ _ 52 rfl w.heap.size 9 i0 (.string ⟨#[]⟩) 1 16 Tryz.underlying52 HI.out HZ.out.1 HZ.out.2.1 HZ.out.2.2 rfl aC (.slice (some ⟨w.heap.size,0,none⟩) 0 0) 0 [] dw (World.ownsRow_made w #[] 0 (Nat.le_refl _) (Nat.zero_le _) rfl) a xs.length cap (flat xs) dw ?c1 ?c2 ?c3 ?c4 ?c5 ?c6 ?_)|fail)
  case c1=>exact fA HS.out
  case c2=>exact(rF.out.below ((Below.refl _ _).alloc (Nat.le_refl _) _)).news
  case c3=>exact jq HS.out
  case c4=>omega
  case c5=>omega
  case c6=>simp
  exact L9
structure yJ(F:Option Addr→Nat→Option Addr→Nat→Option Addr→Nat→Nat→Nat→World→Prop)(G:Option Addr→Nat→Option Addr→Nat→Option Addr→Nat→Nat→Nat→Act)(a':Act)(w':World):Prop where
 ex:∃a1 n1 a2 n2 a3 n3 q1 q2,F a1 n1 a2 n2 a3 n3 q1 q2 w'∧a'=G a1 n1 a2 n2 a3 n3 q1 q2
theorem yJ.of{F:Option Addr→Nat→Option Addr→Nat→Option Addr→Nat→Nat→Nat→World→Prop}{G:Option Addr→Nat→Option Addr→Nat→Option Addr→Nat→Nat→Nat→Act}{a':Act}{w':World}(a1:Option Addr)(n1:Nat)(a2:Option Addr)(n2:Nat)(a3:Option Addr)(n3:Nat)(q1 q2:Nat)(h:F a1 n1 a2 n2 a3 n3 q1 q2 w')(e:a'=G a1 n1 a2 n2 a3 n3 q1 q2):yJ F G a' w':=⟨a1,n1,a2,n2,a3,n3,q1,q2,h,e⟩
theorem aei{P:Program}{c:Code}{Q:Exit→Act→World→Prop}{a:Act}{w:World}(F:Option Addr→Nat→Option Addr→Nat→Option Addr→Nat→Nat→Nat→World→Prop)(G:Option Addr→Nat→Option Addr→Nat→Option Addr→Nat→Nat→Nat→Act)
  (h:c.wp P (fun e a' w'=>e=.normal∧yJ F G a' w') a w)(hM:∀a1 n1 a2 n2 a3 n3 q1 q2 W,F a1 n1 a2 n2 a3 n3 q1 q2 W→Q .normal (G a1 n1 a2 n2 a3 n3 q1 q2) W):c.wp P Q a w:=
 Code.wp_mono (fun e a w h=>by obtain⟨rfl,a1,n1,a2,n2,a3,n3,q1,q2,h1,rfl⟩:=h;exact hM _ _ _ _ _ _ _ _ w h1) h
def I9(im:List ByteArray)(ou ins:List aW.Ch)(now:Int):Kn:=⟨[],[],0,[],[],0,[],now,im,ou,ins,List.replicate ins.length bxZ,⟨#[]⟩,[],[],0,0⟩
noncomputable def nC(mem:Int)(im:List ByteArray)(ou ins:List aW.Ch)(now:Int):Kn:={I9 im ou ins now with hs:=if mem<0 then 0 else mem}
noncomputable def DC(k:Kn):Kn×Int:=
 if(dB k 0).2=0 then((eZ k (sO 0 (dB k 0).1)).1,(eZ k (sO 0 (dB k 0).1)).2.2) else(k,(dB k 0).2)
noncomputable def kN(mem:Int)(im:List ByteArray)(ou ins:List aW.Ch)(now:Int):Kn:=
 if(DC (nC mem im ou ins now)).2=0 then(DC (nC mem im ou ins now)).1 else{(DC (nC mem im ou ins now)).1 with gone:=1}
theorem Ed(mem:Int)(vi vo vn:Value)(im:List ByteArray)(ou ins:List aW.Ch)(now:Int)(w:World)(hi:Sl w false 1 vi (rE im))(ho:Sl w true 5 vo (aW.oC ou))(hn:Sl w true 5 vn (aW.oC ins))
  (hf:Fit (nC mem im ou ins now))(hsz:(dB (nC mem im ou ins now) 0).1.size≤maxLen)(FP:im.length≤8796093022208)(FN:ou.length≤1000000)(Am:ins.length≤1000000):
  Calls Tryz.prog 51 #[.int .i64 mem,vi,vo,vn,.int .u64 now] w fun e w'=>∃s',e=.returned (.agg (kC s' (kN mem im ou ins now)))∧KR w' s' (kN mem im ou ins now)∧(∀B,B<w.heap.size→jF B s' (kN mem im ou ins now))∧Below w.heap.size w w':=by
 have HCI:=ah (fun W h=>abj vi (rE im) W h (by rw[xE];omega))
 have HCO:=ah (fun W h=>aW.CK vo (aW.oC ou) W h (by simp[aW.oC];omega))
 have HCN:=ah (fun W h=>aW.CK vn (aW.oC ins) W h (by simp[aW.oC];omega))
 have HI:=ah hi
 have HO:=ah ho
 have HN:=ah hn
 obtain⟨an,cn,hvn,hln⟩:=hn.shape
 rw[show(aW.oC ins).length=ins.length by simp[aW.oC]] at hvn hln
 obtain⟨i0,qN,hz0,hs0,akz⟩:=info_parts Yx
 have hrun:=fun W:World=>run_makeSlice (P:=Tryz.prog) W 53 93 i0 _ Tryz.underlying53 qN hz0 .i64 .i64 (ins.length:Int) (ins.length:Int) aj (Int.le_refl _) (by rw[hs0];omega) (by rw[akz];omega) aj
 rw[hs0] at hrun
 simp only[Int.toNat_natCast] at hrun
 have HMK:=ah (show∀W:World,(Instr.makeSlice 53 (.int .i64 (ins.length:Int)) (.int .i64 (ins.length:Int))).run Tryz.prog W=.ok (.slice (some ⟨W.heap.size,0,none⟩) ins.length ins.length) (W.alloc (.cells (madeCells lF (ins.length*2)) 93)) from hrun)
 rw[hvn] at HCN hn
 have HN:=ah hn
 subst hvn
 clear hi ho hn hrun
 go_enter Tryz.func51,Tryz.ntmps51
 go_wp2_with fail
 (generalize bR:World.alloc _ _=w0;have KZ:aD w0 (w.heap.size) (Xv) 57:=bH;have hb0:Below w.heap.size w w0:=bN;have hz0:w0.heap.size=w.heap.size+1:=bX;clear bR;have KZ:=ah KZ)
 have HI0:=ah (HI.out.below hb0)
 have Y6:=ah (HO.out.below hb0)
 have HN0:=ah (HN.out.below hb0)
 have vO:w.heap.size+1≤w0.heap.size:=aj
 clear hz0
 refine aei (fun a1 n1 a2 n2 a3 n3 q1 q2 W=>Sl W false 1 (.slice a1 im.length n1) (rE im)∧Sl W true 5 (.slice a2 ou.length n2) (aW.oC ou)∧Sl W true 5 (.slice a3 ins.length n3) (aW.oC ins)∧Sl W true 2 (.slice (some ⟨q1,0,none⟩) ins.length ins.length) (List.replicate ins.length (.agg lF))∧
  aD W q2 #[.slice none 0 0,.slice none 0 0,.int .i64 0,.slice none 0 0,.slice none 0 0,.int .i64 0,.slice none 0 0,.int .u64 now,.slice a1 im.length n1,.slice a2 ou.length n2,.slice a3 ins.length n3,.slice (some ⟨q1,0,none⟩) ins.length ins.length,.string {data:=#[]},.slice none 0 0,.slice none 0 0,.int .i64 0,.int .i64 0] kT∧Below w0.heap.size w0 W∧w0.heap.size≤q2∧Apart q2 (.slice a1 im.length n1) (rE im)∧Apart q2 (.slice (some ⟨q1,0,none⟩) ins.length ins.length) (List.replicate ins.length (.agg lF))∧(∀B,B<w0.heap.size→Apart B (.slice a1 im.length n1) (rE im)∧Apart B (.slice a2 ou.length n2) (aW.oC ou)∧Apart B (.slice a3 ins.length n3) (aW.oC ins))∧w0.heap.size≤q1) ?G ?_ ?_
 rotate_left
 ·((refine aY (fun W=>Below w0.heap.size w0 W) (fun i=>decide (i<10)) ay ?_);
          have hS:Below w0.heap.size w0 w0.drew:=(Below.refl _ _).drew;
          (refine tk 0 14 hS ?_);
          (refine tk 2 16 hS ?_);
          (refine tk 4 18 hS ?_);
          (refine tk 6 20 hS ?_);
          (refine tk 7 21 hS ?_);
          (refine tk 9 23 hS ?_);
          (refine eX 1 8 (oi:=⟨some 15,_,_,_,_,_⟩) (oj:=⟨some 22,_,_,_,_,_⟩) rfl rfl ay rfl rfl (fun K hK=>?_) (fun K hK=>?_));
          (focus((go_simp;(with_reducible refine(HCI.out _ (HI0.out.below hS)).mono ?_);rintro en w1 ⟨v1,rfl,zG,hb1⟩;have hS:=hS.trans (Below.mono hb1 hS.size);obtain⟨a1,n1,rfl,jO⟩:=zG.sl.shape;rw[xE] at zG⊢;have h1:=zG.sl;(have ap1:∀B,B<w0.heap.size→Apart B (.slice a1 im.length n1) (rE im):=fun B hB=> .inr fun c hc=>aif);(try(have sJ:=sJ.below hb1));(try go_wp2_with fail));(refine hK.out _ _ (fun _=>b_) ?_;clear hK K);(try simp only[pt]);(refine eX 3 8 (oi:=⟨some 17,_,_,_,_,_⟩) (oj:=⟨some 22,_,_,_,_,_⟩) rfl rfl ay rfl rfl (fun K hK=>?_) (fun K hK=>?_));(focus((go_simp;(with_reducible refine(HCO.out _ (Y6.out.below hS)).mono ?_);rintro en w2 ⟨v2,rfl,o7,hb2⟩;have hS:=hS.trans (Below.mono hb2 hS.size);obtain⟨a2,n2,rfl,hl2⟩:=o7.sl.shape;rw[show(aW.oC ou).length=ou.length by simp[aW.oC]] at o7⊢;have h2:=o7.sl;(have ap2:∀B,B<w0.heap.size→Apart B (.slice a2 ou.length n2) (aW.oC ou):=fun B hB=> .inr fun c hc=>amh);have h1:=h1.below hb2;(try(have sJ:=sJ.below hb2));(try go_wp2_with fail));(refine hK.out _ _ (fun _=>b_) ?_;clear hK K);(try simp only[pt]);(refine eX 5 8 (oi:=⟨some 19,_,_,_,_,_⟩) (oj:=⟨some 22,_,_,_,_,_⟩) rfl rfl ay rfl rfl (fun K hK=>?_) (fun K hK=>?_));(focus((go_simp;(with_reducible refine(HCN.out _ (HN0.out.below hS)).mono ?_);rintro en w3 ⟨v3,rfl,pz,hb3⟩;have hS:=hS.trans (Below.mono hb3 hS.size);obtain⟨a3,n3,rfl,qM⟩:=pz.sl.shape;rw[show(aW.oC ins).length=ins.length by simp[aW.oC]] at pz⊢;have h3:=pz.sl;(have ap3:∀B,B<w0.heap.size→Apart B (.slice a3 ins.length n3) (aW.oC ins):=fun B hB=> .inr fun c hc=>ajS);have h1:=h1.below hb3;have h2:=h2.below hb3;(try(have sJ:=sJ.below hb3));(try go_wp2_with fail));(refine hK.out _ _ (fun _=>b_) ?_;clear hK K);(try simp only[pt]);(refine aJ 8 (oi:=⟨some 22,_,_,_,_,_⟩) rfl ay rfl (fun K hK=>?_));(refine xK 53 _ _ rfl _ _ bG bG (HMK.out _) ?_);(refine hidS hK (hS.alloc hS.size _) (fun hS=>?_);clear hK K);(try simp only[pt]);(first|(have nV:w0.heap.size≤w3.heap.size:=Below.size ‹Below w0.heap.size w0 w3›;have sJ:=jU w3 ins.length Am 93;have dK:Below w3.heap.size w3 (w3.alloc (.cells (madeCells lF (ins.length*2)) 93)):=(Below.refl _ _).alloc (Nat.le_refl _) _;(try(have h1:=h1.below dK));(try(have h2:=h2.below dK));(try(have h3:=h3.below dK));(obtain⟨w5,iH⟩:∃w5,w5=w3.alloc (.cells (madeCells lF (ins.length*2)) 93):=⟨_,rfl⟩);(obtain⟨q1,gD⟩:∃q1,q1=w3.heap.size:=⟨_,rfl⟩);rw[←iH,←gD] at sJ;rw[←gD] at nV;rw[←iH] at hS dK;rw[←iH,←gD];(try rw[←iH] at h1);(try rw[←iH] at h2);(try rw[←iH] at h3);clear iH gD)|(have nV:w0.heap.size≤w2.heap.size:=Below.size ‹Below w0.heap.size w0 w2›;have sJ:=jU w2 ins.length Am 93;have dK:Below w2.heap.size w2 (w2.alloc (.cells (madeCells lF (ins.length*2)) 93)):=(Below.refl _ _).alloc (Nat.le_refl _) _;(try(have h1:=h1.below dK));(try(have h2:=h2.below dK));(try(have h3:=h3.below dK));(obtain⟨w5,iH⟩:∃w5,w5=w2.alloc (.cells (madeCells lF (ins.length*2)) 93):=⟨_,rfl⟩);(obtain⟨q1,gD⟩:∃q1,q1=w2.heap.size:=⟨_,rfl⟩);rw[←iH,←gD] at sJ;rw[←gD] at nV;rw[←iH] at hS dK;rw[←iH,←gD];(try rw[←iH] at h1);(try rw[←iH] at h2);(try rw[←iH] at h3);clear iH gD)|(have nV:w0.heap.size≤w1.heap.size:=Below.size ‹Below w0.heap.size w0 w1›;have sJ:=jU w1 ins.length Am 93;have dK:Below w1.heap.size w1 (w1.alloc (.cells (madeCells lF (ins.length*2)) 93)):=(Below.refl _ _).alloc (Nat.le_refl _) _;(try(have h1:=h1.below dK));(try(have h2:=h2.below dK));(try(have h3:=h3.below dK));(obtain⟨w5,iH⟩:∃w5,w5=w1.alloc (.cells (madeCells lF (ins.length*2)) 93):=⟨_,rfl⟩);(obtain⟨q1,gD⟩:∃q1,q1=w1.heap.size:=⟨_,rfl⟩);rw[←iH,←gD] at sJ;rw[←gD] at nV;rw[←iH] at hS dK;rw[←iH,←gD];(try rw[←iH] at h1);(try rw[←iH] at h2);(try rw[←iH] at h3);clear iH gD)|(have nV:w0.heap.size≤w0.drew.heap.size:=Nat.le_refl _;have sJ:=jU w0.drew ins.length Am 93;have dK:Below w0.drew.heap.size w0.drew (w0.drew.alloc (.cells (madeCells lF (ins.length*2)) 93)):=(Below.refl _ _).alloc (Nat.le_refl _) _;(try(have h1:=h1.below dK));(try(have h2:=h2.below dK));(try(have h3:=h3.below dK));(obtain⟨w5,iH⟩:∃w5,w5=w0.drew.alloc (.cells (madeCells lF (ins.length*2)) 93):=⟨_,rfl⟩);(obtain⟨q1,gD⟩:∃q1,q1=w0.drew.heap.size:=⟨_,rfl⟩);rw[←iH,←gD] at sJ;rw[←gD] at nV;rw[←iH] at hS dK;rw[←iH,←gD];(try rw[←iH] at h1);(try rw[←iH] at h2);(try rw[←iH] at h3);clear iH gD));exact amu));(focus((refine xK 53 _ _ rfl _ _ bG bG (HMK.out _) ?_);(refine hidS hK (hS.alloc hS.size _) (fun hS=>?_);clear hK K);(try simp only[pt]);(first|(have nV:w0.heap.size≤w3.heap.size:=Below.size ‹Below w0.heap.size w0 w3›;have sJ:=jU w3 ins.length Am 93;have dK:Below w3.heap.size w3 (w3.alloc (.cells (madeCells lF (ins.length*2)) 93)):=(Below.refl _ _).alloc (Nat.le_refl _) _;(try(have h1:=h1.below dK));(try(have h2:=h2.below dK));(try(have h3:=h3.below dK));(obtain⟨w5,iH⟩:∃w5,w5=w3.alloc (.cells (madeCells lF (ins.length*2)) 93):=⟨_,rfl⟩);(obtain⟨q1,gD⟩:∃q1,q1=w3.heap.size:=⟨_,rfl⟩);rw[←iH,←gD] at sJ;rw[←gD] at nV;rw[←iH] at hS dK;rw[←iH,←gD];(try rw[←iH] at h1);(try rw[←iH] at h2);(try rw[←iH] at h3);clear iH gD)|(have nV:w0.heap.size≤w2.heap.size:=Below.size ‹Below w0.heap.size w0 w2›;have sJ:=jU w2 ins.length Am 93;have dK:Below w2.heap.size w2 (w2.alloc (.cells (madeCells lF (ins.length*2)) 93)):=(Below.refl _ _).alloc (Nat.le_refl _) _;(try(have h1:=h1.below dK));(try(have h2:=h2.below dK));(try(have h3:=h3.below dK));(obtain⟨w5,iH⟩:∃w5,w5=w2.alloc (.cells (madeCells lF (ins.length*2)) 93):=⟨_,rfl⟩);(obtain⟨q1,gD⟩:∃q1,q1=w2.heap.size:=⟨_,rfl⟩);rw[←iH,←gD] at sJ;rw[←gD] at nV;rw[←iH] at hS dK;rw[←iH,←gD];(try rw[←iH] at h1);(try rw[←iH] at h2);(try rw[←iH] at h3);clear iH gD)|(have nV:w0.heap.size≤w1.heap.size:=Below.size ‹Below w0.heap.size w0 w1›;have sJ:=jU w1 ins.length Am 93;have dK:Below w1.heap.size w1 (w1.alloc (.cells (madeCells lF (ins.length*2)) 93)):=(Below.refl _ _).alloc (Nat.le_refl _) _;(try(have h1:=h1.below dK));(try(have h2:=h2.below dK));(try(have h3:=h3.below dK));(obtain⟨w5,iH⟩:∃w5,w5=w1.alloc (.cells (madeCells lF (ins.length*2)) 93):=⟨_,rfl⟩);(obtain⟨q1,gD⟩:∃q1,q1=w1.heap.size:=⟨_,rfl⟩);rw[←iH,←gD] at sJ;rw[←gD] at nV;rw[←iH] at hS dK;rw[←iH,←gD];(try rw[←iH] at h1);(try rw[←iH] at h2);(try rw[←iH] at h3);clear iH gD)|(have nV:w0.heap.size≤w0.drew.heap.size:=Nat.le_refl _;have sJ:=jU w0.drew ins.length Am 93;have dK:Below w0.drew.heap.size w0.drew (w0.drew.alloc (.cells (madeCells lF (ins.length*2)) 93)):=(Below.refl _ _).alloc (Nat.le_refl _) _;(try(have h1:=h1.below dK));(try(have h2:=h2.below dK));(try(have h3:=h3.below dK));(obtain⟨w5,iH⟩:∃w5,w5=w0.drew.alloc (.cells (madeCells lF (ins.length*2)) 93):=⟨_,rfl⟩);(obtain⟨q1,gD⟩:∃q1,q1=w0.drew.heap.size:=⟨_,rfl⟩);rw[←iH,←gD] at sJ;rw[←gD] at nV;rw[←iH] at hS dK;rw[←iH,←gD];(try rw[←iH] at h1);(try rw[←iH] at h2);(try rw[←iH] at h3);clear iH gD));(refine aJ 5 (oi:=⟨some 19,_,_,_,_,_⟩) rfl ay rfl (fun K hK=>?_));(go_simp;(with_reducible refine(HCN.out _ (HN0.out.below hS)).mono ?_);rintro en w3 ⟨v3,rfl,pz,hb3⟩;have hS:=hS.trans (Below.mono hb3 hS.size);obtain⟨a3,n3,rfl,qM⟩:=pz.sl.shape;rw[show(aW.oC ins).length=ins.length by simp[aW.oC]] at pz⊢;have h3:=pz.sl;(have ap3:∀B,B<w0.heap.size→Apart B (.slice a3 ins.length n3) (aW.oC ins):=fun B hB=> .inr fun c hc=>ajS);have h1:=h1.below hb3;have h2:=h2.below hb3;(try(have sJ:=sJ.below hb3));(try go_wp2_with fail));(refine hK.out _ _ (fun _=>b_) ?_;clear hK K);(try simp only[pt]);exact amu))));(focus((refine xK 53 _ _ rfl _ _ bG bG (HMK.out _) ?_);(refine hidS hK (hS.alloc hS.size _) (fun hS=>?_);clear hK K);(try simp only[pt]);(first|(have nV:w0.heap.size≤w3.heap.size:=Below.size ‹Below w0.heap.size w0 w3›;have sJ:=jU w3 ins.length Am 93;have dK:Below w3.heap.size w3 (w3.alloc (.cells (madeCells lF (ins.length*2)) 93)):=(Below.refl _ _).alloc (Nat.le_refl _) _;(try(have h1:=h1.below dK));(try(have h2:=h2.below dK));(try(have h3:=h3.below dK));(obtain⟨w5,iH⟩:∃w5,w5=w3.alloc (.cells (madeCells lF (ins.length*2)) 93):=⟨_,rfl⟩);(obtain⟨q1,gD⟩:∃q1,q1=w3.heap.size:=⟨_,rfl⟩);rw[←iH,←gD] at sJ;rw[←gD] at nV;rw[←iH] at hS dK;rw[←iH,←gD];(try rw[←iH] at h1);(try rw[←iH] at h2);(try rw[←iH] at h3);clear iH gD)|(have nV:w0.heap.size≤w2.heap.size:=Below.size ‹Below w0.heap.size w0 w2›;have sJ:=jU w2 ins.length Am 93;have dK:Below w2.heap.size w2 (w2.alloc (.cells (madeCells lF (ins.length*2)) 93)):=(Below.refl _ _).alloc (Nat.le_refl _) _;(try(have h1:=h1.below dK));(try(have h2:=h2.below dK));(try(have h3:=h3.below dK));(obtain⟨w5,iH⟩:∃w5,w5=w2.alloc (.cells (madeCells lF (ins.length*2)) 93):=⟨_,rfl⟩);(obtain⟨q1,gD⟩:∃q1,q1=w2.heap.size:=⟨_,rfl⟩);rw[←iH,←gD] at sJ;rw[←gD] at nV;rw[←iH] at hS dK;rw[←iH,←gD];(try rw[←iH] at h1);(try rw[←iH] at h2);(try rw[←iH] at h3);clear iH gD)|(have nV:w0.heap.size≤w1.heap.size:=Below.size ‹Below w0.heap.size w0 w1›;have sJ:=jU w1 ins.length Am 93;have dK:Below w1.heap.size w1 (w1.alloc (.cells (madeCells lF (ins.length*2)) 93)):=(Below.refl _ _).alloc (Nat.le_refl _) _;(try(have h1:=h1.below dK));(try(have h2:=h2.below dK));(try(have h3:=h3.below dK));(obtain⟨w5,iH⟩:∃w5,w5=w1.alloc (.cells (madeCells lF (ins.length*2)) 93):=⟨_,rfl⟩);(obtain⟨q1,gD⟩:∃q1,q1=w1.heap.size:=⟨_,rfl⟩);rw[←iH,←gD] at sJ;rw[←gD] at nV;rw[←iH] at hS dK;rw[←iH,←gD];(try rw[←iH] at h1);(try rw[←iH] at h2);(try rw[←iH] at h3);clear iH gD)|(have nV:w0.heap.size≤w0.drew.heap.size:=Nat.le_refl _;have sJ:=jU w0.drew ins.length Am 93;have dK:Below w0.drew.heap.size w0.drew (w0.drew.alloc (.cells (madeCells lF (ins.length*2)) 93)):=(Below.refl _ _).alloc (Nat.le_refl _) _;(try(have h1:=h1.below dK));(try(have h2:=h2.below dK));(try(have h3:=h3.below dK));(obtain⟨w5,iH⟩:∃w5,w5=w0.drew.alloc (.cells (madeCells lF (ins.length*2)) 93):=⟨_,rfl⟩);(obtain⟨q1,gD⟩:∃q1,q1=w0.drew.heap.size:=⟨_,rfl⟩);rw[←iH,←gD] at sJ;rw[←gD] at nV;rw[←iH] at hS dK;rw[←iH,←gD];(try rw[←iH] at h1);(try rw[←iH] at h2);(try rw[←iH] at h3);clear iH gD));exact amv))));
          (focus((refine xK 53 _ _ rfl _ _ bG bG (HMK.out _) ?_);(refine hidS hK (hS.alloc hS.size _) (fun hS=>?_);clear hK K);(try simp only[pt]);(first|(have nV:w0.heap.size≤w3.heap.size:=Below.size ‹Below w0.heap.size w0 w3›;have sJ:=jU w3 ins.length Am 93;have dK:Below w3.heap.size w3 (w3.alloc (.cells (madeCells lF (ins.length*2)) 93)):=(Below.refl _ _).alloc (Nat.le_refl _) _;(try(have h1:=h1.below dK));(try(have h2:=h2.below dK));(try(have h3:=h3.below dK));(obtain⟨w5,iH⟩:∃w5,w5=w3.alloc (.cells (madeCells lF (ins.length*2)) 93):=⟨_,rfl⟩);(obtain⟨q1,gD⟩:∃q1,q1=w3.heap.size:=⟨_,rfl⟩);rw[←iH,←gD] at sJ;rw[←gD] at nV;rw[←iH] at hS dK;rw[←iH,←gD];(try rw[←iH] at h1);(try rw[←iH] at h2);(try rw[←iH] at h3);clear iH gD)|(have nV:w0.heap.size≤w2.heap.size:=Below.size ‹Below w0.heap.size w0 w2›;have sJ:=jU w2 ins.length Am 93;have dK:Below w2.heap.size w2 (w2.alloc (.cells (madeCells lF (ins.length*2)) 93)):=(Below.refl _ _).alloc (Nat.le_refl _) _;(try(have h1:=h1.below dK));(try(have h2:=h2.below dK));(try(have h3:=h3.below dK));(obtain⟨w5,iH⟩:∃w5,w5=w2.alloc (.cells (madeCells lF (ins.length*2)) 93):=⟨_,rfl⟩);(obtain⟨q1,gD⟩:∃q1,q1=w2.heap.size:=⟨_,rfl⟩);rw[←iH,←gD] at sJ;rw[←gD] at nV;rw[←iH] at hS dK;rw[←iH,←gD];(try rw[←iH] at h1);(try rw[←iH] at h2);(try rw[←iH] at h3);clear iH gD)|(have nV:w0.heap.size≤w1.heap.size:=Below.size ‹Below w0.heap.size w0 w1›;have sJ:=jU w1 ins.length Am 93;have dK:Below w1.heap.size w1 (w1.alloc (.cells (madeCells lF (ins.length*2)) 93)):=(Below.refl _ _).alloc (Nat.le_refl _) _;(try(have h1:=h1.below dK));(try(have h2:=h2.below dK));(try(have h3:=h3.below dK));(obtain⟨w5,iH⟩:∃w5,w5=w1.alloc (.cells (madeCells lF (ins.length*2)) 93):=⟨_,rfl⟩);(obtain⟨q1,gD⟩:∃q1,q1=w1.heap.size:=⟨_,rfl⟩);rw[←iH,←gD] at sJ;rw[←gD] at nV;rw[←iH] at hS dK;rw[←iH,←gD];(try rw[←iH] at h1);(try rw[←iH] at h2);(try rw[←iH] at h3);clear iH gD)|(have nV:w0.heap.size≤w0.drew.heap.size:=Nat.le_refl _;have sJ:=jU w0.drew ins.length Am 93;have dK:Below w0.drew.heap.size w0.drew (w0.drew.alloc (.cells (madeCells lF (ins.length*2)) 93)):=(Below.refl _ _).alloc (Nat.le_refl _) _;(try(have h1:=h1.below dK));(try(have h2:=h2.below dK));(try(have h3:=h3.below dK));(obtain⟨w5,iH⟩:∃w5,w5=w0.drew.alloc (.cells (madeCells lF (ins.length*2)) 93):=⟨_,rfl⟩);(obtain⟨q1,gD⟩:∃q1,q1=w0.drew.heap.size:=⟨_,rfl⟩);rw[←iH,←gD] at sJ;rw[←gD] at nV;rw[←iH] at hS dK;rw[←iH,←gD];(try rw[←iH] at h1);(try rw[←iH] at h2);(try rw[←iH] at h3);clear iH gD));(refine aJ 1 (oi:=⟨some 15,_,_,_,_,_⟩) rfl ay rfl (fun K hK=>?_));(go_simp;(with_reducible refine(HCI.out _ (HI0.out.below hS)).mono ?_);rintro en w1 ⟨v1,rfl,zG,hb1⟩;have hS:=hS.trans (Below.mono hb1 hS.size);obtain⟨a1,n1,rfl,jO⟩:=zG.sl.shape;rw[xE] at zG⊢;have h1:=zG.sl;(have ap1:∀B,B<w0.heap.size→Apart B (.slice a1 im.length n1) (rE im):=fun B hB=> .inr fun c hc=>aif);(try(have sJ:=sJ.below hb1));(try go_wp2_with fail));(refine hK.out _ _ (fun _=>b_) ?_;clear hK K);(try simp only[pt]);exact amv)))
 rintro a1 n1 a2 n2 a3 n3 q1 q2 w1 ⟨h1,h2,h3,h4,hB,hb1,mh,ha1,ha4,ha9,gD⟩
 obtain⟨s0,hs0⟩:∃s0:Ks,s0=⟨.slice none 0 0,.slice none 0 0,.slice none 0 0,.slice none 0 0,.slice none 0 0,.slice a1 im.length n1,.slice a2 ou.length n2,.slice a3 ins.length n3,.slice (some ⟨q1,0,none⟩) ins.length ins.length,List.replicate ins.length (.slice none 0 0),.slice none 0 0,.slice none 0 0⟩:=⟨_,rfl⟩
 have hbz:=afx h4
 have ML:KW w1 q2 s0 (I9 im ou ins now):=by
  subst hs0
  refine⟨hB.cast (by rw[gT];rfl),⟨Sl.nil _ _ _,Sl.nil _ _ _,Sl.nil _ _ _,Sl.nil _ _ _,Sl.nil _ _ _,h1,h2,h3,hbz,Sl.nil _ _ _,Sl.nil _ _ _,Jf⟩,.inl rfl,ha1,?_⟩
  have:=ha4
  rcases this with h|h
  ·exact .inl (by
    have hl:=hbz.sl
    have:ins.length=0:=by simpa using congrArg List.length h
    show vS _ _=[]
    unfold I9
    dsimp only
    rw[this];rfl)
  ·exact .inr h
 have hR:∀B,B<w0.heap.size→jF B s0 (I9 im ou ins now):=by
  subst hs0
  exact fun B hB=>⟨.inl rfl,.inl rfl,(ha9 B hB).1,(ha9 B hB).2.1,⟨(ha9 B hB).2.2,.inr fun c hc=>Vj,.inl rfl⟩,.inl rfl⟩
 have bW:=hb0.trans (hb1.mono hb0.size)
 have qA:=ah ML
 have Er:=ah (KZ.out.below hb1 KZ.out.lt)
 have HR:=ah hR
 have hz1:=hb1.size
 have UZ:=Below.refl w1.heap.size w1
 clear ML hR hB h1 h2 h3 h4 ha1 ha4 ha9 hbz HCI HCO HCN HMK HI HO HN HI0 Y6 HN0
 ((try clear hcb bC bn bA bE);have bg:=qA.out.below UZ;obtain⟨hcb,bC,bn,bA,bE⟩:=aD.rules bg.box;have tC:=ah bg;clear bg)
 obtain⟨hv,hhv⟩:∃hv:Int,hv=if mem<0 then 0 else mem:=⟨_,rfl⟩
 obtain⟨ev,hev⟩:∃ev:Int,ev=if mem<0 then 1 else 0:=⟨_,rfl⟩
 have anK:=ah (fun W=>Heap.ag1 mem W)
 rw[←hhv,←hev] at anK
 have HBK:=ah (show kN mem im ou ins now=kN mem im ou ins now from rfl)
 obtain⟨k1,hk1⟩:∃k1,k1=nC mem im ou ins now:=⟨_,rfl⟩
 rw[←hk1] at hf hsz
 have HK1:=ah hk1
 have amS:k1={I9 im ou ins now with hs:=hv}:=by rw[hk1,hhv];rfl
 clear hk1 hhv hev
 go_wp2_with fail
 with_reducible refine(anK.out _).mono ?_
 rintro en w2 ⟨rfl,hb2⟩
 ((try clear hcb bC bn bA bE);have bg:=qA.out.below hb2;obtain⟨hcb,bC,bn,bA,bE⟩:=aD.rules bg.box;have pF:=ah bg;clear bg)
 have Ob:=ah (Er.out.below hb2 Er.out.lt)
 have hz2:=hb2.size
 go_wp2_with fail
 generalize bR:World.setCell _ _ _=w3
 have FK:KW w3 q2 {s0 with H:= .slice none 0 0} k1:=by
  rw[←bR,amS]
  exact(pF.out.VJ hv).XR (l:=[]) (Sl.nil _ _ _)
 have hg3:w2.grownBy w3 (some q2):=acj
 have M0:=ah (Ob.out.grown hg3 aV)
 have zK:=ah FK
 have hz3:=hg3.size
 have Uw:=FK.lt
 have gZ:Below w.heap.size w w3:=bW.trans ((hb2.mono aj).trans (bJ hg3 aj aj))
 have HR3:=ah (show∀B,B<w0.heap.size→jF B {s0 with H:= .slice none 0 0} k1 from by rw[amS];exact fun B hB=>⟨(HR.out B hB).1,.inl rfl,(HR.out B hB).2.2⟩)
 clear bR FK hg3 hcb bC bn bA bE HR KZ Er Ob
 have HIM:=ah (fun W h=>xL q2 {s0 with H:= .slice none 0 0} k1 0 W h hf kF)
 have HFR:=ah (fun W h=>Fu q2 {s0 with H:= .slice none 0 0} k1 (sO 0 (dB k1 0).1) W h hf)
 rw[adZ 0 hsz] at HFR
 have HY:=ah (show DC (nC mem im ou ins now)=if(dB k1 0).2=0 then((eZ k1 (sO 0 (dB k1 0).1)).1,(eZ k1 (sO 0 (dB k1 0).1)).2.2) else(k1,(dB k1 0).2) from by rw[←HK1.out];rfl)
 generalize eZ k1 (sO 0 (dB k1 0).1)=fr at*
 generalize dB k1 0=dx at*
 obtain⟨ms,e⟩:=dx
 obtain⟨kf,f1,f2⟩:=fr
 dsimp only at HIM HFR HY
 with_reducible refine(HIM.out _ zK.out).mono ?_
 rintro en w4 ⟨rfl,hb4⟩
 ((try clear hcb bC bn bA bE);have bg:=zK.out.below hb4;obtain⟨hcb,bC,bn,bA,bE⟩:=aD.rules bg.box;have sN:=ah bg;clear bg)
 have YX:=ah (M0.out.below hb4 M0.out.lt)
 have xU:=hb4.size
 have MU:Xv.size=17:=rfl
 have jK:=gZ.trans (hb4.mono aj)
 by_cases he:e=0
 rotate_left
 ·have e0:(e==0)=false:=by simp[he]
  have e1:(e !=0)=true:=by simp[he]
  have hyb:=HY.out
  rw[if_neg he] at hyb
  go_wp2_with(first|((with_reducible refine cK 57 ?_);generalize bR:World.setCell _ _ _=w9;have BI:KW w9 q2 ({s0 with H:= .slice none 0 0}) ({k1 with gone:=1}):=(by rw[←bR];exact sN.out.JO 1);have YZ:=ah (show aD w9 w.heap.size (Xv) 57 from by rw[←bR];exact YX.out.other _ _ aV);have nE:w4.grownBy w9 (some q2):=qg;clear bR hcb bC bn bA bE;have FU:=ah BI;have zD:=BI.kr.val;have Qr:=nE.size;clear BI;(refine aK rfl 57 _ rfl (kC ({s0 with H:= .slice none 0 0}) ({k1 with gone:=1})) eU zD FU.out.box ?_ ?_;(exact aM)))|((with_reducible refine bS 57 ?_);(refine aR rfl 57 _ _ rfl YZ.out (.agg (kC ({s0 with H:= .slice none 0 0}) ({k1 with gone:=1}))) eU (zD) ?_ (_) (Cm _ vE _ _) ?_ ?_ ?_;(exact gG);(exact aM);(exact aM);(intro zw IK Dc abD uK;have Mk:=ah IK)))|fail)
  have hy:kN mem im ou ins now={k1 with gone:=1}:=by unfold kN;rw[hyb,if_neg he]
  rw[hy]
  have sK:=FU.out.kr.bP (R:=w.heap.size) (ks:=nH) (HR3.out _ aj) YZ.out rfl aC aC aC aC Dc
  refine jH Tryz.results51 eU zD aF Mk.out rfl ⟨({s0 with H:= .slice none 0 0}),rfl,sK,fun B hB=>HR3.out B aj,?_⟩
  exact jK.trans ((bJ nE aj aj).trans uK)
 ·subst he
  have hyb:=HY.out
  rw[if_pos rfl] at hyb
  go_wp2_with fail
  with_reducible refine(HFR.out _ sN.out).mono ?_
  rintro en w5 ⟨rfl,⟨s5,Uc,C_⟩,nK⟩
  have LP:=nK.size
  have LZ:=ah Uc
  have LY:=ah (YX.out.grown nK aV)
  have HR5:=ah (show∀B,B<w0.heap.size→jF B s5 kf from fun B hB=>C_ B aj aj (HR3.out B hB))
  have iE:=jK.trans (bJ nK aj aj)
  have agi:=Below.refl w5.heap.size w5
  clear Uc C_ hcb bC bn bA bE
  ((try clear hcb bC bn bA bE);have bg:=LZ.out.below agi;obtain⟨hcb,bC,bn,bA,bE⟩:=aD.rules bg.box;have CU:=ah bg;clear bg)
  by_cases hf2:f2=0
  ·have e1:(f2 !=0)=false:=by simp[hf2]
   go_wp2_with(first|((with_reducible refine cK 57 ?_);have BI:KW w5 q2 (s5) (kf):=LZ.out;have YZ:=ah LY.out;have nE:w5.grownBy w5 (some q2):=r9 _ _;clear hcb bC bn bA bE;have FU:=ah BI;have zD:=BI.kr.val;have Qr:=nE.size;clear BI;(refine aK rfl 57 _ rfl (kC (s5) (kf)) eU zD FU.out.box ?_ ?_;(exact aM)))|((with_reducible refine bS 57 ?_);(refine aR rfl 57 _ _ rfl YZ.out (.agg (kC (s5) (kf))) eU (zD) ?_ (_) (Cm _ vE _ _) ?_ ?_ ?_;(exact gG);(exact aM);(exact aM);(intro zw IK Dc abD uK;have Mk:=ah IK)))|fail)
   have hy:kN mem im ou ins now=kf:=by unfold kN;rw[hyb,if_pos hf2]
   exact aiV
  ·have e1:(f2 !=0)=true:=by simp[hf2]
   go_wp2_with(first|((with_reducible refine cK 57 ?_);generalize bR:World.setCell _ _ _=w9;have BI:KW w9 q2 (s5) ({kf with gone:=1}):=(by rw[←bR];exact LZ.out.JO 1);have YZ:=ah (show aD w9 w.heap.size (Xv) 57 from by rw[←bR];exact LY.out.other _ _ aV);have nE:w5.grownBy w9 (some q2):=qg;clear bR hcb bC bn bA bE;have FU:=ah BI;have zD:=BI.kr.val;have Qr:=nE.size;clear BI;(refine aK rfl 57 _ rfl (kC (s5) ({kf with gone:=1})) eU zD FU.out.box ?_ ?_;(exact aM)))|((with_reducible refine bS 57 ?_);(refine aR rfl 57 _ _ rfl YZ.out (.agg (kC (s5) ({kf with gone:=1}))) eU (zD) ?_ (_) (Cm _ vE _ _) ?_ ?_ ?_;(exact gG);(exact aM);(exact aM);(intro zw IK Dc abD uK;have Mk:=ah IK)))|fail)
   have hy:kN mem im ou ins now={kf with gone:=1}:=by unfold kN;rw[hyb,if_neg hf2]
   exact aiV
end Go.Proofs.YtgmodehldmahiaaGreatDoor
