/- Part 37 of 53 of the proof of topAlone_and_topApart. Conditions: see each. -/
import Derived.Test.YtgmodehldmahiaaGreatDoorB14
import Derived.Test.YtgmodehldmahiaaGreatDoorB36
set_option linter.unusedVariables false
set_option linter.unusedSimpArgs false
set_option maxRecDepth 8192
set_option maxHeartbeats 40000000
section
namespace Go.Proofs.YtgmodehldmahiaaGreatDoor
open Go Go.RowKit Go.Tm
@[irreducible] def xC(s:Ks)(k:Kn)(ex:Array Value):Array Value:=kC s k++ex
theorem rP(s:Ks)(k:Kn)(ex:Array Value):xC s k ex=kC s k++ex:=by unfold xC;rfl
theorem lH(s:Ks)(k:Kn)(ex:Array Value):(xC s k ex).size=17+ex.size:=by rw[rP,Array.size_append,kY]
theorem Dq(s:Ks)(k:Kn)(ex:Array Value){i:Nat}(h:i<17):(xC s k ex)[i]?=(kC s k)[i]?:=by
 rw[rP,Array.getElem?_append_left (by rw[kY];exact h)]
theorem F3(s:Ks)(k:Kn)(ex:Array Value)(j:Nat):(xC s k ex)[17+j]?=ex[j]?:=by
 rw[rP,Array.getElem?_append_right U_,kY]
 congr 1
 omega
theorem ES(s:Ks)(k:Kn)(ex:Array Value)(j:Nat)(v:Value):(xC s k ex).setIfInBounds (17+j) v=xC s k (ex.setIfInBounds j v):=by
 apply Array.ext_getElem?
 intro i
 rw[Array.getElem?_setIfInBounds]
 by_cases h:i<17
 ·rw[if_neg aj,Dq s k _ h,Dq s k _ h]
 ·obtain⟨n,rfl⟩:∃n,i=17+n:=⟨i-17,aj⟩
  rw[F3,F3,Array.getElem?_setIfInBounds]
  by_cases hj:j=n
  ·subst hj
   simp only[if_true,lH]
   by_cases hs:j<ex.size
   ·rw[if_pos aj,if_pos hs]
   ·rw[if_neg aj,if_neg hs]
  ·rw[if_neg aj,if_neg hj]
theorem Jv(s s':Ks)(k k':Kn)(ex:Array Value):((xC s k ex).toList.take 0++(Value.agg (kC s' k')).cells.toList++(xC s k ex).toList.drop (0+17)).toArray=xC s' k' ex:=by
 rw[rP,rP]
 apply Array.ext'
 simp only[List.take_zero,List.nil_append,Nat.zero_add,Array.toList_append]
 rw[List.drop_left' (by rw[Array.length_toList,kY])]
 rfl
theorem ak'{W:World}{s:Ks}{k:Kn}(h:KR W s k)(ex:Array Value)(he:∀x∈ex.toList,x.oneCell'=true):Val true (17+ex.size) (.agg (xC s k ex)):=⟨_,rfl,lH s k ex,by
 obtain⟨cs,hc,_,h1⟩:=h.val
 cases hc
 rw[rP,Array.toList_append]
 intro x hx
 rcases List.mem_append.1 hx with hx|hx
 ·exact h1 x hx
 ·exact he x hx⟩
theorem ru{W:World}{b:Nat}{s:Ks}{k:Kn}{ex:Array Value}{t:TypeId}(h:aD W b (xC s k ex) t):Cells W b 0 (Value.agg (kC s k)).cells.toList:=fun j v hv=>by
 have hj:j<17:=by
  have:=(List.getElem?_eq_some_iff.1 hv).1
  rw[show(Value.agg (kC s k)).cells=kC s k from rfl,Array.length_toList,kY] at this
  exact this
 rw[h.rules.1,Nat.zero_add,Dq s k ex hj]
 rw[show(Value.agg (kC s k)).cells=kC s k from rfl,Array.getElem?_toList] at hv
 exact hv
theorem Dr(s:Ks)(k:Kn)(ex:Array Value):(xC s k ex)[7]?=some (.int .u64 k.now):=by rw[Dq s k ex aC,iG]
theorem zV(s:Ks)(k:Kn)(ex:Array Value):(xC s k ex)[15]?=some (.int .i64 k.want):=by rw[Dq s k ex aC,fH]
theorem Cg(s:Ks)(k:Kn)(ex:Array Value):(xC s k ex)[16]?=some (.int .i64 k.gone):=by rw[Dq s k ex aC,fC]
theorem uV(s:Ks)(k:Kn)(ex:Array Value):(xC s k ex)[17]?=ex[0]?:=F3 s k ex 0
theorem uU(s:Ks)(k:Kn)(ex:Array Value):(xC s k ex)[18]?=ex[1]?:=F3 s k ex 1
theorem Ce(s:Ks)(k:Kn)(ex:Array Value):(xC s k ex)[19]?=ex[2]?:=F3 s k ex 2
theorem Cc(s:Ks)(k:Kn)(ex:Array Value):(xC s k ex)[20]?=ex[3]?:=F3 s k ex 3
theorem Cb(s:Ks)(k:Kn)(ex:Array Value):(xC s k ex)[21]?=ex[4]?:=F3 s k ex 4
theorem Ca(s:Ks)(k:Kn)(ex:Array Value):(xC s k ex)[22]?=ex[5]?:=F3 s k ex 5
theorem B_(s:Ks)(k:Kn)(ex:Array Value)(v:Value):(xC s k ex).setIfInBounds 17 v=xC s k (ex.setIfInBounds 0 v):=ES s k ex 0 v
theorem VB(s:Ks)(k:Kn)(ex:Array Value)(v:Value):(xC s k ex).setIfInBounds 18 v=xC s k (ex.setIfInBounds 1 v):=ES s k ex 1 v
attribute [local go_sem] Dr zV Cg uV uU Ce Cc Cb Ca
abbrev sx(st bo:Int):Array Value:=#[.int .i64 st,.int .i64 bo]
abbrev iC(s:Ks)(k:Kn)(st bo:Int):Value:= .agg (xC s k (sx st bo))
theorem dH:Ty Tryz.prog 59 19 true:=⟨ay,ay,aC,ay⟩
theorem iT{W:World}{s:Ks}{k:Kn}(h:KR W s k)(st bo:Int):Val true 19 (iC s k st bo):=ak' h (sx st bo) (by intro x hx;simp at hx;rcases hx with rfl|rfl<;>rfl)
def yI:List Nat:=nH++[1,1]
def JG(w:World)(s:Ks)(k:Kn)(k':Kn)(st bo:Int)(e:Ending)(w':World):Prop:=
 ∃s',e=.returned (iC s' k' st bo)∧KR w' s' k'∧(∀B,B<w.heap.size→jF B s k→jF B s' k')∧Below w.heap.size w w'
theorem Fp(s:Ks)(k:Kn)(st bo:Int)(w:World):Calls Tryz.prog 38 #[iC s k st bo] w fun e w'=>e=.returned (.bool (st==1))∧Below w.heap.size w w':=by
 go_enter Tryz.func38,Tryz.ntmps38
 exact pK
theorem gM{z c:Array Value}(n:Nat)(hz:z.size=n)(x:Unit):(z.toList.take 0++(Value.agg c).cells.toList++z.toList.drop (0+n)).toArray=c:=by
 rw[List.drop_eq_nil_of_le Jh]
 simp[Value.cells]
def kP:Array Value:=#[.slice none 0 0,.slice none 0 0,.int .i64 0,.slice none 0 0,.slice none 0 0,.int .i64 0,.slice none 0 0,.int .u64 0,.slice none 0 0,.slice none 0 0,.slice none 0 0,.slice none 0 0,.string {data:=#[]},.slice none 0 0,.slice none 0 0,.int .i64 0,.int .i64 0,.int .i64 0,.int .i64 0]
theorem nZ:kP.size=19:=rfl
theorem Tq(s:Ks)(k:Kn)(st bo:Int)(w:World)(hr:KR w s k):Calls Tryz.prog 36 #[iC s k st bo] w (JG w s k k (if st=2 then 1 else st) bo):=by
 have HR:=ah hr
 obtain⟨st2,hst⟩:∃st2,st2=if st=2 then 1 else st:=⟨_,rfl⟩
 rw[←hst]
 have hv:=iT hr st2 bo
 have MU:kP.size=19:=rfl
 clear hr
 by_cases h2:st=2
 ·rw[if_pos h2] at hst
  subst h2
  go_enter Tryz.func36,Tryz.ntmps36
  go_upto_if 5 with fail
  (generalize bR:World.alloc _ _=w0;have KB:aD w0 (w.heap.size) (xC s k (sx 2 bo)) 59:=bH;have KZ:aD w0 (w.heap.size+1) (kP) 59:=bH;have hb0:Below w.heap.size w w0:=bN;have hz0:w0.heap.size=w.heap.size+1+1:=bX;clear bR;have KB:=ah KB;have KZ:=ah KZ)
  obtain⟨hcb,bC,bn,bA,bE⟩:=aD.rules KB.out
  have aoq:=hcb 17
  go_wp2_with(first|((with_reducible refine cK 59 ?_);generalize bR:World.setCell _ _ _=w3;have vK:aD w3 w.heap.size (xC s k (sx st2 bo)) 59:=(by rw[←bR,hst];exact(KB.out.set 17 _).cast (B_ s k _ _));have Ob:=ah (show aD w3 (w.heap.size+1) kP 59 from by rw[←bR];exact KZ.out.other _ _ aI);have hb3:Below w.heap.size w w3:=bN;have QE:=ah vK;have Zg:=lH s k (sx st2 bo);clear bR vK hcb bC aoq;(refine aK rfl 59 _ rfl (xC s k (sx st2 bo)) dH hv QE.out ?_ ?_;(exact aM)))|((with_reducible refine bS 59 ?_);(refine aR rfl 59 _ _ rfl Ob.out (iC s k st2 bo) dH (hv) ?_ (_) (gM 19 nZ ()) ?_ ?_ ?_;(exact gG);(exact aM);(exact aM);(intro N7 nN oP zB f_;have pI:=ah nN)))|fail)
  have sK:=(HR.out.below hb3).bP (R:=w.heap.size+1) (ks:=yI) (HR.out.away aj) Ob.out rfl aC aC aC aC oP
  exact jH Tryz.results36 dH hv aF pI.out rfl ⟨s,rfl,sK,fun _ _ h=>h,hb3.trans (f_.mono aj)⟩
 ·have e2:(st==2)=false:=by simp[h2]
  rw[if_neg h2] at hst
  subst hst
  go_enter Tryz.func36,Tryz.ntmps36
  go_upto_if 5 with fail
  (generalize bR:World.alloc _ _=w0;have KB:aD w0 (w.heap.size) (xC s k (sx st2 bo)) 59:=bH;have KZ:aD w0 (w.heap.size+1) (kP) 59:=bH;have hb0:Below w.heap.size w w0:=bN;have hz0:w0.heap.size=w.heap.size+1+1:=bX;clear bR;have KB:=ah KB;have KZ:=ah KZ)
  obtain⟨hcb,bC,bn,bA,bE⟩:=aD.rules KB.out
  have Zg:=lH s k (sx st2 bo)
  go_wp2_with(first|((with_reducible refine cK 59 ?_);(refine aK rfl 59 _ rfl (xC s k (sx st2 bo)) dH (hv) KB.out ?_ ?_;(exact aM)))|((with_reducible refine bS 59 ?_);(refine aR rfl 59 _ _ rfl KZ.out (iC s k st2 bo) dH (hv) ?_ (_) (gM 19 nZ ()) ?_ ?_ ?_;(exact gG);(exact aM);(exact aM);(intro N7 nN oP zB f_;have pI:=ah nN)))|fail)
  have sK:=(HR.out.below hb0).bP (R:=w.heap.size+1) (ks:=yI) (HR.out.away aj) KZ.out rfl aC aC aC aC oP
  exact jH Tryz.results36 dH hv aF pI.out rfl ⟨s,rfl,sK,fun _ _ h=>h,hb0.trans (f_.mono aj)⟩
theorem vC{W:World}{s:Ks}{k:Kn}(h:KR W s k)(ex:Array Value):(xC s k ex).toList.map kind=nH++ex.toList.map kind:=by
 rw[rP,Array.toList_append,List.map_append,h.kinds]
theorem KR.an2{W W':World}{R:Nat}{s s0:Ks}{k k0:Kn}{st bo:Int}{t:TypeId}{w0:World}(h:KR W s k)(ha:jF R s k)(h0:KR w0 s0 k0)(hb:aD W R (xC s0 k0 (sx st bo)) t)(hg:W.grownBy W' (some R)):KR W' s k:=
 h.bP (ks:=yI) ha hb (vC h0 _) (by rw[lH];show 17+2<26;decide) aC aC aC hg
theorem TY(s:Ks)(k:Kn)(st bo n:Int)(body:ByteArray)(w:World)(hr:KR w s k)(hk:Fit k)(FN:body.size≤9223372036854775807):
  Calls Tryz.prog 82 #[iC s k st bo,.int .i64 n,.string body] w (JG w s k (kZ k n body k.now) st bo):=by
 have HR:=ah hr
 have HA:=ah (fun W h=>Xp s k n body k.now W h hk FN)
 generalize kZ k n body k.now=k3 at*
 have MU:kP.size=19:=rfl
 have MQ:=hr.val
 clear hr
 go_enter Tryz.func82,Tryz.ntmps82
 have jo:=aD.new w (xC s k (sx st bo)) 59
 have hcc:=ru (jo.alloc (.cells kP 59))
 go_wp2_with(first|((with_reducible refine cK 57 ?_);(refine aN rfl 57 _ rfl w.heap.size (0) ?_ (.agg (kC s k)) eU (MQ) hcc ?_;(exact aM)))|fail)
 (generalize bR:World.alloc _ _=w0;have KB:aD w0 (w.heap.size) (xC s k (sx st bo)) 59:=bH;have KZ:aD w0 (w.heap.size+1) (kP) 59:=bH;have hb0:Below w.heap.size w w0:=bN;have hz0:w0.heap.size=w.heap.size+1+1:=bX;clear bR;have KB:=ah KB;have KZ:=ah KZ)
 clear jo hcc
 with_reducible refine(HA.out w0 (HR.out.below hb0)).mono ?_
 rintro en w3 ⟨s3,rfl,uI,vQ,hb3⟩
 have KR3:=ah uI
 have OB:=uI.val
 have hz3:=hb3.size
 have vO:w.heap.size+1+1≤w0.heap.size:=aj
 clear hz0
 have vK:=ah (KB.out.below hb3 KB.out.lt)
 have Ob:=ah (KZ.out.below hb3 KZ.out.lt)
 have hv3:=iT uI st bo
 have UK:=ah vQ
 have ar9:=lH s k (sx st bo)
 have Zg:=lH s3 k3 (sx st bo)
 have hsx:(sx st bo).size=2:=rfl
 clear uI vQ
 go_wp2_with(first|((with_reducible refine bS 57 ?_);(refine aR rfl 57 _ _ rfl vK.out (.agg (kC s3 k3)) eU (OB) ?_ (_) (Jv s s3 k k3 (sx st bo)) ?_ ?_ ?_;(exact gG);(exact aM);(exact aM);(intro w4 Uj hg4 xU hb4;have Zb:=ah Uj;have M0:=ah (Ob.out.grown hg4 aI))))|((with_reducible refine cK 59 ?_);(refine aK rfl 59 _ rfl (xC s3 k3 (sx st bo)) dH (hv3) Zb.out ?_ ?_;(exact aM)))|((with_reducible refine bS 59 ?_);(refine aR rfl 59 _ _ rfl M0.out (iC s3 k3 st bo) dH (hv3) ?_ (_) (gM 19 nZ ()) ?_ ?_ ?_;(exact gG);(exact aM);(exact aM);(intro N7 nN oP zB f_;have pI:=ah nN)))|fail)
 have hk4:=KR3.out.an2 (UK.out w.heap.size aj (HR.out.away (Nat.le_refl _))) HR.out vK.out hg4
 have sK:=hk4.bP (R:=w.heap.size+1) (ks:=yI) (UK.out (w.heap.size+1) aj (HR.out.away aj)) M0.out rfl aC aC aC aC oP
 exact jH Tryz.results82 dH hv3 aF pI.out rfl ⟨s3,rfl,sK,fun B hB h=>UK.out B aj h,hb0.trans ((hb3.mono aj).trans (hb4.trans (f_.mono aj)))⟩
end Go.Proofs.YtgmodehldmahiaaGreatDoor
end
section
namespace Go.Proofs.YtgmodehldmahiaaGreatDoor
open Go Go.RowKit Go.Tm
attribute [local go_sem] Dr zV Cg uV uU Ce Cc Cb Ca
abbrev Il:=Int×Int×Int×Int
abbrev I7(x:Il):Value:= .agg #[.int .i64 x.1,.int .i64 x.2.1,.int .i64 x.2.2.1,.int .i64 x.2.2.2]
abbrev wx(st bo:Int)(x:Il):Array Value:=#[.int .i64 st,.int .i64 bo,.int .i64 x.1,.int .i64 x.2.1,.int .i64 x.2.2.1,.int .i64 x.2.2.2]
structure SW(w:World)(b:Nat)(s:Ks)(k:Kn)(st bo:Int)(x:Il):Prop where
 box:aD w b (xC s k (wx st bo x)) 113
 kr:KR w s k
 aw:jF b s k
noncomputable def u_(mem:Int)(k:Kn):Kn:={kN mem k.im k.ou k.ins k.now with bx:=k.bx,co:=k.co,tr:=k.tr,se:=k.se,want:=k.want}
def Mg(x:Il)(g:Int):Int:=if g=1 then x.2.1 else if g=2 then x.2.2.1 else if g=3 then x.2.2.2 else 0
noncomputable def eY(x:Il)(k:Kn)(st bo:Int):Kn×Int×Int:=
 if k.gone=0∨st=3 then(k,st,bo)
 else if Mg x k.gone=2 then(k,3,bo)
 else if Mg x k.gone=3 then(u_ x.1 k,st,wrap64 (bo+1))
 else(k,st,bo)
def nJ(w:World)(b:Nat)(s:Ks)(k:Kn)(x:Il)(r:Kn×Int×Int)(e:Ending)(w':World):Prop:=
 e=.returned (.tuple #[])∧∃s',SW w' b s' r.1 r.2.1 r.2.2 x∧(∀B,B<w.heap.size→B≠b→jF B s k→jF B s' r.1)∧w.grownBy w' (some b)
theorem WO(w:World)(b:Nat)(s:Ks)(k:Kn)(st bo:Int)(x:Il)(hw:SW w b s k st bo x)(hg:k.gone=0∨st=3):
  Calls Tryz.prog 52 #[.pointer (some ⟨b,0,none⟩)] w (nJ w b s k x (k,st,bo)):=by
 have HW:=ah hw
 obtain⟨hcb,bC,bn,bA,bE⟩:=hw.box.rules
 have hd:(k.gone==0)=true∨((k.gone==0)=false∧(st==3)=true):=by
  simp only[beq_iff_eq,beq_eq_false_iff_ne];omega
 clear hw hg
 rcases hd with e1|⟨e1,e2⟩
 all_goals
  go_enter Tryz.func52,Tryz.ntmps52
  go_wp2_with fail
  exact bodyPost_ret (v:= .tuple #[]) qX rfl ⟨rfl,s,HW.out,fun _ _ _ h=>h,r9 _ _⟩
def wu:List Nat:=nH++[1,1,1,1,1,1]
theorem SW.grown{w w':World}{b:Nat}{s:Ks}{k:Kn}{st bo st' bo':Int}{x:Il}(h:SW w b s k st bo x)(hb:aD w' b (xC s k (wx st' bo' x)) 113)(hg:w.grownBy w' (some b)):SW w' b s k st' bo' x:=
 ⟨hb,h.kr.bP (ks:=wu) h.aw h.box (vC h.kr _) zU aC aC aC hg,h.aw⟩
theorem SW.below{w w':World}{b:Nat}{s:Ks}{k:Kn}{st bo:Int}{x:Il}(h:SW w b s k st bo x)(hb:Below w.heap.size w w'):SW w' b s k st bo x:=
 ⟨h.box.below hb h.box.lt,h.kr.below hb,h.aw⟩
theorem aaM(w:World)(b:Nat)(s:Ks)(k:Kn)(st bo:Int)(m a1 a2:Int)(hw:SW w b s k st bo (m,2,a1,a2))(hg:k.gone=1)(hs:st≠3):
  Calls Tryz.prog 52 #[.pointer (some ⟨b,0,none⟩)] w (nJ w b s k (m,2,a1,a2) (k,3,bo)):=by
 have HW:=ah hw
 obtain⟨hcb,bC,bn,bA,bE⟩:=hw.box.rules
 have e2:(st==3)=false:=oU
 clear hw hs
 go_enter Tryz.func52,Tryz.ntmps52
 go_wp2_with fail
 go_region
 go_upto_block 0 with fail
 (have su:Below w.heap.size w w.drew:=(Below.refl _ _).drew;generalize w.drew=w1 at su⊢)
 (refine bU ?_;refine cO aC ?_;refine uE aC ?_;refine cO aC ?_;apply cZ;(focus(go_wp2_with fail;exact⟨rfl,rfl,rfl⟩)))
 have h1:=HW.out.below su
 obtain⟨agb,aga,UR,af3,af4⟩:=h1.box.rules
 go_wp2_with fail
 refine eu ?_
 go_wp2_with fail
 exact bodyPost_end (v:= .tuple #[]) qX rfl ⟨rfl,s,h1.grown ((h1.box.set 17 _).cast (B_ s k _ _)) (aO _ _ _ _),fun _ _ _ h=>h,aB (aA su _) (aO _ _ _ _)⟩
theorem aaN(w:World)(b:Nat)(s:Ks)(k:Kn)(st bo:Int)(m a1 a2:Int)(hw:SW w b s k st bo (m,1,a1,a2))(hg:k.gone=1)(hs:st≠3):
  Calls Tryz.prog 52 #[.pointer (some ⟨b,0,none⟩)] w (nJ w b s k (m,1,a1,a2) (k,st,bo)):=by
 have HW:=ah hw
 obtain⟨hcb,bC,bn,bA,bE⟩:=hw.box.rules
 have e2:(st==3)=false:=oU
 clear hw hs
 go_enter Tryz.func52,Tryz.ntmps52
 go_wp2_with fail
 go_region
 go_upto_block 0 with fail
 (have su:Below w.heap.size w w.drew:=(Below.refl _ _).drew;generalize w.drew=w1 at su⊢)
 (refine bU ?_;apply rX;(focus(exact acS)))
 go_wp2_with fail
 refine eu ?_
 go_wp2_with fail
 exact bodyPost_end (v:= .tuple #[]) qX rfl ⟨rfl,s,HW.out.below su,fun _ _ _ h=>h,aA su _⟩
theorem aaK(w:World)(b:Nat)(s:Ks)(k:Kn)(st bo:Int)(m a0 a1 a2:Int)(hw:SW w b s k st bo (m,a0,a1,a2))(hg:k.gone=1)(hs:st≠3)(h2:a0≠2)(h3:a0≠3)(h4:a0≠1):
  Calls Tryz.prog 52 #[.pointer (some ⟨b,0,none⟩)] w (nJ w b s k (m,a0,a1,a2) (k,st,bo)):=by
 have HW:=ah hw
 obtain⟨hcb,bC,bn,bA,bE⟩:=hw.box.rules
 have e2:(st==3)=false:=oU
 have d2:(a0==2)=false:=uR
 have d3:(a0==3)=false:=rV
 have d4:(a0==1)=false:=EK
 clear h2 h3 h4
 clear hw hs
 go_enter Tryz.func52,Tryz.ntmps52
 go_wp2_with fail
 go_region
 go_upto_block 0 with fail
 (have su:Below w.heap.size w w.drew:=(Below.refl _ _).drew;generalize w.drew=w1 at su⊢)
 (refine bU ?_;apply cZ;(focus(exact acT)))
 go_wp2_with fail
 refine eu ?_
 go_wp2_with fail
 exact bodyPost_end (v:= .tuple #[]) qX rfl ⟨rfl,s,HW.out.below su,fun _ _ _ h=>h,aA su _⟩
theorem aaI(w:World)(b:Nat)(s:Ks)(k:Kn)(st bo:Int)(m a0 a2:Int)(hw:SW w b s k st bo (m,a0,2,a2))(hg:k.gone=2)(hs:st≠3):
  Calls Tryz.prog 52 #[.pointer (some ⟨b,0,none⟩)] w (nJ w b s k (m,a0,2,a2) (k,3,bo)):=by
 have HW:=ah hw
 obtain⟨hcb,bC,bn,bA,bE⟩:=hw.box.rules
 have e2:(st==3)=false:=oU
 clear hw hs
 go_enter Tryz.func52,Tryz.ntmps52
 go_wp2_with fail
 go_region
 go_upto_block 0 with fail
 (have su:Below w.heap.size w w.drew:=(Below.refl _ _).drew;generalize w.drew=w1 at su⊢)
 (refine bU ?_;refine cO aC ?_;refine uE aC ?_;refine cO aC ?_;apply cZ;(focus(go_wp2_with fail;exact⟨rfl,rfl,rfl⟩)))
 have h1:=HW.out.below su
 obtain⟨agb,aga,UR,af3,af4⟩:=h1.box.rules
 go_wp2_with fail
 refine eu ?_
 go_wp2_with fail
 exact bodyPost_end (v:= .tuple #[]) qX rfl ⟨rfl,s,h1.grown ((h1.box.set 17 _).cast (B_ s k _ _)) (aO _ _ _ _),fun _ _ _ h=>h,aB (aA su _) (aO _ _ _ _)⟩
theorem aaJ(w:World)(b:Nat)(s:Ks)(k:Kn)(st bo:Int)(m a0 a2:Int)(hw:SW w b s k st bo (m,a0,1,a2))(hg:k.gone=2)(hs:st≠3):
  Calls Tryz.prog 52 #[.pointer (some ⟨b,0,none⟩)] w (nJ w b s k (m,a0,1,a2) (k,st,bo)):=by
 have HW:=ah hw
 obtain⟨hcb,bC,bn,bA,bE⟩:=hw.box.rules
 have e2:(st==3)=false:=oU
 clear hw hs
 go_enter Tryz.func52,Tryz.ntmps52
 go_wp2_with fail
 go_region
 go_upto_block 0 with fail
 (have su:Below w.heap.size w w.drew:=(Below.refl _ _).drew;generalize w.drew=w1 at su⊢)
 (refine bU ?_;apply rX;(focus(exact acS)))
 go_wp2_with fail
 refine eu ?_
 go_wp2_with fail
 exact bodyPost_end (v:= .tuple #[]) qX rfl ⟨rfl,s,HW.out.below su,fun _ _ _ h=>h,aA su _⟩
theorem aaG(w:World)(b:Nat)(s:Ks)(k:Kn)(st bo:Int)(m a0 a1 a2:Int)(hw:SW w b s k st bo (m,a0,a1,a2))(hg:k.gone=2)(hs:st≠3)(h2:a1≠2)(h3:a1≠3)(h4:a1≠1):
  Calls Tryz.prog 52 #[.pointer (some ⟨b,0,none⟩)] w (nJ w b s k (m,a0,a1,a2) (k,st,bo)):=by
 have HW:=ah hw
 obtain⟨hcb,bC,bn,bA,bE⟩:=hw.box.rules
 have e2:(st==3)=false:=oU
 have d2:(a1==2)=false:=uR
 have d3:(a1==3)=false:=rV
 have d4:(a1==1)=false:=EK
 clear h2 h3 h4
 clear hw hs
 go_enter Tryz.func52,Tryz.ntmps52
 go_wp2_with fail
 go_region
 go_upto_block 0 with fail
 (have su:Below w.heap.size w w.drew:=(Below.refl _ _).drew;generalize w.drew=w1 at su⊢)
 (refine bU ?_;apply cZ;(focus(exact acT)))
 go_wp2_with fail
 refine eu ?_
 go_wp2_with fail
 exact bodyPost_end (v:= .tuple #[]) qX rfl ⟨rfl,s,HW.out.below su,fun _ _ _ h=>h,aA su _⟩
theorem aaE(w:World)(b:Nat)(s:Ks)(k:Kn)(st bo:Int)(m a0 a1:Int)(hw:SW w b s k st bo (m,a0,a1,2))(hg:k.gone=3)(hs:st≠3):
  Calls Tryz.prog 52 #[.pointer (some ⟨b,0,none⟩)] w (nJ w b s k (m,a0,a1,2) (k,3,bo)):=by
 have HW:=ah hw
 obtain⟨hcb,bC,bn,bA,bE⟩:=hw.box.rules
 have e2:(st==3)=false:=oU
 clear hw hs
 go_enter Tryz.func52,Tryz.ntmps52
 go_wp2_with fail
 go_region
 go_upto_block 0 with fail
 (have su:Below w.heap.size w w.drew:=(Below.refl _ _).drew;generalize w.drew=w1 at su⊢)
 (refine bU ?_;refine cO aC ?_;refine uE aC ?_;refine cO aC ?_;apply cZ;(focus(go_wp2_with fail;exact⟨rfl,rfl,rfl⟩)))
 have h1:=HW.out.below su
 obtain⟨agb,aga,UR,af3,af4⟩:=h1.box.rules
 go_wp2_with fail
 refine eu ?_
 go_wp2_with fail
 exact bodyPost_end (v:= .tuple #[]) qX rfl ⟨rfl,s,h1.grown ((h1.box.set 17 _).cast (B_ s k _ _)) (aO _ _ _ _),fun _ _ _ h=>h,aB (aA su _) (aO _ _ _ _)⟩
theorem aaF(w:World)(b:Nat)(s:Ks)(k:Kn)(st bo:Int)(m a0 a1:Int)(hw:SW w b s k st bo (m,a0,a1,1))(hg:k.gone=3)(hs:st≠3):
  Calls Tryz.prog 52 #[.pointer (some ⟨b,0,none⟩)] w (nJ w b s k (m,a0,a1,1) (k,st,bo)):=by
 have HW:=ah hw
 obtain⟨hcb,bC,bn,bA,bE⟩:=hw.box.rules
 have e2:(st==3)=false:=oU
 clear hw hs
 go_enter Tryz.func52,Tryz.ntmps52
 go_wp2_with fail
 go_region
 go_upto_block 0 with fail
 (have su:Below w.heap.size w w.drew:=(Below.refl _ _).drew;generalize w.drew=w1 at su⊢)
 (refine bU ?_;apply rX;(focus(exact acS)))
 go_wp2_with fail
 refine eu ?_
 go_wp2_with fail
 exact bodyPost_end (v:= .tuple #[]) qX rfl ⟨rfl,s,HW.out.below su,fun _ _ _ h=>h,aA su _⟩
theorem aaC(w:World)(b:Nat)(s:Ks)(k:Kn)(st bo:Int)(m a0 a1 a2:Int)(hw:SW w b s k st bo (m,a0,a1,a2))(hg:k.gone=3)(hs:st≠3)(h2:a2≠2)(h3:a2≠3)(h4:a2≠1):
  Calls Tryz.prog 52 #[.pointer (some ⟨b,0,none⟩)] w (nJ w b s k (m,a0,a1,a2) (k,st,bo)):=by
 have HW:=ah hw
 obtain⟨hcb,bC,bn,bA,bE⟩:=hw.box.rules
 have e2:(st==3)=false:=oU
 have d2:(a2==2)=false:=uR
 have d3:(a2==3)=false:=rV
 have d4:(a2==1)=false:=EK
 clear h2 h3 h4
 clear hw hs
 go_enter Tryz.func52,Tryz.ntmps52
 go_wp2_with fail
 go_region
 go_upto_block 0 with fail
 (have su:Below w.heap.size w w.drew:=(Below.refl _ _).drew;generalize w.drew=w1 at su⊢)
 (refine bU ?_;apply cZ;(focus(exact acT)))
 go_wp2_with fail
 refine eu ?_
 go_wp2_with fail
 exact bodyPost_end (v:= .tuple #[]) qX rfl ⟨rfl,s,HW.out.below su,fun _ _ _ h=>h,aA su _⟩
theorem ag3(w:World)(b:Nat)(s:Ks)(k:Kn)(st bo:Int)(m a0 a1 a2:Int)(hw:SW w b s k st bo (m,a0,a1,a2))(hg:k.gone≠0)(hg1:¬(1≤k.gone∧k.gone≤3))(hs:st≠3):
  Calls Tryz.prog 52 #[.pointer (some ⟨b,0,none⟩)] w (nJ w b s k (m,a0,a1,a2) (k,st,bo)):=by
 have HW:=ah hw
 obtain⟨hcb,bC,bn,bA,bE⟩:=hw.box.rules
 have e2:(st==3)=false:=oU
 have d1:decide (1≤k.gone)=true∨decide (1≤k.gone)=false:=by cases decide (1≤k.gone)<;>simp
 have d1f:decide (1≤k.gone)=true→decide (k.gone≤3)=false:=fun h=>decide_eq_false (fun h'=>hg1 ⟨of_decide_eq_true h,h'⟩)
 have e1:(k.gone==0)=false:=by simp[hg]
 clear hw hs
 clear hg hg1
 have su:=Below.refl w.heap.size w
 rcases d1 with d1|d1
 ·have d1g:=d1f d1
  exact aiX
 ·exact aiX
end Go.Proofs.YtgmodehldmahiaaGreatDoor
end
