/- Part 3 of 6 (beside the texts B) of the proof of topWindows_holds. Conditions: see each. -/
import Derived.Test.YtgmodehldmahiaaGreatDoorB12
import Derived.Test.YtgmodehldmahiaaGreatDoorF02
set_option linter.unusedVariables false
set_option linter.unusedSimpArgs false
set_option maxRecDepth 8192
set_option maxHeartbeats 40000000
namespace Go.Proofs.YtgmodehldmahiaaGreatDoor.bF
open Go Go.RowKit Go.Tm
attribute [local go_sem] Oper.semAt_some
end Go.Proofs.YtgmodehldmahiaaGreatDoor.bF
namespace Go.Proofs.YtgmodehldmahiaaGreatDoor.bF
open Go Go.RowKit Go.Tm
attribute [local go_sem] Oper.semAt_some
end Go.Proofs.YtgmodehldmahiaaGreatDoor.bF
namespace Go.Proofs.YtgmodehldmahiaaGreatDoor.bF
open Go Go.RowKit Go.Tm
end Go.Proofs.YtgmodehldmahiaaGreatDoor.bF
namespace Go.Proofs.YtgmodehldmahiaaGreatDoor.bF
open Go Go.RowKit Go.Tm
attribute [local go_sem] Oper.semAt_some
end Go.Proofs.YtgmodehldmahiaaGreatDoor.bF
namespace Go.Proofs.YtgmodehldmahiaaGreatDoor.bF
open Go Go.RowKit Go.Tm
attribute [local go_sem] Oper.semAt_some
end Go.Proofs.YtgmodehldmahiaaGreatDoor.bF
namespace Go.Proofs.YtgmodehldmahiaaGreatDoor.bF
open Go Go.RowKit Go.Tm
end Go.Proofs.YtgmodehldmahiaaGreatDoor.bF
namespace Go.Proofs.YtgmodehldmahiaaGreatDoor.bF
open Go Go.RowKit Go.Tm
end Go.Proofs.YtgmodehldmahiaaGreatDoor.bF
namespace Go.Proofs.YtgmodehldmahiaaGreatDoor.bF
open Go Go.RowKit Go.Tm
end Go.Proofs.YtgmodehldmahiaaGreatDoor.bF
namespace Go.Proofs.YtgmodehldmahiaaGreatDoor.bF
open Go Go.RowKit Go.Tm
def There(p:jE)(sched:Int):Prop:=gJ p∧0≤sched∧sched<p.wins.length
open Classical in
noncomputable def asY(p:jE)(sched:Int):Bool:=decide (There p sched)
theorem asW(p:jE)(sched:Int):asY p sched=true↔There p sched:=by simp[asY]
theorem atq(pv wv cv:Value)(p:jE)(sched:Int)(w:World)(hp:jf w pv wv cv p):
  Calls Tryz.prog 40 #[I6 pv wv cv p,.int .i64 sched] w fun e w'=>e=.returned (.bool (asY p sched))∧Below w.heap.size w w':=by
 have HP:=ah hp
 have KC:=ah (fun W (h:jf W pv wv cv p)=>aty pv wv cv p W h)
 have KT:=ah (asW p sched)
 obtain⟨a1,k1,a2,k2,a3,k3,rfl,rfl,rfl,jO,hl2,qM⟩:=hp.shape
 clear hp
 go_enter Tryz.func40,Tryz.ntmps40
 go_wp2_with fail
 have hbx0:=aD.new w (#[.slice a1 p.parts.length k1,.int .i64 p.frame,.slice a2 p.wins.length k2,.slice a3 p.chans.length k3]:Array Value) 26
 have hx0:Below w.heap.size w (w.alloc (.cells #[.slice a1 p.parts.length k1,.int .i64 p.frame,.slice a2 p.wins.length k2,.slice a3 p.chans.length k3] 26)):=(Below.refl _ _).alloc (Nat.le_refl _) _
 generalize hW0:w.alloc (.cells #[.slice a1 p.parts.length k1,.int .i64 p.frame,.slice a2 p.wins.length k2,.slice a3 p.chans.length k3] 26)=w0 at*
 clear hW0
 with_reducible refine(KC.out _ (HP.out.below hx0)).mono ?_
 rintro e w1 ⟨⟨k,rfl,hk⟩,hb⟩
 have hx1:=hx0.trans (hb.mono hx0.size)
 have ati:=hbx0.below hb hbx0.lt
 clear hb
 obtain⟨c1,f1,l1,n1,m1⟩:=ati.rules
 by_cases hpk:gJ p
 case neg=>
  have MU:(k==0)=false:=by simp;exact fun e=>hpk (hk.1 e)
  have hf:asY p sched=false:=by rw[Bool.eq_false_iff];exact fun h=>hpk (KT.out.1 h).1
  clear hk
  exact atF
 obtain rfl:k=0:=hk.2 hpk
 clear hk
 by_cases h0:0≤sched
 case neg=>
  have h0d:decide (0≤sched)=false:=by simpa using h0
  have hf:asY p sched=false:=by rw[Bool.eq_false_iff];exact fun h=>h0 (KT.out.1 h).2.1
  exact atF
 have h0d:decide (0≤sched)=true:=by simpa using h0
 by_cases h1:sched<p.wins.length
 case neg=>
  have h1d:decide (sched<(p.wins.length:Int))=false:=by simpa using h1
  have hf:asY p sched=false:=by rw[Bool.eq_false_iff];exact fun h=>h1 (KT.out.1 h).2.2
  exact atF
 have h1d:decide (sched<(p.wins.length:Int))=true:=by simpa using h1
 have hf:asY p sched=true:=KT.out.2 ⟨hpk,h0,h1⟩
 have HF:=ah hf
 clear hf
 go_wp2_with fail
 go_ret
 exact⟨by rw[HF.out];simp<;>omega,hx1⟩
theorem atx(pv wv cv:Value)(p:jE)(sched m:Int)(w:World)(hp:jf w pv wv cv p):
  Calls Tryz.prog 41 #[I6 pv wv cv p,.int .i64 sched,.int .i64 m] w fun e w'=>e=.returned (.tuple #[.int .i64 (atL (uX p sched) m).1,.int .i64 (atL (uX p sched) m).2])∧Below w.heap.size w w':=by
 have HP:=ah hp
 have KT:=ah (fun W (h:jf W pv wv cv p)=>atq pv wv cv p sched W h)
 obtain⟨a1,k1,a2,k2,a3,k3,rfl,rfl,rfl,jO,hl2,qM⟩:=hp.shape
 clear hp
 by_cases hth:There p sched
 case neg=>
  rw[show asY p sched=false by rw[Bool.eq_false_iff];exact fun h=>hth ((asW p sched).1 h)] at KT
  rw[Ac hth,show atL [] m=(-1,0) from rfl]
  go_enter Tryz.func41,Tryz.ntmps41
  go_wp2_with fail
  have hbx0:=aD.new w (#[.slice a1 p.parts.length k1,.int .i64 p.frame,.slice a2 p.wins.length k2,.slice a3 p.chans.length k3]:Array Value) 26
  have hx0:Below w.heap.size w (w.alloc (.cells #[.slice a1 p.parts.length k1,.int .i64 p.frame,.slice a2 p.wins.length k2,.slice a3 p.chans.length k3] 26)):=(Below.refl _ _).alloc (Nat.le_refl _) _
  generalize hW0:w.alloc (.cells #[.slice a1 p.parts.length k1,.int .i64 p.frame,.slice a2 p.wins.length k2,.slice a3 p.chans.length k3] 26)=w0 at*
  clear hW0
  with_reducible refine(KT.out _ (HP.out.below hx0)).mono ?_
  rintro e w1 ⟨rfl,hb⟩
  have hx1:=hx0.trans (hb.mono hx0.size)
  have ati:=hbx0.below hb hbx0.lt
  clear hb
  obtain⟨c1,f1,l1,n1,m1⟩:=ati.rules
  go_wp2_with fail
  exact bodyPost_ret (v:= .tuple #[.int .i64 (-1),.int .i64 0]) atT rfl ⟨rfl,hx1⟩
 rw[(asW p sched).2 hth] at KT
 obtain⟨hpk,h0,h1⟩:=hth
 obtain⟨s,rfl⟩:∃s:Nat,sched=s:=⟨sched.toNat,asQ⟩
 obtain⟨l,hl⟩:∃l,p.wins[s]?=some l:=⟨_,List.getElem?_eq_getElem asQ⟩
 have hzl:uX p s=l:=EZ hpk h0 h1 (by simpa using hl)
 have HOK:=ah (fun x (hx:x∈l)=>Cr x (by rw[hzl];exact hx))
 rw[hzl]
 obtain⟨b,off,a5,c5,rfl,hb0,ad7,Ug,hsl⟩:=vB.at HP.out.wins hl
 have HSL:=ah hsl
 have qP:=ah ad7
 clear hl hsl hzl ad7
 go_enter Tryz.func41,Tryz.ntmps41
 go_wp2_with fail
 have hbx0:=aD.new w (#[.slice a1 p.parts.length k1,.int .i64 p.frame,.slice (some ⟨b,off,none⟩) p.wins.length k2,.slice a3 p.chans.length k3]:Array Value) 26
 have hx0:Below w.heap.size w (w.alloc (.cells #[.slice a1 p.parts.length k1,.int .i64 p.frame,.slice (some ⟨b,off,none⟩) p.wins.length k2,.slice a3 p.chans.length k3] 26)):=(Below.refl _ _).alloc (Nat.le_refl _) _
 generalize hW0:w.alloc (.cells #[.slice a1 p.parts.length k1,.int .i64 p.frame,.slice (some ⟨b,off,none⟩) p.wins.length k2,.slice a3 p.chans.length k3] 26)=w0 at*
 clear hW0
 with_reducible refine(KT.out _ (HP.out.below hx0)).mono ?_
 rintro e w1 ⟨rfl,hb⟩
 have hx1:=hx0.trans (hb.mono hx0.size)
 have ati:=hbx0.below hb hbx0.lt
 clear hb
 obtain⟨c1,f1,l1,n1,m1⟩:=ati.rules
 have XF:=ah ati
 go_wp2_with fail
 clear c1 f1 l1 n1 m1
 go_loopw [9] (fun t W=>∃i:Nat,i≤l.length∧t=.int .i64 i∧RowKit.Hid (∀j x,j<i→l[j]?=some x→Me m x=false)∧Below w1.heap.size w1 W) (fun t _=>l.length-(intOf t).toNat)
 case atStart=>exact⟨0,Nat.zero_le _,rfl,ah (by intro j x h;omega),Below.refl _ _⟩
 case round=>
  obtain⟨i,hi,rfl,Uo,bZ⟩:=hrel
  have Bj:=bZ.size
  have hxw:Below w.heap.size w wr:=hx1.trans (bZ.mono hx1.size)
  have au3:=XF.out.below bZ XF.out.lt
  obtain⟨c1,f1,l1,n1,m1⟩:=au3.rules
  have hcell:=(hxw.cell (p:=⟨b,off+s,none⟩) hb0).trans qP.out
  have hbr:b<wr.heap.size:=Nat.lt_of_lt_of_le hb0 hxw.size
  by_cases hlt:i<l.length
  ·have hwi:IntKind.i64.wrap ((i:Int)+1)=i+1:=IntWalk.i64_in _ asQ
   obtain⟨⟨xp,xf,xl⟩,hx⟩:∃x,l[i]?=some x:=⟨_,List.getElem?_eq_getElem hlt⟩
   obtain⟨b2,nU,rfl,hb2,q0,q1,q2⟩:=Sl.wn (HSL.out.below hxw) hx
   have hok:=HOK.out _ (List.mem_of_getElem? hx)
   unfold WOk at hok
   dsimp only at hok q0 q1 q2
   have HXI:=ah hx
   have hw1:IntKind.i64.wrap (xf+xl)=xf+xl:=IntWalk.i64_in _ asQ
   have hw2:IntKind.i64.wrap (xf+2)=xf+2:=IntWalk.i64_in _ asQ
   have zy:Me m (xp,xf,xl)=true→atL l m=(xp,Oy m (xp,xf,xl)):=by
    intro h
    have h2:l.find? (Me m)=some (xp,xf,xl):=by
     rw[List.find?_eq_some_iff_getElem]
     refine⟨h,i,hlt,by rw[List.getElem?_eq_getElem hlt] at hx;simpa using hx,?_⟩
     intro j hj
     rw[Uo.out j l[j] hj (List.getElem?_eq_getElem asQ)]
     rfl
    unfold atL
    rw[h2]
   have HFD:=ah zy
   clear hx zy
   by_cases g1:xf≤m
   ·have g1d:decide (xf≤m)=true:=by simpa using g1
    by_cases g2:m<xf+xl
    ·have g2d:decide (m<xf+xl)=true:=by simpa using g2
     have hat:=HFD.out (by unfold Me;simp;omega)
     have Hw:=ah hat
     clear hat
     by_cases g3:m<xf+2
     ·have g3d:decide (m<xf+2)=true:=by simpa using g3
      have hho:Oy m (xp,xf,xl)=1:=by unfold Oy;rw[if_pos (by show m-xf<2;omega)]
      have HHO:=ah hho
      clear hho
      go_wp2_with fail
      exact bodyPost_ret (v:= .tuple #[.int .i64 xp,.int .i64 1]) atT rfl ⟨by rw[Hw.out,HHO.out],hxw.alloc hxw.size _⟩
     ·have g3d:decide (m<xf+2)=false:=by simpa using g3
      have hho:Oy m (xp,xf,xl)=2:=by unfold Oy;rw[if_neg (by show¬m-xf<2;omega)]
      have HHO:=ah hho
      clear hho
      go_wp2_with fail
      exact bodyPost_ret (v:= .tuple #[.int .i64 xp,.int .i64 2]) atT rfl ⟨by rw[Hw.out,HHO.out],hxw.alloc hxw.size _⟩
    ·have g2d:decide (m<xf+xl)=false:=by simpa using g2
     exact auA
   ·have g1d:decide (xf≤m)=false:=by simpa using g1
    exact auA
  ·obtain rfl:i=l.length:=by omega
   have Hw:=ah (show atL l m=(-1,0) by
    unfold atL
    rw[show l.find? (Me m)=none from by
     rw[List.find?_eq_none]
     intro x hx
     obtain⟨j,hj,he⟩:=List.mem_iff_getElem.1 hx
     rw[Uo.out j x hj atB]
     simp])
   go_wp2_with fail
   exact bodyPost_ret (v:= .tuple #[.int .i64 (-1),.int .i64 0]) atT rfl ⟨by rw[Hw.out],hxw⟩
end Go.Proofs.YtgmodehldmahiaaGreatDoor.bF
namespace Go.Proofs.YtgmodehldmahiaaGreatDoor.bF
open Go Go.RowKit Go.Tm
theorem atD{p:jE}{sched:Int}(h:There p sched):frm p.frame=p.frame∧1≤p.frame∧p.frame≤4096:=
 ⟨by have:=h.1.ad9;unfold frm;rw[if_neg asQ],h.1.ad9,h.1.Fv⟩
theorem at7(pv wv cv:Value)(p:jE)(sched t:Int)(w:World)(hp:jf w pv wv cv p)(ht:0≤t)(Qt:t≤18446744073709551615):
  Calls Tryz.prog 16 #[I6 pv wv cv p,.int .i64 sched,.int .u64 t] w fun e w'=>e=.returned (.tuple #[.int .i64 (Bn p sched t).1,.int .i64 (Bn p sched t).2])∧Below w.heap.size w w':=by
 have HP:=ah hp
 have KT:=ah (fun W (h:jf W pv wv cv p)=>atq pv wv cv p sched W h)
 have KY:=ah (fun W (h:jf W pv wv cv p)=>atx pv wv cv p sched (cyc p.frame t) W h)
 unfold Bn
 obtain⟨a1,k1,a2,k2,a3,k3,rfl,rfl,rfl,jO,hl2,qM⟩:=hp.shape
 clear hp
 by_cases hth:There p sched
 case neg=>
  rw[show asY p sched=false by rw[Bool.eq_false_iff];exact fun h=>hth ((asW p sched).1 h)] at KT
  rw[Ac hth,show atL [] (cyc p.frame t)=(-1,0) from rfl]
  go_enter Tryz.func16,Tryz.ntmps16
  go_wp2_with fail
  have hbx0:=aD.new w (#[.slice a1 p.parts.length k1,.int .i64 p.frame,.slice a2 p.wins.length k2,.slice a3 p.chans.length k3]:Array Value) 26
  have hx0:Below w.heap.size w (w.alloc (.cells #[.slice a1 p.parts.length k1,.int .i64 p.frame,.slice a2 p.wins.length k2,.slice a3 p.chans.length k3] 26)):=(Below.refl _ _).alloc (Nat.le_refl _) _
  generalize hW0:w.alloc (.cells #[.slice a1 p.parts.length k1,.int .i64 p.frame,.slice a2 p.wins.length k2,.slice a3 p.chans.length k3] 26)=w0 at*
  clear hW0
  with_reducible refine(KT.out _ (HP.out.below hx0)).mono ?_
  rintro e w1 ⟨rfl,hb⟩
  have hx1:=hx0.trans (hb.mono hx0.size)
  have ati:=hbx0.below hb hbx0.lt
  clear hb
  obtain⟨c1,f1,l1,n1,m1⟩:=ati.rules
  go_wp2_with fail
  exact bodyPost_ret (v:= .tuple #[.int .i64 (-1),.int .i64 0]) (by simp[results,Tryz.results16,go_sem]) rfl ⟨rfl,hx1⟩
 rw[(asW p sched).2 hth] at KT
 obtain⟨hfm,mF,hf2⟩:=atD hth
 have BK:cyc p.frame t=t%p.frame:=by unfold cyc;rw[hfm]
 rw[BK] at KY⊢
 have hm0:0≤t%p.frame:=Int.emod_nonneg t asQ
 have oz:t%p.frame<p.frame:=Int.emod_lt_of_pos t asQ
 have hw1:IntKind.u64.wrap p.frame=p.frame:=E8 asQ asQ
 have hz:(p.frame==0)=false:=asX
 have hw3:IntKind.i64.wrap (t%p.frame)=t%p.frame:=IntWalk.i64_in _ asQ
 have hwm:IntKind.u64.wrap (t%p.frame)=t%p.frame:=E8 asQ asQ
 have hm:t.tmod p.frame=t%p.frame:=Int.tmod_eq_emod_of_nonneg ht
 generalize atL (uX p sched) (t%p.frame)=ax at*
 obtain⟨a,x⟩:=ax
 dsimp only at KY⊢
 clear hfm BK hth
 go_enter Tryz.func16,Tryz.ntmps16
 go_wp2_with fail
 have hbx0:=aD.new w (#[.slice a1 p.parts.length k1,.int .i64 p.frame,.slice a2 p.wins.length k2,.slice a3 p.chans.length k3]:Array Value) 26
 have hx0:Below w.heap.size w (w.alloc (.cells #[.slice a1 p.parts.length k1,.int .i64 p.frame,.slice a2 p.wins.length k2,.slice a3 p.chans.length k3] 26)):=(Below.refl _ _).alloc (Nat.le_refl _) _
 generalize hW0:w.alloc (.cells #[.slice a1 p.parts.length k1,.int .i64 p.frame,.slice a2 p.wins.length k2,.slice a3 p.chans.length k3] 26)=w0 at*
 clear hW0
 with_reducible refine(KT.out _ (HP.out.below hx0)).mono ?_
 rintro e w1 ⟨rfl,hb⟩
 have hx1:=hx0.trans (hb.mono hx0.size)
 have ati:=hbx0.below hb hbx0.lt
 clear hb
 obtain⟨c1,f1,l1,n1,m1⟩:=ati.rules
 have hC1:∀dd os,Calls Tryz.prog 41 #[.agg #[.slice a1 p.parts.length k1,.int .i64 p.frame,.slice a2 p.wins.length k2,.slice a3 p.chans.length k3],.int .i64 sched,.int .i64 (t%p.frame)] (Go.Sort.grow (redrawn w1 dd) os) fun e w''=>e=.returned (.tuple #[.int .i64 a,.int .i64 x])∧∃p:Regrown,w''=Go.Sort.grow (redrawn w1 p.d) p.os:=fun dd os=>Calls.regrown_of (KY.out _ (HP.out.below (hx1.trans ((below_regrown w1 dd os).mono hx1.size))))
 have C1:=ah hC1
 clear hC1
 have k0:=ati.Ar
 go_wp2_with fail
 ((refine wp_region_quiet_below asS asS ?_);(repeat(go_big_quiet_step ((go_at_call 41;with_reducible exact C1.out _ _))));(refine wpQuiet_nil ?_);intro _ hw';obtain⟨⟨dq,osq⟩,hw''⟩:=hw';subst hw'';have pE:=below_regrown w1 dq osq;generalize Go.Sort.grow (redrawn w1 dq) osq=w7 at*;have LC:=pE.size)
 clear k0
 go_wp2_with fail
 exact bodyPost_ret (v:= .tuple #[.int .i64 a,.int .i64 x]) (by simp[results,Tryz.results16,go_sem]) rfl ⟨rfl,hx1.trans (pE.mono hx1.size)⟩
end Go.Proofs.YtgmodehldmahiaaGreatDoor.bF
