/- Part 1 of 6 (beside the texts B) of the proof of topWindows_holds. Conditions: see each. -/
import Derived.Test.YtgmodehldmahiaaGreatDoorB01
set_option linter.unusedVariables false
set_option linter.unusedSimpArgs false
set_option maxRecDepth 8192
set_option maxHeartbeats 40000000
theorem asV{P:Prop}(h:P:=by
 have HN:=ah (show¬gJ p from fun h=>by
  have h':=h.chans _ (List.mem_of_getElem? HXI.out)
  unfold lU at h'
  dsimp only at h'
  omega)
 go_wp2_with fail
 go_ret
 exact⟨⟨1,asR,ato⟩,(hX.trans (hbc.mono hX.size)).alloc (hX.trans (hbc.mono hX.size)).size _⟩):P:=h
theorem aug{P:Prop}(h:P:=by
 go_enter Tryz.func64,Tryz.ntmps64
 go_wp2_with fail
 have jo:=aD.new w #[.slice a1 p.parts.length c1,.int .i64 p.frame,.slice a2 p.wins.length c2,.slice a3 p.chans.length c3] 26
 have hx1:Below w.heap.size w (w.alloc (.cells #[.slice a1 p.parts.length c1,.int .i64 p.frame,.slice a2 p.wins.length c2,.slice a3 p.chans.length c3] 26)):=(Below.refl _ _).alloc (Nat.le_refl _) _
 have hz1:(w.alloc (.cells #[.slice a1 p.parts.length c1,.int .i64 p.frame,.slice a2 p.wins.length c2,.slice a3 p.chans.length c3] 26)).heap.size=w.heap.size+1:=asR
 generalize hW1:w.alloc (.cells #[.slice a1 p.parts.length c1,.int .i64 p.frame,.slice a2 p.wins.length c2,.slice a3 p.chans.length c3] 26)=w1 at*
 clear hW1
 have XF:=ah jo
 obtain⟨hc1,mF,auS,mE,oz⟩:=jo.rules
 clear jo
 have HPL:=ah (HP.out.below hx1)
 go_loopw [3,4] (fun s t W=>∃i:Nat,i≤p.wins.length∧s=.bool true∧t=.int .i64 i∧W=w1) (fun _ t _=>p.wins.length-(intOf t).toNat)
 case atStart=>exact⟨0,Nat.zero_le _,rfl,rfl,rfl⟩
 case round=>as_aux_lemma=>
  obtain⟨i,hi,rfl,rfl,rfl⟩:=hrel
  by_cases hlt:i<p.wins.length
  ·have hwi:IntKind.i64.wrap ((i:Int)+1)=i+1:=IntWalk.i64_in _ asQ
   go_wp2_with fail
   go_roundw
   case rel=>exact⟨i+1,asQ,rfl,asU,atA⟩
   case measure=>simp[intOf];omega
  ·go_wp2_with fail
   go_ret
   exact⟨⟨4,asR,ato⟩,hx1⟩):P:=h
theorem atp{P:Prop}(h:P:=by
 have HN:=ah (show¬gJ p from fun h=>by
  have h':=(UJ.out.1 (HIF.out.1 (h.rows l (List.mem_of_getElem? HLI.out)))).1
  unfold uf at h'
  dsimp only at h'
  omega)
 go_wp2_with fail
 go_ret
 exact⟨⟨1,asR,ato⟩,(hX.trans (hby.mono hX.size)).alloc (hX.trans (hby.mono hX.size)).size _⟩):P:=h
theorem auf{P:Prop}(h:P:=by
 have HN:=ah (show¬gJ p from fun h=>by have h':=h.part _ (List.mem_of_getElem? HXI.out);unfold q9 at h';dsimp only at h';omega)
 go_wp2_with fail
 go_ret
 exact⟨⟨1,asR,ato⟩,hx1.trans ((bZ.alloc Bj _).mono hx1.size)⟩):P:=h
theorem auB{P:Prop}(h:P:=by
 have HN:=ah (show¬gJ p from fun h=>by
  have h':=h.part _ (List.mem_of_getElem? HXI.out)
  unfold q9 at h'
  dsimp only at h'
  obtain⟨y0,y1,y2⟩:=HY.out
  rcases(show k=0∨k=1∨k=2 by omega) with e|e|e
  ·have:=y0 e;omega
  ·have:=y1 e;omega
  ·have:=y2 e;omega)
 go_wp2_with fail
 go_ret
 exact⟨⟨1,asR,ato⟩,hx1.trans (hx3.mono hx1.size)⟩):P:=h
theorem auA{P:Prop}(h:P:=by
 have HNH:=ah (show Me m (xp,xf,xl)=false by unfold Me;simp;omega)
 go_wp2_with fail
 go_roundw
 case rel=>
  refine⟨i+1,asQ,asU,ah ?_,bZ.alloc Bj _⟩
  intro j x hj hx
  rcases Nat.lt_succ_iff_lt_or_eq.1 hj with hj|rfl
  ·exact Uo.out j x hj hx
  ·rw[HXI.out] at hx;cases hx;exact HNH.out
 case measure=>simp[intOf];omega):P:=h
theorem auz{P:Prop}(h:P:=by
 go_wp2_with fail
 go_roundw
 case rel=>
  refine⟨i+1,asQ,asU,ah ?_,hbc.alloc auZ _⟩
  intro j x hj hx
  rcases Nat.lt_succ_iff_lt_or_eq.1 hj with hj|rfl
  ·exact HR3.out j x hj hx
  ·rw[HXI.out] at hx;cases hx;exact HOK.out
 case measure=>simp[intOf];omega):P:=h
theorem atF{P:Prop}(h:P:=by
 have HF:=ah hf
 clear hf
 go_wp2_with fail
 go_ret
 exact⟨by rw[HF.out];simp<;>omega,hx1⟩):P:=h
theorem ato{P:Prop}(h:P:=by constructor;(intro h;omega);(intro h;exact absurd h HN.out)):P:=h
theorem auw{P:Prop}(h:P:=by first|exact HBG.out rfl|exact HBG.out trivial):P:=h
theorem atT{P:Prop}(h:P:=by simp[results,Tryz.results41,go_sem]):P:=h
theorem atB{P:Prop}(h:P:=by rw[List.getElem?_eq_getElem hj,he]):P:=h
theorem atA{P:Prop}(h:P:=by first|rfl|trivial):P:=h
theorem atv{P:Prop}(h:P:=by intro h;cases h):P:=h
theorem asX{P:Prop}(h:P:=by simp;omega):P:=h
theorem asS{P:Prop}(h:P:=by kernel_rfl):P:=h
theorem asU{P:Prop}(h:P:=by go_num):P:=h
theorem asQ{P:Prop}(h:P:=by omega):P:=h
theorem asR{P:Prop}(h:P:=by simp):P:=h
