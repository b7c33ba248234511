import Derived.Shelf.Spec.SlicesGrow
import Derived.StillTailTactics
import Derived.KernelRfl
import Derived.Outline
import Derived.Test.YtkchhginppjaiaaGreatDoorZ0
import Derived.Test.YtkchhginppjaiaaGreatDoorZ1
import Derived.Test.YtkchhginppjaiaaGreatDoorZ2
import Derived.Test.YtkchhginppjaiaaGreatDoorZ3
import Derived.Test.YtkchhginppjaiaaGreatDoorZ6
import Derived.Test.YtkchhginppjaiaaGreatDoorZ7
import Derived.Test.YtkchhginppjaiaaGreatDoorZ8
namespace Go.Proofs.YtkchhginppjaiaaGreatDoor
set_option maxRecDepth 100000
set_option maxHeartbeats 8000000
set_option linter.all false
open Go.Proofs.Tryz
open _root_.Array renaming replicate_succ->cA,replicate_zero->cB,size_append->mS,append_empty->Hu
open _root_.Bool renaming and_eq_true->bQ,false_eq_true->bS,not_eq_true'->dP,or_eq_false_iff->kC,false_or->oM,true_and->vN,and_false->R8
open _root_.Go renaming World->aF,Value->aP,undef->aO,Calls->bE,Addr->cO,Program->dN,TypeId->dT,below_drewN->eF,results_tmp->iS,results->lF,info_parts->lI,callFunc->rL,ownFrom_below->yY,size_zeroCells->zS,FuncId->BS,maxLen->Cm
open Go.Act renaming put->cS
open Go.Addr renaming add_lit->oK
open Go.AllReadyIn renaming nil->eB
open Go.Ending renaming returned->bA
open Go.IntKind renaming i64->aB
open Go.IntWalk renaming i64_in->bI
open Go.KeepsOthers renaming setCell->dG,of_grownBy->R7
open Go.Obj renaming cells->aN
open Go.Oper renaming semAt_some->gM
open Go.OwnFrom renaming and->eO
open Go.Proofs.Lays8 renaming n4->zY
open Go.Proofs.Tryz renaming prog->aE,underlying54->KK,results61->Og
open Go.RowKit renaming intOf->aK,Hid->bK
open Go.RowKit.Below renaming refl->aL
open Go.Shelf renaming Ren->iK
open Go.Value renaming string->aA,int->aC,slice->aD,bool->aV,pointer->aY,agg->cF,tuple->cK,oneCell'->kA
open Go.World renaming block_lt_of_cell?->bB,ownsRow_nil->tG
open Go.World.ownsRow renaming cellAt->dZ
open _root_.Int renaming zero_mul->Kd
open _root_.List renaming getD_eq_getElem?_getD->aG,getElem?_cons_zero->aI,getElem?_toArray->aJ,setIfInBounds_toArray->aM,set_cons_zero->aT,set_cons_succ->aW,getElem?_cons_succ->bC,length_cons->bD,length_append->bO,length_nil->bV,size_toArray->cD,append_toArray->cH,cons_append->cJ,take_succ_eq_append_getElem->cN,push_toArray->cR,mem_cons_self->cW,mem_cons_of_mem->dA,range->dD,nil_append->dF,map_append->eV,getElem_of_mem->fI,getElem?_append_right->gA,getElem_mem->gL,flatMap_append->lK,mem_cons->nI,append_nil->pZ,not_mem_nil->wA,getElem?_append_left->zR,append_assoc->A8,take_length->Cc,range_succ->DR
open _root_.Nat renaming le_refl->aH,le_trans->aU,zero_le->bM,zero_add->cC,lt_of_lt_of_le->dC,reduceAdd->dQ,reduceSub->dR,le_of_lt->jS,zero_mul->yW,le_of_eq->A9
open _root_.Option.some renaming inj->eG
section
open Go Go.RowKit Go.Lib
def pbL(f:Nat→List Sd)(r s:Nat):Bool:= !(decide (s=r)||decide (r=0))&&(GR (f s) ((f r).getD 0 default).x ((f r).getD 0 default).y !=decide (s=0))
def pbR(f:Nat→List Sd)(N r:Nat):Bool:=(decide (0<jL (f r) (f r).length) !=decide (r=0))||anyN (pbL f r) N
def UU(f:Nat→List Sd)(N:Nat):Bool:= !anyN (pbR f N) N
theorem ppl_of{f:Nat→List Sd}{N:Nat}(h:zJ f N=true):UU f N=true:=by
 unfold zJ at h;simp only[bQ,dP,decide_eq_false_iff_not]at h;obtain⟨h1,h2⟩:=h;have h2:=cP.1 h2;unfold UU;rw[cP.2 ?_]
 ·rfl
 intro r hr;have h3:=h2 r hr;by_cases h0:r=0
 ·subst h0;unfold pbR;rw[decide_eq_true (show 0<jL (f 0) (f 0).length by omega),cP.2]
  ·rfl
  intro s _;unfold pbL;simp
 ·rw[decide_eq_true (show 1≤r by omega),vN]at h3;unfold yT at h3;rw[kC]at h3;have h4:=of_decide_eq_false h3.1;unfold pbR;rw[decide_eq_false (show¬0<jL (f r) (f r).length by omega),decide_eq_false h0,cP.2]
  ·rfl
  intro s hs;have h5:=cP.1 h3.2 s hs;unfold EF at h5;unfold pbL;rw[decide_eq_false h0,Bool.or_false];exact h5
theorem kg (a:Option cO) (N cap:Nat) (rs:List Rg) (w:aF) (hl:rs.length=N) (hN:N≤1000) (hn:∀ r,(bF rs r).length≤1000) (hp:∀ r,r < N→0 < (bF rs r).length) (hC:∀ r,AH (bF rs r)) (rr:GN w a rs) :
    bE aE 61 #[aD a N cap] w (Rt (aV (UU (bF rs) N)) w):=by
  have HT:=zq (fun r (_:r < N) W (hW:Below w.heap.size w W)=> ZN (rs.getD r default).a (bF rs r).length (rs.getD r default).cap (bF rs r) W rfl (hn r) (hC r) ((rr.below hW).at (i:=r) (by omega) rfl).choose_spec.choose_spec.2.2)
  have HI:=zq (fun r (_:r < N) x y W (hW:Below w.heap.size w W)=> jr (rs.getD r default).a (bF rs r).length (rs.getD r default).cap (bF rs r) x y W rfl (hn r) (hC r) ((rr.below hW).at (i:=r) (by omega) rfl).choose_spec.choose_spec.2.2)
  have HR:=zq rr
  have HL:=zq hl
  have HP:=zq hp
  have X2:bK (∀ r,r < N→pbR (bF rs) N r=true→UU (bF rs) N=false):=fun r h2 h=> by unfold UU;rw [eA.2 ⟨r,h2,h⟩];rfl
  have X3:bK (anyN (pbR (bF rs) N) N=false→UU (bF rs) N=true):=fun h=> by unfold UU;rw [h];rfl
  have qj:=zq (fun s W=> mA s W)
  clear hl rr hp hn hC
  generalize UU (bF rs) N=R at *
  refine dM func61 rfl ?_
  simp only [ntmps61,cD,bD,bV,dQ,dR,cA,cB,cR,cH,dF,cJ]
  go_wp2
  go_loopw [9] (fun i wr=> ∃ r:Nat,i=aC aB r∧r≤N∧bK (anyN (pbR (bF rs) N) r=false)∧bK (Below w.heap.size w wr)) (fun i _=> N - (aK i).toNat)
  case atStart=> exact⟨0,rfl,bM _,rfl,aL _ w⟩
  case round=>
    obtain⟨r,rfl,hr,HA,HD⟩:=hrel
    rename aF=> wr
    by_cases hrN:r < N
    · obtain⟨b,o,rfl,c0,Pn⟩:=(HR.out.below HD.out).at (i:=r) (by rw [HL.out];exact hrN) rfl
      have Nu:=zq (HT.out r hrN wr HD.out)
      have hpr:0 < (rs.getD r default).ss.length:=HP.out r hrN
      have hpn:=HP.out r hrN
      have ED:=zq Pn
      have E:bK (pbR (bF rs) N r=((decide (0 < jL (bF rs r) (bF rs r).length) !=decide (r=0)) || anyN (pbL (bF rs) r) N)):=rfl
      have X2r:=zq (X2.out r hrN)
      have X4:=zq (fun h:pbR (bF rs) N r=false=> gH HA.out h)
      rw [show(rs.getD r default).ss.length=(bF rs r).length from rfl] at c0
      clear Pn
      generalize (bF rs r).length=n at *
      generalize (rs.getD r default).a=ar at *
      generalize (rs.getD r default).cap=cr at *
      generalize jL (bF rs r) n=T at *
      have hrI:(r:Int) < N:=by omega
      have hz:((r:Int)==0)=decide (r=0):=BB (by omega)
      go_wp2_with fail
      refine Nu.out.mono ?_
      rintro e W2 ⟨rfl,hd⟩
      have NM:=zq (aQ HD.out hd)
      have ED:=zq (ED.out.below hd)
      clear hd Nu c0
      obtain⟨Z0,hZ0⟩:=nm (decide (r=0))
      obtain⟨T0,hT0⟩:=nm (decide (0 < T))
      have hT1:decide (T > 0)=T0:=hT0
      rw [hZ0] at hz
      rw [hZ0,hT0] at E
      by_cases h1:(T0 !=Z0)=true
      · have e1:=zq (X2r.out (by rw [E.out,h1];rfl))
        clear E hZ0 hT0
        cases T0 <;> cases Z0 <;> first | (exfalso;revert h1;decide) | skip
        all_goals
          clear h1
          go_wp2
          exact oC (iS Og _ _ _) rfl ⟨by rw [e1.out] <;> rfl,NM.out⟩
      · have h1:(T0 !=Z0)=false:=by simpa using h1
        rw [h1,oM] at E
        obtain rfl:T0=Z0:=by cases T0 <;> cases Z0 <;> first | rfl | (exfalso;revert h1;decide)
        clear h1
        obtain⟨ab,ao,rfl, -⟩:=ED.out 0 hpr
        have EZ:=zq hZ0
        go_wp2
        go_loopw [22] (fun i ws=> ∃ s:Nat,i=aC aB s∧s≤N∧bK (anyN (pbL (bF rs) r) s=false)∧bK (Below w.heap.size w ws)∧bK (Below W2.heap.size W2 ws)) (fun i _=> N - (aK i).toNat)
        case atStart=> exact⟨0,rfl,bM _,rfl,NM.out,aL _ _⟩
        case round=>
          obtain⟨s,rfl,hs,NX,St,HDz⟩:=hrel
          rename aF=> ws
          by_cases hsN:s < N
          · obtain⟨b',o',e1,k0, -⟩:=(HR.out.below St.out).at (i:=s) (by rw [HL.out];exact hsN) rfl
            injection e1 with e1;injection e1 with e1 e2;subst e1 e2
            rw [show(rs.getD s default).ss.length=(bF rs s).length from rfl] at k0
            have HIs:=zq (fun W hW=> HI.out s hsN ((bF rs r).getD 0 default).x ((bF rs r).getD 0 default).y W hW)
            have XX:=zq (fun W=> qj.out ((bF rs r).getD 0 default) W)
            have E2:bK (pbL (bF rs) r s=(!(decide (s=r) || decide (r=0)) && (GR (bF rs s) ((bF rs r).getD 0 default).x ((bF rs r).getD 0 default).y !=decide (s=0)))):=rfl
            rw [EZ.out] at E2
            have X5:=zq (fun h:pbL (bF rs) r s=true=> X2r.out (by rw [E.out];exact eA.2 ⟨s,hsN,h⟩))
            have X6:=zq (fun h:pbL (bF rs) r s=false=> gH NX.out h)
            have hsI:(s:Int) < N:=by omega
            generalize pbL (bF rs) r s=B at *
            generalize GR (bF rs s) ((bF rs r).getD 0 default).x ((bF rs r).getD 0 default).y=I at *
            have hv:(rs.getD r default).ss.getD 0 default=(bF rs r).getD 0 default:=rfl
            generalize (bF rs s).length=m at *
            generalize (rs.getD s default).a=as' at *
            generalize (rs.getD s default).cap=cs at *
            have hq:((s:Int)==(r:Int))=decide (s=r):=BB (by omega)
            have sS:((s:Int)==0)=decide (s=0):=BB (by omega)
            obtain⟨S0,hS0⟩:=nm (decide (s=r))
            obtain⟨Z,hZ⟩:=nm (decide (s=0))
            rw [hS0] at hq E2
            rw [hZ] at sS E2
            by_cases hsk:(S0 || T0)=true
            · have e1:=zq (X6.out (by rw [E2.out,hsk];rfl))
              clear E2 X5 X6 hS0 hZ
              cases S0
              · have hZt:T0=true:=by simpa using hsk
                subst hZt
                clear hsk
                go_wp2
                go_roundw
                case rel=> exact⟨s + 1,by go_num,by omega,e1.out,St.out,HDz.out⟩
                case measure=> simp only [aK];omega
              · clear hsk
                go_wp2
                go_roundw
                case rel=> exact⟨s + 1,by go_num,by omega,e1.out,St.out,HDz.out⟩
                case measure=> simp only [aK];omega
            · have hsk:(S0 || T0)=false:=by simpa using hsk
              obtain⟨rfl,rfl⟩:S0=false∧T0=false:=by simpa using hsk
              obtain⟨ab',ao',e1,d0,d1,d2,d3,d4,d5,d6⟩:=(ED.out.below HDz.out).at (i:=0) hpr hv
              injection e1 with e1;injection e1 with e1 e2;subst e1 e2
              clear hv hpr hsk hS0 hZ
              generalize (bF rs r).getD 0 default=c at *
              simp only [yW,Nat.add_zero] at d0 d1 d2 d3 d4 d5 d6
              obtain⟨x,y,rise,run,gable,plate,over⟩:=c
              unfold Sd.v Sd.cells at XX
              simp only [] at *
              go_wp2_with fail
              refine(XX.out _).mono ?_
              rintro e W3 ⟨rfl,hb3⟩
              have HB3:=zq (aQ St.out hb3)
              have rT:=zq (aQ HDz.out hb3)
              have HIw:=zq (HIs.out _ HB3.out)
              clear hb3
              go_wp2_with fail
              refine HIw.out.mono ?_
              rintro e W4 ⟨rfl,hb3⟩
              have xX:=zq (aQ HB3.out hb3)
              have zV:=zq (aQ rT.out hb3)
              clear hb3 HB3 rT
              cases I <;> cases Z
              case' true.false=> have e1:=zq (X5.out E2.out)
              case' false.true=> have e1:=zq (X5.out E2.out)
              case' true.true=> have e1:=zq (X6.out E2.out)
              case' false.false=> have e1:=zq (X6.out E2.out)
              all_goals
                clear E2 X5 X6
                go_wp2
                first
                  | (go_roundw
                     case rel=> exact⟨s + 1,by go_num,by omega,e1.out,xX.out,zV.out⟩
                     case measure=> simp only [aK];omega)
                  | exact oC (iS Og _ _ _) rfl ⟨by rw [e1.out] <;> rfl,xX.out⟩
                  | fail
          · obtain rfl:N=s:=by omega
            have e1:=zq (X4.out (by rw [E.out];exact NX.out))
            go_wp2
            go_roundw
            case rel=> exact⟨r + 1,by go_num,by omega,e1.out,St.out⟩
            case measure=> simp only [aK];omega
    · obtain rfl:N=r:=by omega
      have e1:=zq (X3.out HA.out)
      go_wp2
      exact oC (iS Og _ _ _) rfl ⟨by rw [e1.out] <;> rfl,HD.out⟩
abbrev mkD(D:Nat):Deferred:={target:=.collected D,args:= #[]}
def Mk(B E:Nat)(Ds:List Nat)(W:aF):Prop:=Ds.Nodup∧∀D,D∈Ds→B≤D∧D<E∧W.heap[D]? =some (.deferred (some []))
theorem Mk.nil(B E:Nat)(W:aF):Mk B E [] W:=⟨List.nodup_nil,fun _ h=>nomatch h⟩
theorem Mk.grow{B E E':Nat}{Ds:List Nat}{W:aF}(h:Mk B E Ds W)(k:E≤E'):Mk B E' Ds W:=⟨h.1,fun D hD=>⟨(h.2 D hD).1,dC (h.2 D hD).2.1 k,(h.2 D hD).2.2⟩⟩
theorem Mk.top{B E:Nat}{Ds:List Nat}{W:aF}(h:Mk B E Ds W):Mk B W.heap.size Ds W:=⟨h.1,fun D hD=>⟨(h.2 D hD).1,(Array.getElem?_eq_some_iff.1 (h.2 D hD).2.2).1,(h.2 D hD).2.2⟩⟩
theorem Mk.below{B E:Nat}{Ds:List Nat}{W W':aF}(h:Mk B E Ds W)(hb:Below W.heap.size W W'):Mk B E Ds W':=
 ⟨h.1,fun D hD=>⟨(h.2 D hD).1,(h.2 D hD).2.1,(hb.block D (Array.getElem?_eq_some_iff.1 (h.2 D hD).2.2).1).trans (h.2 D hD).2.2⟩⟩
theorem Mk.setCell{B E:Nat}{Ds:List Nat}{W:aF}{b:Nat}{cs:Array aP}{T:dT}(h:Mk B E Ds W)(hb:bT W b cs T)(o:Nat)(v:aP):Mk B E Ds (W.setCell ⟨b,o,none⟩ v):=
 ⟨h.1,fun D hD=>⟨(h.2 D hD).1,(h.2 D hD).2.1,(heap_setCell_other W ⟨b,o,none⟩ D v (fun e=>by
  have h1:=(h.2 D hD).2.2
  have h2:W.heap[b]? =some (aN cs T (0,0)):=hb
  rw[show D=b from e,h2]at h1
  cases h1)).trans (h.2 D hD).2.2⟩⟩
theorem Mk.cons{B E D:Nat}{Ds:List Nat}{W:aF}(h:Mk B E Ds W)(hB:B≤E)(hD:E≤D)(hW:W.heap[D]? =some (.deferred (some []))):Mk B W.heap.size (D::Ds) W:=
 ⟨List.nodup_cons.2 ⟨fun hm=>absurd (h.2 D hm).2.1 (by omega),h.1⟩,fun X hX=>by
  rcases List.mem_cons.1 hX with rfl|hX
  ·exact⟨aU hB hD,(Array.getElem?_eq_some_iff.1 hW).1,hW⟩
  ·exact h.top.2 X hX⟩
theorem Mk.from{β:Type}{B E:Nat}{Ds:List Nat}:OwnFrom E (fun(_:β)W=>Mk B E Ds W):=fun _ W W' row hs hg hr=>
 ⟨hs.1,fun D hD=>⟨(hs.2 D hD).1,(hs.2 D hD).2.1,(hg.block D (Array.getElem?_eq_some_iff.1 (hs.2 D hD).2.2).1 (fun e=>absurd (hr D e.symm).1 (by have:=(hs.2 D hD).2.1;omega))).trans (hs.2 D hD).2.2⟩⟩
theorem Pr{F:Fence}{n:Nat}{P:dN}{fn:Func}{tmps:Array aP}{R:Ending→aF→Prop}{B E:Nat}{v:aP}{Pp:aF→Prop}
 (hP:∀W D,B≤D→Pp W→W.heap[D]? =some (.deferred (some []))→Pp (W.putObj D (.deferred none)))
 (hend:∀W,Pp W→(lF fn tmps).run P W=.ok v W∧R (bA v) W):∀(Ds:List Nat)(W:aF),Mk B E Ds W→Pp W→LeavesInM F n P fn tmps R (Ds.map mkD) .returning W
 |[],W,_,h=>⟨v,(hend W h).1,(hend W h).2⟩
 |D::Ds,W,hm,h=>by
  have hD:=hm.2 D cW
  have hn:=List.nodup_cons.1 hm.1
  have hm':Mk B E Ds (W.putObj D (.deferred none)):=⟨hn.2,fun X hX=>by
   have hX':=hm.2 X (dA _ hX)
   have iC:X≠D:=fun e=>hn.1 (e▸hX)
   exact⟨hX'.1,hX'.2.1,(World.putObj_heap_other (by first |exact iC|exact iC.symm)).trans hX'.2.2⟩⟩
  exact⟨by simp,.inl ⟨D,_,rfl,run_takeDeferred hD.2.2,Pr hP hend Ds _ hm' (hP W D hD.1 h hD.2.2)⟩⟩
theorem Yd{F:Fence}{n:Nat}{P:dN}{fn:Func}{R:Ending→aF→Prop}{a:Act}{w:aF}{B E:Nat}{Ds:List Nat}{v:aP}(hd:a.defers=Ds.map mkD)(hm:Mk B E Ds w)(Pp:aF→Prop)(h:Pp w)
 (hP:∀W D,B≤D→Pp W→W.heap[D]? =some (.deferred (some []))→Pp (W.putObj D (.deferred none)))
 (hend:∀W,Pp W→(lF fn a.tmps).run P W=.ok v W∧R (bA v) W):bodyPostM F n P fn R .ret a w:=by
 show LeavesInM _ _ _ _ _ _ _ _ _;rw[hd];exact Pr hP hend Ds w hm h
end
section
open Go Go.RowKit Go.Shelf Go.Lib
section
attribute[local go_sem] gM
def jnX(l:List Sd)(k:Nat):Bool:= !UQ (l.getD (pre l.length k) default) (l.getD k default) (fF l k)&&gabI (l.getD (pre l.length k) default) (l.getD k default)
def jnR(f:Nat→List Sd)(r:Nat):Bool:=anyN (jnX (f r)) (f r).length
def UV(f:Nat→List Sd)(N:Nat):Bool:= !anyN (jnR f) N&&anyN (BC f) N
theorem kh (a : Option cO) (N cap : Nat) (rs : List Rg) (w : aF) (hl : rs.length = N) (hN : N ≤ 1000) (hn : ∀ r, (bF rs r).length ≤ 1000) (hC : ∀ r, AH (bF rs r)) (rr : GN w a rs) :
 bE aE 62 #[aD a N cap] w (Rt (aV (UV (bF rs) N)) w) := by
 obtain ⟨W0, eY⟩ := nm ((w.alloc (aN #[aV false] 4)).alloc (aN #[aV false] 4))
 obtain ⟨Zn, tN, fE⟩ := MO eY
 have fV := zq fE
 have HR := zq rr
 have HL := zq hl
 have HC := zq hC
 have HN := zq hn
 have HW := zq eY
 have X1 : bK (∀ r, r < N → jnR (bF rs) r = true → UV (bF rs) N = false) := fun r h2 h => by unfold UV; rw [eA.2 ⟨r, h2, h⟩]; rfl
 have X3 : bK (anyN (jnR (bF rs)) N = false → UV (bF rs) N = anyN (BC (bF rs)) N) := fun h => by unfold UV; rw [h]; rfl
 have hlt0 := tN.lt
 obtain ⟨RB, hRB⟩ := nm w.heap.size
 rw [hRB] at Zn tN hlt0
 obtain ⟨SB, sj⟩ := nm (RB + 1)
 rw [sj] at tN hlt0
 have di := zq hRB
 have HSB := zq sj
 have Hp0 := zq Zn
 have Hq0 := zq tN
 clear hl rr hn hC fE eY Zn tN hlt0
 generalize UV (bF rs) N = R at *
 refine dM func62 rfl ?_
 simp only [ntmps62, cD, bD, bV, dQ, dR, cA, cB, cR, cH, dF, cJ]
 go_upto_region 2 with (fail)
 rw [HW.out]
 clear HW sj hRB
 go_wp2
 refine wp_loop (fun a' w' => ∃ (r : Nat) (Ds : List Nat) (u5 u11 u12 u13 u14 u15 u47 : aP), a' = { tmps := #[aD a N cap, aO, aY (some ⟨RB, 0, none⟩), aY (some ⟨SB, 0, none⟩), aO, u5, aO, aO, aD a N cap, aC aB N, aC aB r, u11, u12, u13, u14, u15, aO, aO, aO, aO, aO, aO, aO, aO, aO, aO, aO, aO, aO, aO, aO, aO, aO, aO, aO, aO, aO, aO, aO, aO, aO, aO, aO, aO, aO, aO, aO, u47, aO], defers := Ds.map mkD } ∧
  r ≤ N ∧ bK (anyN (jnR (bF rs)) r = false) ∧ bK (bT w' RB #[aV false] 4) ∧ bK (bT w' SB #[aV (anyN (BC (bF rs)) r)] 4) ∧ bK (Below w.heap.size w w') ∧ bK (Mk w.heap.size w'.heap.size Ds w'))
  (fun a' _ => N - (aK (a'.tmps.getD 10 aO)).toNat) ⟨0, [], aO, aO, aO, aO, aO, aO, aO, rfl, bM _, rfl, Hp0.out, Hq0.out, fV.out, Mk.nil _ _ _⟩ ?_
 clear Hp0 Hq0 fV
 rintro _ wr ⟨r, Ds, u5, u11, u12, u13, u14, u15, u47, rfl, hr, HA, HRb, HSb, HB, HM⟩
 by_cases hrN : r < N
 ·obtain ⟨b, o, rfl, c0, Pn⟩ := (HR.out.below HB.out).at (i := r) (by rw [HL.out]; exact hrN) rfl
  rw [show (rs.getD r default).ss.length = (bF rs r).length from rfl] at c0
  have ED := zq Pn
  have TZ : bK (∀ p, 0 < (bF rs r).length → (rs.getD r default).a = some p → p.block < w.heap.size) := fun p h0 e => by
   obtain ⟨b', o', e1, -, rs1⟩ := HR.out.at (i := r) (by rw [HL.out]; exact hrN) rfl
   obtain ⟨b2, o2, e2, c⟩ := rs1 0 h0
   rw [e] at e2; injection e2 with e2; subst e2
   exact bB w _ (c 0 (by decide))
  have X1r := zq (X1.out r hrN)
  have X4 := zq (fun h : jnR (bF rs) r = false => gH (p := jnR (bF rs)) HA.out h)
  have E1 : bK (jnR (bF rs) r = anyN (jnX (bF rs r)) (bF rs r).length) := rfl
  have E2 : bK (anyN (BC (bF rs)) (r + 1) = (anyN (BC (bF rs)) r || anyN (B8 (bF rs r)) (bF rs r).length)) := rfl
  have JV := HN.out r
  have HCr := zq (HC.out r)
  rw [show (rs.getD r default).ss = bF rs r from rfl] at ED
  clear Pn
  obtain ⟨l, hl⟩ := nm (bF rs r)
  rw [hl] at E1 E2 JV HCr ED TZ c0
  obtain ⟨n, yN⟩ := nm l.length
  rw [yN] at E1 E2 JV TZ c0
  have HLn := zq yN
  clear hl yN
  generalize (rs.getD r default).a = ar at *
  generalize (rs.getD r default).cap = cr at *
  generalize anyN (BC (bF rs)) r = S1 at *
  obtain ⟨S2, uP⟩ := nm (anyN (BC (bF rs)) (r + 1))
  rw [uP] at E2
  have HS2 := zq uP
  clear uP
  obtain ⟨JR, hJR⟩ := nm (jnR (bF rs) r)
  rw [hJR] at E1 X1r X4
  clear hJR
  go_wp2_with fail
  refine (Dc ar n cr wr).mono ?_
  rintro e W1 ⟨rfl, rS⟩
  have hb1 : Below wr.heap.size wr W1 := by rw [rS]; exact (aL _ _).alloc (aH _) _
  have hq1 : bT W1 wr.heap.size #[aD ar n cr] 54 := by rw [rS]; exact bT.new _ _ _
  have eC := zq (aQ HB.out hb1)
  have zW := zq hq1
  have HRb1 := zq (HRb.out.below hb1 HRb.out.lt)
  have HSb1 := zq (HSb.out.below hb1 HSb.out.lt)
  have yt := zq ((HM.out.below hb1).grow hb1.size)
  have AY := zq (ED.out.below hb1)
  have hSl := HSb.out.lt
  have HBs : bK (SB < wr.heap.size) := hSl
  clear hb1 hq1 rS HB HRb HSb HM ED hSl c0
  generalize wr.heap.size = Bs at *
  go_wp2_with fail
  have MP : ∀ j, pT Bs ar n j → j ≠ SB := by
   rintro j (rfl | ⟨h0, p, e, rfl⟩) h
   ·have := HBs.out; omega
   ·have := TZ.out p h0 e; have := di.out; have := HSB.out; omega
  have EJ : bK (∀ k, anyN (jnX l) (k + 1) = (anyN (jnX l) k || (!UQ (l.getD (pre l.length k) default) (l.getD k default) (fF l k) && gabI (l.getD (pre l.length k) default) (l.getD k default)))) := fun k => rfl
  have ES : bK (∀ k, anyN (B8 l) (k + 1) = (anyN (B8 l) k || !(l.getD k default).gable)) := fun k => rfl
  rw [HLn.out] at EJ
  refine Dd Bs ar n cr l rfl HLn.out JV (zW.out.cell 0) AY.out
   (fun k W => bT W RB #[aV false] 4 ∧ bT W SB #[aV (S1 || anyN (B8 l) k)] 4 ∧ Below w.heap.size w W ∧ Mk w.heap.size W1.heap.size Ds W ∧ anyN (jnX l) k = false)
   (fun c _ W => c = .ret ∧ bT W RB #[aV false] 4 ∧ Below w.heap.size w W ∧ Mk w.heap.size W1.heap.size Ds W ∧ anyN (jnX l) n = true)
   (eO (Own.from (fun s A B row hs hg hr => hs.own hg hr) _) (eO (Own.from (fun s A B row hs hg hr => hs.own hg hr) _) (eO (yY (aH _) eC.out.size) (eO Mk.from (fun _ _ _ _ h _ _ => h)))))
   (fun c => eO (fun _ _ _ _ h _ _ => h) (eO (Own.from (fun s A B row hs hg hr => hs.own hg hr) _) (eO (yY (aH _) eC.out.size) (eO Mk.from (fun _ _ _ _ h _ _ => h)))))
   ⟨HRb1.out, by rw [show anyN (B8 l) 0 = false from rfl, Bool.or_false]; exact HSb1.out, eC.out, yt.out, rfl⟩
   (fun k q ar' => { tmps := #[aD (some ⟨b, o, none⟩) N cap, aO, aY (some ⟨RB, 0, none⟩), aY (some ⟨SB, 0, none⟩), aO, aD ar n cr, aO, aY (some ⟨q, 0, none⟩), aD (some ⟨b, o, none⟩) N cap, aC aB N, aC aB r, aV true, aY (some ⟨b, o + r, none⟩), aD ar n cr, aD ar n cr, .func (.func 160) #[] #[aY (some ⟨Bs, 0, none⟩)], aC aB k, cF ar', aO, aO, aO, aO, aO, aO, aO, aO, aO, aO, aO, aO, aO, aO, aO, aO, aO, aO, aO, aO, aO, aO, aO, aO, aO, aO, aO, aO, aO, u47, aO], defers := [] })
   (fun ly k p s t W K hk hK => ?_) (fun ly k q p s t W hk hp hs ht hq Tw NA hI => ?_) (fun D W hD hI hK => ?_) (fun D c k W hD hk hI hK => ?_)
  ·refine xN arZ (GP p s t) rfl ?_
   show K _ _
   simpa only [cS, aM, aT, aW] using hK
  ·obtain ⟨h1, h2, h3, h4, h5⟩ := hI
   have H1 := zq h1
   have H3 := zq h3
   have H4 := zq h4
   have Hrw := zq NA
   have HK := zq hk
   have C1p : C1 p := by rw [← hp]; exact HCr.out _
   have US : C1 s := by rw [← hs]; exact HCr.out k
   have XZ : C1 t := by rw [← ht]; exact HCr.out _
   have F1 := zq (EJ.out k)
   have F2 := zq (ES.out k)
   rw [hp, hs, ht, h5, oM] at F1
   rw [hs] at F2
   have hlf := zq (fun W => pl_left p s t W C1p US XZ)
   generalize UQ p s t = L at *
   obtain ⟨S4, hS4⟩ := nm (S1 || anyN (B8 l) (k + 1))
   have F3 : bK (S4 = ((S1 || anyN (B8 l) k) || !s.gable)) := by show _ = _; rw [← hS4, F2.out, Bool.or_assoc]
   have HS4 := zq hS4
   generalize (S1 || anyN (B8 l) k) = S3 at *
   have f0 := h2.cell 0
   have z0 := h2.fz 0
   have lS := h2.lt
   have b11 := hq.cell 11
   simp only [aJ, aI, bC] at f0 b11
   have H2 := zq h2
   have HQ := zq hq
   have Hqn : bK (q ≠ SB) := fun e => by have := HBs.out; have := eC.out.size; have h6 := zW.out.lt; omega
   obtain ⟨g, hg⟩ := nm s.gable
   rw [hg] at b11 F3
   have Hg := zq hg
   clear h1 h2 h3 h4 h5 hp hs ht hq hS4 hg C1p US XZ F2 HCr NA hk EJ ES
   cases S3
   all_goals
    simp only [oM, Bool.true_or] at F3
    gi_upto_region 8 with (fail)
   all_goals
    obtain ⟨X, hX⟩ : ∃ X, S4 = X := ⟨_, rfl⟩
    have hx := F3.out
    rw [hX] at hx HS4
    have hxe := congrArg (fun z => W.setCell ⟨SB, 0, none⟩ (aV z)) hx
    rw [← hxe]
    clear hxe
    clear F3 hX
    have Nw := HQ.out.other (a := ⟨SB, 0, none⟩) (aV X) Hqn.out
    have JH := H2.out.set 0 (aV X)
    have Zj := H1.out.other (a := ⟨SB, 0, none⟩) (aV X) (by show RB ≠ SB; have := HSB.out; omega)
    have QM := H4.out.setCell H2.out 0 (aV X)
    have hb2 := H3.out.setCell (p := ⟨SB, 0, none⟩) (by show w.heap.size ≤ SB; have := HSB.out; have := di.out; omega) (aV X)
    have hF := (dG W ⟨SB, 0, none⟩ (aV X)).from W1.heap.size
    have hG := dW.setCell (W := W) (a := ⟨SB, 0, none⟩) MP (aV X)
    have se : ∀ j, pT Bs ar n j → j < (W.setCell ⟨SB, 0, none⟩ (aV X)).heap.size := fun j hj => by rw [World.size_setCell]; exact Hrw.out j hj
    simp only [aM, aT] at JH
    generalize W.setCell ⟨SB, 0, none⟩ (aV X) = V at *
    have Hs2 := zq JH
    have Hr2 := zq Zj
    have Hm2 := zq QM
    have ZO := zq hb2
    have HF := zq hF
    have HG := zq hG
    have Hw2 := zq se
    have Cf := zq Nw
    have Hne := zq MP
    clear Nw JH Zj QM hb2 hF hG se H1 H2 H3 H4 HQ Hqn f0 z0 lS b11 hx
    gi_wp2_with (refine ldI 140 q 0 (GP p s t) (Cf.out.range 0 21 rfl) ?_)
    refine ⟨trivial, (Calls.round (hlf.out _) _ _).mono ?_⟩
    rintro e V3 ⟨rfl, hb3⟩
    have h1 := Hr2.out.below hb3 Hr2.out.lt
    have hq3 := Cf.out.below hb3 Cf.out.lt
    have b4 := hq3.cell 4
    have b5 := hq3.cell 5
    have b11 := hq3.cell 11
    have b12 := hq3.cell 12
    have r0 := h1.cell 0
    have rz := h1.fz 0
    have lr := h1.lt
    simp only [aJ, aI, bC] at b4 b5 b11 b12 r0
    rw [Hg.out] at b11
    have H1 := zq h1
    have H2 := zq (Hs2.out.below hb3 Hs2.out.lt)
    have N0 := zq (HF.out.trans ((fQ hb3).from _))
    have HG3 := zq (HG.out.trans (dW.below (ks := pT Bs ar n) hb3 Hw2.out))
    have H3 := zq (aQ ZO.out hb3)
    have H4 := zq (Hm2.out.below hb3)
    have KU := zq (N0.out.trans ((dG V3 ⟨RB, 0, none⟩ (aV false)).from _))
    have q7 := H1.out.set 0 (aV false)
    simp only [aM, aT] at q7
    have Uo := zq q7
    have Ig := zq (H3.out.setCell (p := ⟨RB, 0, none⟩) (by show w.heap.size ≤ RB; exact A9 di.out) (aV false))
    have HM7 := zq (H4.out.setCell H1.out 0 (aV false))
    clear q7 h1 hq3 hb3 Hr2 Hs2 Hm2 ZO HF HG Hw2 Cf
    have hx : bK (∀ b, anyN (jnX l) (k + 1) = b → b = false ∧ anyN (jnX l) (k + 1) = false ∨ b = true ∧ anyN (jnX l) n = true) := fun b hb => by
     cases b
     ·exact .inl ⟨rfl, hb⟩
     ·obtain ⟨j, h1, h2⟩ := eA.1 hb
      exact .inr ⟨rfl, eA.2 ⟨j, by have := HK.out; omega, h2⟩⟩
    have hy := zq (hx.out _ F1.out)
    clear hx F1
    unfold gabI at hy
    rw [Hg.out] at hy
    obtain ⟨c, hc⟩ := nm (p.plate != s.plate)
    obtain ⟨pg, hpg⟩ := nm p.gable
    have hc2 : (s.plate != p.plate) = c := by rw [← hc, bne_comm]
    rw [hc, hpg] at hy
    rw [hpg] at b4
    clear hc hpg
    cases L <;> cases g <;> cases pg <;> cases c
    all_goals
     have hb := hy.out
     simp at hb
     clear hy
     have Hb := zq hb
     clear hb
     gi_wp2
     first
      | exact ⟨N0.out, HG3.out, H1.out, by rw [HS4.out]; exact H2.out, H3.out, H4.out, Hb.out⟩
      | exact ⟨KU.out, rfl, Uo.out, Ig.out, HM7.out, Hb.out⟩
      | (trace_state; fail)
  ·obtain ⟨h1, h2, h3, h4, h5⟩ := hI
   have hj : JR = false := by rw [E1.out]; exact h5
   have NX := zq (X4.out hj)
   have e2 : bT W SB #[aV S2] 4 := by rw [E2.out]; exact h2
   rw [← HS2.out] at e2
   have HS := zq e2
   have H1 := zq h1
   have H3 := zq h3
   have H4 := zq (h4.cons (jS (dC (by have := HBs.out; have := di.out; have := HSB.out; omega) (jS zW.out.lt))) hD hK)
   clear h1 h2 h3 h4 h5 e2 hj X4 X1r E1 E2
   go_wp2
   go_roundw
   ·exact ⟨r + 1, D :: Ds, _, _, _, _, _, _, _, rfl, hrN, NX.out, H1.out, HS.out, H3.out, H4.out⟩
   ·show N - ((r : Int) + 1).toNat < N - (r : Int).toNat
    omega
  ·obtain ⟨rfl, h1, h3, h4, h5⟩ := hI
   have e := zq (X1r.out (by rw [E1.out]; exact h5))
   have H1 := zq h1
   have H3 := zq h3
   have H4 := zq (h4.cons (jS (dC (by have := HBs.out; have := di.out; have := HSB.out; omega) (jS zW.out.lt))) hD hK)
   clear h1 h3 h4 h5
   go_wp2
   exact Yd (Ds := D :: Ds) rfl H4.out (fun V => bT V RB #[aV false] 4 ∧ Below w.heap.size w V) ⟨H1.out, H3.out⟩ (fun V X hX hV hx => ⟨hV.1.putObj _ hx rfl, hV.2.trans (qV hX hx)⟩)
    (fun V hV => ⟨mY rfl _ _ RB (aV false) rfl (hV.1.cell 0) (Df _), by rw [e.out], hV.2⟩)
 ·obtain rfl : N = r := by omega
  have e := zq (X3.out HA.out)
  have s0 := HSb.out.cell 0
  have r0 := HRb.out.cell 0
  have rz := HRb.out.fz 0
  have lr := HRb.out.lt
  simp only [aJ, aI] at s0 r0
  have q7 := HRb.out.set 0 (aV (anyN (BC (bF rs)) N))
  simp only [aM, aT] at q7
  have Uo := zq q7
  have Ig := zq (HB.out.setCell (p := ⟨RB, 0, none⟩) (by show w.heap.size ≤ RB; exact A9 di.out) (aV (anyN (BC (bF rs)) N)))
  have HM7 := zq (HM.out.setCell HRb.out 0 (aV (anyN (BC (bF rs)) N)))
  clear q7
  go_wp2
  exact Yd (Ds := Ds) rfl HM7.out (fun V => bT V RB #[aV (anyN (BC (bF rs)) N)] 4 ∧ Below w.heap.size w V) ⟨Uo.out, Ig.out⟩ (fun V X hX hV hx => ⟨hV.1.putObj _ hx rfl, hV.2.trans (qV hX hx)⟩)
   (fun V hV => ⟨mY rfl _ _ RB (aV (anyN (BC (bF rs)) N)) rfl (hV.1.cell 0) (Df _), by rw [e.out], hV.2⟩)
end
end
section
open Go Go.RowKit Go.Lib
section
theorem info_box:(Tryz.prog.info? 194).map (fun i=>(i.zero,i.size,i.bytes))=some (some (cF #[aC aB 0,aC aB 0,aC aB 0,aC aB 0]),4,32):=by kernel_rfl
theorem Ye:(Tryz.prog.info? 197).map (fun i=>(i.zero,i.size,i.bytes))=some (some (cF #[aC aB 0,aC aB 0]),2,16):=by kernel_rfl
def Ji(w:aF)(row:Option Nat)(B:Nat)(T:dT):Prop:=∀j,row=some j→B≤j∧∃c,w.heap[j]? =some (aN c T (0,0))
theorem Ji.owns{w:aF}{B e size n:Nat}{v:aP}{xs:List aP}(h:w.ownsRow B e size v n xs):Ji w v.ownBlock B e:=fun j hj=>by
 rcases h.2 with⟨h,_⟩|⟨g,c,oL,h,hB,k,_⟩
 ·rw[h]at hj;cases hj
 ·rw[h]at hj
  have e:g=j:=by simpa[Value.ownBlock]using hj
  subst e
  exact⟨hB,_,k⟩
theorem Ji.blk{w:aF}{b B T:Nat}{cs:Array aP}(h:bT w b cs T)(hB:B≤b):Ji w (some b) B T:=fun j hj=>by cases hj;exact⟨hB,_,h⟩
theorem MS{w w':aF}{b:Nat}{cs:Array aP}{S T B:dT}{row:Option Nat}(h:bT w b cs S)(hg:w.grownBy w' row)(hr:Ji w row B T)(iC:S≠T):bT w' b cs S:=
 (hg.block b h.lt (fun e=>by
  obtain⟨_,c,hc⟩:=hr b e.symm
  have h':w.heap[b]? =some (aN cs S (0,0)):=h
  rw[h']at hc
  injection hc with hc
  injection hc with _ hc
  exact iC hc)).trans h
theorem Ps{w w':aF}{B B' e size n T:Nat}{v:aP}{xs:List aP}{row:Option Nat}(h:w.ownsRow B e size v n xs)(hg:w.grownBy w' row)(hr:Ji w row B' T)(iC:e≠T):w'.ownsRow B e size v n xs:=by
 refine⟨h.1,?_⟩;rcases h.2 with h1|⟨g,cap,oL,hv,hb,hh,r⟩
 ·exact .inl h1
 ·exact .inr ⟨g,cap,oL,hv,hb,MS (cs:=oL) hh hg hr iC,r⟩
theorem Mk.growT{B E B' T:Nat}{Ds:List Nat}{w w':aF}{row:Option Nat}(h:Mk B E Ds w)(hg:w.grownBy w' row)(hr:Ji w row B' T):Mk B E Ds w':=
 ⟨h.1,fun D hD=>⟨(h.2 D hD).1,(h.2 D hD).2.1,by
  have hd:=(h.2 D hD).2.2
  refine(hg.block D (Array.getElem?_eq_some_iff.1 hd).1 fun e=>?_).trans hd
  obtain⟨_,c,hc⟩:=hr D e.symm
  rw[hc]at hd;cases hd⟩⟩
theorem keepsT{E B T:Nat}{w w':aF}{row:Option Nat}(hg:w.grownBy w' row)(hr:Ji w row B T):KeepsFrom E w w':=
 (R7 hg fun j o e ho=>by
  obtain⟨_,c,hc⟩:=hr j e
  rw[hc]at ho;cases ho;rfl).from _
variable{P3 P4 P5 q E Bs n nr cr:Nat}{ar:Option cO}{Ds:List Nat}{w0 W:aF}{rv kv v1 v2 bxv plv:aP}{qa ba pa:Array aP}{bx pl:List aP}
structure CrK(E Bs:Nat)(ar:Option cO)(nr cr:Nat)(Ds:List Nat)(w0 W:aF)(P5:Nat)(rv:aP)(q:Nat)(qa:Array aP)(w:aF):Prop where
 k1:KeepsFrom E W w
 k2:dW (pT Bs ar nr) W w
 k3:Below w0.heap.size w0 w
 k4:Mk w0.heap.size E Ds w
 k5:bT w Bs #[aD ar nr cr] 54
 k6:bT w P5 #[rv] 3
 k7:bT w q qa 140
theorem CrK.below{w w':aF}(h:CrK E Bs ar nr cr Ds w0 W P5 rv q qa w)(NA:∀j,pT Bs ar nr j→j<W.heap.size)(hb:Below w.heap.size w w'):CrK E Bs ar nr cr Ds w0 W P5 rv q qa w':=
 ⟨h.k1.trans ((fQ hb).from _),h.k2.trans (dW.below hb fun j hj=>dC (NA j hj) h.k1.size),aQ h.k3 hb,h.k4.below hb,h.k5.below hb h.k5.lt,h.k6.below hb h.k6.lt,h.k7.below hb h.k7.lt⟩
theorem CrK.grow{w w':aF}{row:Option Nat}{T:dT}(h:CrK E Bs ar nr cr Ds w0 W P5 rv q qa w)(hp:∀p,0<nr→ar=some p→p.block<w0.heap.size)(hg:w.grownBy w' row)(hr:Ji w row w0.heap.size T)(h1:54≠T)(h2:3≠T)(h3:140≠T):CrK E Bs ar nr cr Ds w0 W P5 rv q qa w':=by
 have n5:=MS h.k5 hg hr h1;refine⟨h.k1.trans (keepsT hg hr),h.k2.trans fun j hj=>?_,h.k3.grown hg h.k3.size fun k hk=>(hr k hk).1,h.k4.growT hg hr,n5,MS h.k6 hg hr h2,MS h.k7 hg hr h3⟩
 ·rcases hj with rfl|⟨h0,p,e,rfl⟩
  ·exact Eq.trans n5 (Eq.symm h.k5)
  ·have hlt:=hp p h0 e;exact hg.block _ (dC hlt h.k3.size) (fun e=>by have:=(hr _ e.symm).1;omega)
def CrU(v1 v2 rv kv bxv plv:aP)(qa:Array aP):Nat→aP→Prop
 |0,v=>v=v1
 |1,v=>v=cF qa
 |2,v=>v=bxv
 |5,v=>v=v2
 |6,v=>v=rv
 |7,v=>v=kv
 |8,v=>v=plv
 |_,_=>True
structure NC(n:Nat)(bx pl:List aP)(v1 v2 kv:aP)(ba pa:Array aP)(P3 P4:Nat)(E Bs:Nat)(ar:Option cO)(nr cr:Nat)(Ds:List Nat)(w0 W:aF)(P5:Nat)(rv:aP)(q:Nat)(qa:Array aP)
 (d:Nat→Bool)(u:Nat→aP)(w:aF):Prop where
 vals:∀j,d j=true→CrU v1 v2 rv kv (cF ba) (cF pa) qa j (u j)
 m3:d 3=true→d 4=false→∃g,u 3=aD (some ⟨g,0,none⟩) 1 1∧bT w g ba 194
 m9:d 9=true→d 10=false→∃g,u 9=aD (some ⟨g,0,none⟩) 1 1∧bT w g pa 197
 r3:w.ownsRow w0.heap.size 194 4 (if d 4=true then u 4 else v1) (if d 4=true then n+1 else n) (if d 4=true then bx++ba.toList else bx)
 r4:w.ownsRow w0.heap.size 197 2 (if d 10=true then u 10 else v2) (if d 10=true then n+1 else n) (if d 10=true then pl++pa.toList else pl)
 b3:bT w P3 #[if d 11=true then u 4 else v1] 191
 b4:bT w P4 #[if d 12=true then u 10 else v2] 192
 k:CrK E Bs ar nr cr Ds w0 W P5 rv q qa w
variable{d:Nat→Bool}{u:Nat→aP}{w w':aF}
abbrev K9(u:Nat→aP)(i:Nat)(v:aP):Nat→aP:=fun j=>if j=i then v else u j
abbrev ZS(d:Nat→Bool)(i:Nat):Nat→Bool:=fun j=>if j=i then true else d j
theorem BF{p:Nat→aP→Prop}{i:Nat}{v:aP}(h:∀j,d j=true→p j (u j))(hv:p i v):∀j,ZS d i j=true→p j (K9 u i v j):=fun j hj=>by
 unfold ZS at hj
 unfold K9
 by_cases e:j=i
 ·subst e;rw[ip rfl];exact hv
 ·rw[iN e]at hj⊢;exact h j hj
theorem NC.quiet(h:NC n bx pl v1 v2 kv ba pa P3 P4 E Bs ar nr cr Ds w0 W P5 rv q qa d u w)(NA:∀j,pT Bs ar nr j→j<W.heap.size)(i:Nat)(v:aP)(hi:(i=3∨i=4∨i=9∨i=10∨i=11∨i=12)→False)(hv:CrU v1 v2 rv kv (cF ba) (cF pa) qa i v)(hb:Below w.heap.size w w'):
 NC n bx pl v1 v2 kv ba pa P3 P4 E Bs ar nr cr Ds w0 W P5 rv q qa (ZS d i) (K9 u i v) w':=by
 have e3:(3:Nat)≠i:=fun e=>hi (.inl e.symm);have e4:(4:Nat)≠i:=fun e=>hi (.inr (.inl e.symm));have e9:(9:Nat)≠i:=fun e=>hi (.inr (.inr (.inl e.symm)));have e10:(10:Nat)≠i:=fun e=>hi (.inr (.inr (.inr (.inl e.symm))));have e11:(11:Nat)≠i:=fun e=>hi (.inr (.inr (.inr (.inr (.inl e.symm)))));have e12:(12:Nat)≠i:=fun e=>hi (.inr (.inr (.inr (.inr (.inr e.symm)))));refine⟨BF h.vals hv,?_,?_,?_,?_,?_,?_,h.k.below NA hb⟩<;>simp only[ZS,K9,iN e3,iN e4,iN e9,iN e10,iN e11,iN e12]
 ·intro h1 h2;obtain⟨g,e,hg⟩:=h.m3 h1 h2;exact⟨g,e,hg.below hb hg.lt⟩
 ·intro h1 h2;obtain⟨g,e,hg⟩:=h.m9 h1 h2;exact⟨g,e,hg.below hb hg.lt⟩
 ·exact bJ h.r3 hb
 ·exact bJ h.r4 hb
 ·exact h.b3.below hb h.b3.lt
 ·exact h.b4.below hb h.b4.lt
theorem NC.made3(h:NC n bx pl v1 v2 kv ba pa P3 P4 E Bs ar nr cr Ds w0 W P5 rv q qa d u w)(NA:∀j,pT Bs ar nr j→j<W.heap.size):
 NC n bx pl v1 v2 kv ba pa P3 P4 E Bs ar nr cr Ds w0 W P5 rv q qa (ZS d 3) (K9 u 3 (aD (some ⟨w.heap.size,0,none⟩) 1 1)) (w.alloc (aN ba 194)):=by
 have hb:Below w.heap.size w (w.alloc (aN ba 194)):=(aL _ _).alloc (aH _) _;refine⟨BF h.vals trivial,fun _ _=>⟨_,rfl,bT.new _ _ _⟩,?_,bJ h.r3 hb,bJ h.r4 hb,h.b3.below hb h.b3.lt,h.b4.below hb h.b4.lt,h.k.below NA hb⟩;intro h1 h2;obtain⟨g,e,hg⟩:=h.m9 h1 h2;exact⟨g,e,hg.below hb hg.lt⟩
theorem NC.made9(h:NC n bx pl v1 v2 kv ba pa P3 P4 E Bs ar nr cr Ds w0 W P5 rv q qa d u w)(NA:∀j,pT Bs ar nr j→j<W.heap.size):
 NC n bx pl v1 v2 kv ba pa P3 P4 E Bs ar nr cr Ds w0 W P5 rv q qa (ZS d 9) (K9 u 9 (aD (some ⟨w.heap.size,0,none⟩) 1 1)) (w.alloc (aN pa 197)):=by
 have hb:Below w.heap.size w (w.alloc (aN pa 197)):=(aL _ _).alloc (aH _) _;refine⟨BF h.vals trivial,?_,fun _ _=>⟨_,rfl,bT.new _ _ _⟩,bJ h.r3 hb,bJ h.r4 hb,h.b3.below hb h.b3.lt,h.b4.below hb h.b4.lt,h.k.below NA hb⟩;intro h1 h2;obtain⟨g,e,hg⟩:=h.m3 h1 h2;exact⟨g,e,hg.below hb hg.lt⟩
theorem NC.app4(h:NC n bx pl v1 v2 kv ba pa P3 P4 E Bs ar nr cr Ds w0 W P5 rv q qa d u w)(hp:∀p,0<nr→ar=some p→p.block<w0.heap.size)(h11:d 11=false){v:aP}(ho:w'.ownsRow w0.heap.size 194 4 v (n+1) (bx++ba.toList))
 (h4:d 4=false)(hg:w.grownBy w' v1.ownBlock):NC n bx pl v1 v2 kv ba pa P3 P4 E Bs ar nr cr Ds w0 W P5 rv q qa (ZS d 4) (K9 u 4 v) w':=by
 have r3:=h.r3;rw[h4]at r3;have hr:=Ji.owns r3;refine⟨BF h.vals trivial,fun _ h2=>by simp[ZS]at h2,?_,ho,Ps h.r4 hg hr (by decide),?_,MS h.b4 hg hr (by decide),h.k.grow hp hg hr (by decide) (by decide) (by decide)⟩
 ·intro h1 h2;obtain⟨g,e,hgb⟩:=h.m9 h1 h2;exact⟨g,e,MS hgb hg hr (by decide)⟩
 ·have b3:=MS h.b3 hg hr (by decide);show bT w' P3 #[if d 11=true then _ else v1] _;rw[h11]at b3⊢;exact b3
theorem NC.app10(h:NC n bx pl v1 v2 kv ba pa P3 P4 E Bs ar nr cr Ds w0 W P5 rv q qa d u w)(hp:∀p,0<nr→ar=some p→p.block<w0.heap.size)(kj:d 12=false)(h4:d 4=true){v:aP}(ho:w'.ownsRow w0.heap.size 197 2 v (n+1) (pl++pa.toList))
 (kn:d 10=false)(hg:w.grownBy w' v2.ownBlock):NC n bx pl v1 v2 kv ba pa P3 P4 E Bs ar nr cr Ds w0 W P5 rv q qa (ZS d 10) (K9 u 10 v) w':=by
 have r4:=h.r4;rw[kn]at r4;have hr:=Ji.owns r4;refine⟨BF h.vals trivial,fun _ h2=>?_,fun _ h2=>by simp[ZS]at h2,Ps h.r3 hg hr (by decide),ho,MS h.b3 hg hr (by decide),?_,h.k.grow hp hg hr (by decide) (by decide) (by decide)⟩
 ·have h2:d 4=false:=h2;rw[h4]at h2;cases h2
 ·have b4:=MS h.b4 hg hr (by decide);show bT w' P4 #[if d 12=true then _ else v2] _;rw[kj]at b4⊢;exact b4
theorem NC.sto11(h:NC n bx pl v1 v2 kv ba pa P3 P4 E Bs ar nr cr Ds w0 W P5 rv q qa d u w)(hp:∀p,0<nr→ar=some p→p.block<w0.heap.size)(h3:w0.heap.size≤P3)(v:aP)(h4:d 4=true)(kn:d 10=true):
 NC n bx pl v1 v2 kv ba pa P3 P4 E Bs ar nr cr Ds w0 W P5 rv q qa (ZS d 11) (K9 u 11 v) (w.setCell ⟨P3,0,none⟩ (u 4)):=by
 have hr:=Ji.blk h.b3 h3;have hg:=grownBy_setCell' w P3 (u 4);refine⟨BF h.vals trivial,fun _ h2=>?_,fun _ h2=>?_,Ps h.r3 hg hr (by decide),Ps h.r4 hg hr (by decide),?_,MS h.b4 hg hr (by decide),h.k.grow hp hg hr (by decide) (by decide) (by decide)⟩
 ·have h2:d 4=false:=h2;rw[h4]at h2;cases h2
 ·have h2:d 10=false:=h2;rw[kn]at h2;cases h2
 ·exact h.b3.set 0 (u 4)
theorem NC.sto12(h:NC n bx pl v1 v2 kv ba pa P3 P4 E Bs ar nr cr Ds w0 W P5 rv q qa d u w)(hp:∀p,0<nr→ar=some p→p.block<w0.heap.size)(h3:w0.heap.size≤P4)(v:aP)(h4:d 4=true)(kn:d 10=true):
 NC n bx pl v1 v2 kv ba pa P3 P4 E Bs ar nr cr Ds w0 W P5 rv q qa (ZS d 12) (K9 u 12 v) (w.setCell ⟨P4,0,none⟩ (u 10)):=by
 have hr:=Ji.blk h.b4 h3;have hg:=grownBy_setCell' w P4 (u 10);refine⟨BF h.vals trivial,fun _ h2=>?_,fun _ h2=>?_,Ps h.r3 hg hr (by decide),Ps h.r4 hg hr (by decide),MS h.b3 hg hr (by decide),?_,h.k.grow hp hg hr (by decide) (by decide) (by decide)⟩
 ·have h2:d 4=false:=h2;rw[h4]at h2;cases h2
 ·have h2:d 10=false:=h2;rw[kn]at h2;cases h2
 ·exact h.b4.set 0 (u 10)
end
end
section
open Go Go.RowKit Go.Shelf Go.Lib
section
attribute[local go_sem] gM
theorem Dg{W:aF}{cL e size n:Nat}{v:aP}{xs:List aP}(h:W.ownsRow cL e size v n xs):∃a c,v=aD a n c:=by
 rcases h.2 with⟨h,h0⟩|⟨g,c,oL,h,_⟩
 ·exact⟨none,0,by rw[h,h0]⟩
 ·exact⟨_,_,h⟩
theorem World.rangeAt_of4{V:aF}{g s:Nat}{l:List aP}(h:∀j,j<4→V.cell? ⟨g,s+j,none⟩=l[j]?)(hl:l.length=4:=by rfl):V.rangeAt g s l:=fun j v hv=>by
 have hj:j<4:=by rw[←hl];exact(List.getElem?_eq_some_iff.1 hv).1
 rw[h j hj,hv]
structure CrV(P3 P4 B n:Nat)(bx pl:List aP)(v1 v2:aP)(W:aF):Prop where
 b3:bT W P3 #[v1] 191
 b4:bT W P4 #[v2] 192
 r3:W.ownsRow B 194 4 v1 n bx
 r4:W.ownsRow B 197 2 v2 n pl
theorem CrV.below{P3 P4 B n:Nat}{bx pl:List aP}{v1 v2:aP}{W W':aF}(h:CrV P3 P4 B n bx pl v1 v2 W)(hb:Below W.heap.size W W'):CrV P3 P4 B n bx pl v1 v2 W':=
 ⟨h.b3.below hb h.b3.lt,h.b4.below hb h.b4.lt,bJ h.r3 hb,bJ h.r4 hb⟩
theorem CrV.own{P3 P4 B n:Nat}{bx pl:List aP}{v1 v2:aP}{W W':aF}{row:Option Nat}(h:CrV P3 P4 B n bx pl v1 v2 W)(hg:W.grownBy W' row)(hr:∀r,row=some r→∃o:Obj,W.heap[r]? =some o∧o.isCells=false):CrV P3 P4 B n bx pl v1 v2 W':=
 ⟨h.b3.own hg hr,h.b4.own hg hr,kV h.r3 hg hr,kV h.r4 hg hr⟩
def CrS(P3 P4 B:Nat)(f:Nat→List Sd)(l:List (Nat×Nat))(W:aF):Prop:=∃v1 v2,CrV P3 P4 B l.length (bxs f l) (pls l) v1 v2 W
theorem CrS.below{P3 P4 B:Nat}{f:Nat→List Sd}{l:List (Nat×Nat)}{W W':aF}(h:CrS P3 P4 B f l W)(hb:Below W.heap.size W W'):CrS P3 P4 B f l W':=by
 obtain⟨v1,v2,h⟩:=h;exact⟨v1,v2,h.below hb⟩
theorem CrS.own{β:Type}{P3 P4 B:Nat}{f:Nat→List Sd}{l:β→List (Nat×Nat)}:Own (fun s W=>CrS P3 P4 B f (l s) W):=fun s W W' row h hg hr=>by
 obtain⟨v1,v2,h⟩:=h;exact⟨v1,v2,h.own hg hr⟩
theorem Yf (a : Option cO) (N cap : Nat) (rs : List Rg) (w : aF) (hl : rs.length = N) (hN : N ≤ 1000) (hn : ∀ r, (bF rs r).length ≤ 1000) (rr : GN w a rs) (hc : cE (bF rs) N ≤ 24) (h0 : Db (bF rs) N = false) :
 bE aE 60 #[aD a N cap] w (Rt (aV false) w) := by
 have HR := zq rr
 have HL := zq hl
 have HN := zq hn
 have H0 := zq h0
 have JT : bK (∀ j, j ≤ N → cE (bF rs) j ≤ 24) := fun j hj => aU (oX hj) hc
 clear rr hl hn hc h0
 obtain ⟨W0, eY⟩ := nm ((w.alloc (aN #[aD none 0 0] 191)).alloc (aN #[aD none 0 0] 192))
 obtain ⟨n3, n4, nb⟩ := MO eY
 have hs : CrS w.heap.size (w.heap.size + 1) w.heap.size (bF rs) (BE (bF rs) 0) W0 := ⟨_, _, n3, n4, tG _ _ _ _, tG _ _ _ _⟩
 have HW := zq eY
 have fV := zq nb
 obtain ⟨P3, hP3⟩ := nm w.heap.size
 rw (config := {occs := .pos [1, 2]}) [hP3] at hs
 obtain ⟨P4, hP4⟩ := nm (P3 + 1)
 rw [hP4] at hs
 have HP3 := zq hP3
 have HP4 := zq hP4
 have HS0 := zq hs
 clear eY nb n3 n4 hs
 refine dM func60 rfl ?_
 simp only [ntmps60, cD, bD, bV, dQ, dR, cA, cB, cR, cH, dF, cJ]
 go_upto_region 3 with (fail)
 rw [HW.out]
 clear HW hP3 hP4
 go_wp2
 refine wp_loop (fun a' w' => ∃ (r : Nat) (Ds : List Nat) (u5 u6 u17 u18 u19 u20 u21 u22 u36 : aP), a' = { tmps := #[aD a N cap, aO, aV false, aY (some ⟨P3, 0, none⟩), aY (some ⟨P4, 0, none⟩), u5, u6, aO, aO, aO, aO, aO, aO, aO, aD a N cap, aC aB N, aC aB r, u17, u18, u19, u20, u21, u22, aO, aO, aO, aO, aO, aO, aO, aO, aO, aO, aO, aO, aO, u36, aO, aO, aO, aO, aO, aO, aO, aO, aO, aO, aO, aO, aO, aO, aO, aO, aO, aO, aO, aO, aO, aO, aO, aO, aO, aO, aO, aO, aO, aO, aO, aO, aO, aO, aO, aO, aO, aO, aO, aO, aO, aO, aO, aO, aO, aO, aO, aO, aO, aO, aO, aO, aO, aO, aO, aO, aO, aO, aO, aO, aO, aO, aO, aO, aO], defers := Ds.map mkD } ∧
  r ≤ N ∧ bK (CrS P3 P4 w.heap.size (bF rs) (BE (bF rs) r) w') ∧ bK (Below w.heap.size w w') ∧ bK (Mk w.heap.size w'.heap.size Ds w'))
  (fun a' _ => N - (aK (a'.tmps.getD 16 aO)).toNat) ⟨0, [], aO, aO, aO, aO, aO, aO, aO, aO, aO, rfl, bM _, HS0.out, fV.out, Mk.nil _ _ _⟩ ?_
 clear HS0 fV
 rintro _ wr ⟨r, Ds, u5, u6, u17, u18, u19, u20, u21, u22, u36, rfl, hr, HS, HB, HM⟩
 by_cases hrN : r < N
 ·obtain ⟨b, o, rfl, c0, Pn⟩ := (HR.out.below HB.out).at (i := r) (by rw [HL.out]; exact hrN) rfl
  rw [show (rs.getD r default).ss.length = (bF rs r).length from rfl] at c0
  have ED := zq Pn
  have TZ : bK (∀ p, 0 < (bF rs r).length → (rs.getD r default).a = some p → p.block < w.heap.size) := fun p h0 e => by
   obtain ⟨b', o', e1, -, rs1⟩ := HR.out.at (i := r) (by rw [HL.out]; exact hrN) rfl
   obtain ⟨b2, o2, e2, c⟩ := rs1 0 h0
   rw [e] at e2; injection e2 with e2; subst e2
   exact bB w _ (c 0 (by decide))
  have E1 : bK (BE (bF rs) (r + 1) = BE (bF rs) r ++ Su r (bF rs r).length) := rfl
  have GQ := JT.out (r + 1) hrN
  have E2 : bK (cE (bF rs) (r + 1) = cE (bF rs) r + (bF rs r).length) := rfl
  rw [E2.out] at GQ
  have hal := DI (bF rs) r
  have JV := HN.out r
  rw [show (rs.getD r default).ss = bF rs r from rfl] at ED
  have HF : bK (∀ k, bxC (bF rs) (r, k) = [aC aB (BZ ((bF rs r).getD k default).x (fF (bF rs r) k).x), aC aB (BZ ((bF rs r).getD k default).y (fF (bF rs r) k).y), aC aB (B7 ((bF rs r).getD k default).x (fF (bF rs r) k).x), aC aB (B7 ((bF rs r).getD k default).y (fF (bF rs r) k).y)]) := fun k => rfl
  clear Pn
  obtain ⟨l, hl⟩ := nm (bF rs r)
  rw [hl] at E1 E2 GQ JV ED TZ c0 HF
  obtain ⟨n, yN⟩ := nm l.length
  rw [yN] at E1 E2 GQ JV TZ c0
  have HLn := zq yN
  clear hl yN
  generalize (rs.getD r default).a = ar at *
  generalize (rs.getD r default).cap = cr at *
  obtain ⟨A1, jk⟩ := nm (BE (bF rs) (r + 1))
  rw [jk] at E1
  have Sj := zq jk
  clear jk
  generalize BE (bF rs) r = A0 at *
  generalize cE (bF rs) r = C0 at *
  clear E2
  obtain ⟨W1, rS⟩ := nm (wr.alloc (aN #[aC aB r] 3))
  have hb1 := (aL _ wr).alloc (aH _) (aN #[aC aB r] 3)
  have hq1 := bT.new wr #[aC aB r] 3
  rw [rS] at hb1 hq1
  have HW1 := zq rS
  have L7 := zq (HS.out.below hb1)
  have eC := zq (aQ HB.out hb1)
  have yt := zq ((HM.out.below hb1).grow hb1.size)
  have AY := zq (ED.out.below hb1)
  have vG := zq hq1
  have HP5B : bK (w.heap.size ≤ wr.heap.size) := HB.out.size
  clear rS hb1 hq1 HS HB HM ED
  obtain ⟨P5, hP5⟩ := nm wr.heap.size
  have HP5 : bK (wr.heap.size = P5) := hP5
  go_upto_region 6 with (fail)
  rw [HW1.out]
  clear HW1
  rw [hP5] at vG
  have HPB : bK (P5 < W1.heap.size) := vG.out.lt
  have Zv : bK (w.heap.size ≤ P5) := by rw [← hP5]; exact HP5B.out
  clear hP5
  go_wp2_with fail
  refine (Dc ar n cr W1).mono ?_
  rintro e W3 ⟨rfl, hW3⟩
  have hb3 : Below W1.heap.size W1 W3 := by rw [hW3]; exact (aL _ _).alloc (aH _) _
  have hq3 : bT W3 W1.heap.size #[aD ar n cr] 54 := by rw [hW3]; exact bT.new _ _ _
  have HS3 := zq (L7.out.below hb3)
  have HB3 := zq (aQ eC.out hb3)
  have HM3 := zq ((yt.out.below hb3).grow hb3.size)
  have Fk := zq (AY.out.below hb3)
  have KS := zq hq3
  have HQ53 := zq (vG.out.below hb3 vG.out.lt)
  have HBs : bK (w.heap.size ≤ W1.heap.size) := eC.out.size
  clear hb3 hq3 hW3 L7 eC yt AY vG c0
  generalize W1.heap.size = Bs at *
  go_wp2_with fail
  refine Dd Bs ar n cr l rfl HLn.out JV (KS.out.cell 0) Fk.out
   (fun k W => CrS P3 P4 w.heap.size (bF rs) (A0 ++ Su r k) W ∧ bT W P5 #[aC aB r] 3 ∧ bT W Bs #[aD ar n cr] 54 ∧ Below w.heap.size w W ∧ Mk w.heap.size W3.heap.size Ds W)
   (fun c _ W => False)
   (eO (Own.from CrS.own _) (eO (Own.from (fun s A B row hs hg hr => hs.own hg hr) _) (eO (Own.from (fun s A B row hs hg hr => hs.own hg hr) _) (eO (yY (aH _) HB3.out.size) Mk.from))))
   (fun c _ _ _ _ hs _ _ => hs)
   ⟨by rw [show A0 ++ Su r 0 = A0 from pZ _]; exact HS3.out, HQ53.out, KS.out, HB3.out, HM3.out⟩
   (fun k Q ar' => { tmps := #[aD (some ⟨b, o, none⟩) N cap, aO, aV false, aY (some ⟨P3, 0, none⟩), aY (some ⟨P4, 0, none⟩), aY (some ⟨P5, 0, none⟩), aD ar n cr, aC aB k, aY (some ⟨Q, 0, none⟩), aO, aO, aO, aO, aO, aD (some ⟨b, o, none⟩) N cap, aC aB N, aC aB r, aV true, aC aB r, aY (some ⟨b, o + r, none⟩), aD ar n cr, aD ar n cr, .func (.func 160) #[] #[aY (some ⟨Bs, 0, none⟩)], aC aB k, cF ar', aO, aO, aO, aO, aO, aO, aO, aO, aO, aO, aO, u36, aO, aO, aO, aO, aO, aO, aO, aO, aO, aO, aO, aO, aO, aO, aO, aO, aO, aO, aO, aO, aO, aO, aO, aO, aO, aO, aO, aO, aO, aO, aO, aO, aO, aO, aO, aO, aO, aO, aO, aO, aO, aO, aO, aO, aO, aO, aO, aO, aO, aO, aO, aO, aO, aO, aO, aO, aO, aO, aO, aO, aO, aO, aO, aO, aO], defers := [] })
   (fun ly k p s t W K hk hK => ?_) (fun ly k Q p s t W hk hp hs ht hq Tw NA hI => ?_) (fun D W hD hI hK => ?_) (fun D c k W _ _ h _ => absurd h (fun h => h))
  ·gi_upto_region 8 with (fail)
   refine xN arZ (GP p s t) rfl ?_
   show K _ _
   simpa only [cS, aM, aT, aW] using hK
  ·obtain ⟨h1, h2, h3, h4, h5⟩ := hI
   obtain ⟨v1, v2, h1⟩ := h1
   have hAl : (A0 ++ Su r k).length = C0 + k := by rw [bO, hal, Rm]
   rw [hAl] at h1
   have X1 := zq h1
   have X2 := zq h2
   have X3 := zq h3
   have X4 := zq h4
   have X5 := zq h5
   have XQ := zq hq
   have Xrw := zq NA
   have WM : bK (bxC (bF rs) (r, k) = [aC aB (BZ s.x t.x), aC aB (BZ s.y t.y), aC aB (B7 s.x t.x), aC aB (B7 s.y t.y)]) := by rw [HF.out, hs, ht]; exact zq rfl
   have Hbx := zq (fun W => pl_boxOf p s t W)
   have EB : bK (bxs (bF rs) (A0 ++ Su r (k + 1)) = bxs (bF rs) (A0 ++ Su r k) ++ [aC aB (BZ s.x t.x), aC aB (BZ s.y t.y), aC aB (B7 s.x t.x), aC aB (B7 s.y t.y)]) := by
    show _ = _
    rw [UT, ← A8, bxs_app, show bxs (bF rs) [(r, k)] = bxC (bF rs) (r, k) from pZ _, WM.out]
   have EP : bK (pls (A0 ++ Su r (k + 1)) = pls (A0 ++ Su r k) ++ [aC aB r, aC aB k]) := by
    show _ = _
    rw [UT, ← A8, pls_app]; rfl
   have EL : bK ((A0 ++ Su r (k + 1)).length = C0 + k + 1) := by show _ = _; rw [bO, hal, Rm]; omega
   generalize bxs (bF rs) (A0 ++ Su r k) = bx at *
   generalize pls (A0 ++ Su r k) = pl at *
   generalize BZ s.x t.x = b0 at *
   generalize BZ s.y t.y = b1 at *
   generalize B7 s.x t.x = b2 at *
   generalize B7 s.y t.y = b3 at *
   clear h1 h2 h3 h4 h5 hq NA hp hs ht Tw HF
   have Hp4 : bK (∀ p, 0 < n → ar = some p → p.block < w.heap.size) := TZ.out
   have Hp3 : bK (w.heap.size ≤ P3) := A9 HP3.out
   have Hp5 : bK (w.heap.size ≤ P4) := by have := HP3.out; have := HP4.out; show _ ≤ _; omega
   gi_wp2
   refine Jc (fun d a' w' => ∃ u : Nat → aP, a' = { tmps := #[aD (some ⟨b, o, none⟩) N cap, aO, aV false, aY (some ⟨P3, 0, none⟩), aY (some ⟨P4, 0, none⟩), aY (some ⟨P5, 0, none⟩), aD ar n cr, aC aB k, aY (some ⟨Q, 0, none⟩), aO, aO, aO, aO, aO, aD (some ⟨b, o, none⟩) N cap, aC aB N, aC aB r, aV true, aC aB r, aY (some ⟨b, o + r, none⟩), aD ar n cr, aD ar n cr, .func (.func 160) #[] #[aY (some ⟨Bs, 0, none⟩)], aC aB k, cF (GP p s t), u 0, u 1, u 2, u 3, u 4, u 5, u 6, u 7, u 8, u 9, u 10, u36, aO, aO, aO, aO, aO, aO, aO, aO, aO, aO, aO, aO, aO, aO, aO, aO, aO, aO, aO, aO, aO, aO, aO, aO, aO, aO, aO, aO, aO, aO, aO, aO, aO, aO, aO, aO, aO, aO, aO, aO, aO, aO, aO, aO, aO, aO, aO, aO, aO, aO, aO, aO, aO, aO, aO, aO, aO, aO, aO, aO, aO, aO, aO, aO, aO], defers := [] } ∧ NC (C0 + k) bx pl v1 v2 (aC aB k) #[aC aB b0, aC aB b1, aC aB b2, aC aB b3] #[aC aB r, aC aB k] P3 P4 W3.heap.size Bs ar n cr Ds w W P5 (aC aB r) Q (GP p s t) d u w')
    ⟨fun _ => aO, rfl, ⟨fun _ h => by (cases h), fun h => by (cases h), fun h => by (cases h), X1.out.r3, X1.out.r4, X1.out.b3, X1.out.b4, ⟨(KeepsOthers.drew W).from _, fun _ _ => rfl, X4.out.drew, X5.out, X3.out, X2.out, XQ.out⟩⟩⟩ ?_ ?_
   ·rintro d _ w' i oi ho ⟨u, rfl, H⟩ hd hneed hcl K hK
    have hi : i < 13 := (Array.getElem?_eq_some_iff.1 ho).1
    have hm : ∀ k, List.elem k (Ez .any _ i) = true → d k = true := fun k h => hneed k (List.elem_iff.1 h)
    have hu : ∀ j, List.elem i (Ez .any _ j) = true → d j = false := fun j h => by
     cases e : d j with
     | false => rfl
     | true => have := hcl j e i (List.elem_iff.1 h); rw [hd] at this; cases this
    clear hneed hcl
    obtain rfl | rfl | rfl | rfl | rfl | rfl | rfl | rfl | rfl | rfl | rfl | rfl | rfl : i = 0 ∨ i = 1 ∨ i = 2 ∨ i = 3 ∨ i = 4 ∨ i = 5 ∨ i = 6 ∨ i = 7 ∨ i = 8 ∨ i = 9 ∨ i = 10 ∨ i = 11 ∨ i = 12 := by omega
    ·obtain rfl := eG ho
     rw [ip (by kernel_rfl)]
     have c3 := H.b3.cell 0
     rw [hu 11 (by kernel_rfl)] at c3
     simp only [aJ, aI, bS, if_false] at c3
     exact Fm (v := v1) (w' := w') (by go_simp) (hK _ _ ⟨K9 u 0 _, rfl, H.quiet Xrw.out 0 _ (by omega) rfl (aL _ _)⟩)
    ·obtain rfl := eG ho
     rw [ip (by kernel_rfl)]
     exact op_load 140 Q 0 (GP p s t) (H.k.k7.range 0 21 rfl) (hK _ _ ⟨K9 u 1 _, rfl, H.quiet Xrw.out 1 _ (by omega) rfl (aL _ _)⟩)
    ·obtain rfl := eG ho
     rw [ip (by kernel_rfl)]
     have e1 : u 1 = cF (GP p s t) := H.vals 1 (hm 1 (by kernel_rfl))
     have hd1 : ZS d 1 = d := funext fun j => by
      unfold ZS
      by_cases e : j = 1
      ·rw [ip e, e, hm 1 (by kernel_rfl)]
      ·rw [iN e]
     have H1 := H.quiet Xrw.out 1 (cF (GP p s t)) (by omega) rfl (aL _ _)
     rw [hd1] at H1
     have HK := zq hK
     have HX := zq H1
     clear hK H H1 hd1 hm hu
     go_simp
     refine ⟨trivial, callsIn_wide.2 ((Hbx.out _).mono ?_)⟩
     rintro e w2 ⟨rfl, hb⟩
     exact HK.out _ _ ⟨K9 (K9 u 1 (cF (GP p s t))) 2 _, rfl, HX.out.quiet Xrw.out 2 _ (by omega) rfl hb⟩
    ·obtain rfl := eG ho
     rw [ip (by kernel_rfl)]
     have e2 : u 2 = cF #[aC aB b0, aC aB b1, aC aB b2, aC aB b3] := H.vals 2 (hm 2 (by kernel_rfl))
     exact Fm (v := aD (some ⟨w'.heap.size, 0, none⟩) 1 1) (w' := w'.alloc (aN #[aC aB b0, aC aB b1, aC aB b2, aC aB b3] 194)) (by go_simp) (hK _ _ ⟨K9 u 3 _, rfl, H.made3 Xrw.out⟩)
    ·obtain rfl := eG ho
     rw [ip (by kernel_rfl)]
     have e0 : u 0 = v1 := H.vals 0 (hm 0 (by kernel_rfl))
     obtain ⟨g, e3, hG⟩ := H.m3 (hm 3 (by kernel_rfl)) hd
     have r3 := H.r3
     rw [hd] at r3
     simp only [bS, if_false] at r3
     obtain ⟨i0, hi0, yH, zB, sS⟩ := lI info_box
     exact Jd _ _ 191 rfl w.heap.size 194 i0 _ 4 32 underlying191 hi0 yH zB sS rfl (by decide) v1 (C0 + k) bx e0 r3 ⟨g, 0, none⟩ 1 1 [aC aB b0, aC aB b1, aC aB b2, aC aB b3] e3 rfl (fun j u hj => by rw [oK, cC, hG.cell]; simpa using hj) (by simp [kA]) (by unfold Cm; omega) (by omega) H.k.k3.size
      (fun v' w2 ho hg => hK _ _ ⟨K9 u 4 _, rfl, H.app4 Hp4.out (hu 11 (by kernel_rfl)) ho hd hg⟩)
    ·obtain rfl := eG ho
     rw [ip (by kernel_rfl)]
     have c3 := H.b4.cell 0
     rw [hu 12 (by kernel_rfl)] at c3
     simp only [aJ, aI, bS, if_false] at c3
     exact Fm (v := v2) (w' := w') (by go_simp) (hK _ _ ⟨K9 u 5 _, rfl, H.quiet Xrw.out 5 _ (by omega) rfl (aL _ _)⟩)
    ·obtain rfl := eG ho
     rw [ip (by kernel_rfl)]
     have c3 := H.k.k6.cell 0
     simp only [aJ, aI] at c3
     exact Fm (v := aC aB r) (w' := w') (by go_simp) (hK _ _ ⟨K9 u 6 _, rfl, H.quiet Xrw.out 6 _ (by omega) rfl (aL _ _)⟩)
    ·obtain rfl := eG ho
     rw [ip (by kernel_rfl)]
     exact Fm (v := aC aB k) (w' := w') (by go_simp) (hK _ _ ⟨K9 u 7 _, rfl, H.quiet Xrw.out 7 _ (by omega) rfl (aL _ _)⟩)
    ·obtain rfl := eG ho
     rw [ip (by kernel_rfl)]
     have e6 : u 6 = aC aB r := H.vals 6 (hm 6 (by kernel_rfl))
     have e7 : u 7 = aC aB k := H.vals 7 (hm 7 (by kernel_rfl))
     exact Fm (v := cF #[aC aB r, aC aB k]) (w' := w') (by go_simp) (hK _ _ ⟨K9 u 8 _, rfl, H.quiet Xrw.out 8 _ (by omega) rfl (aL _ _)⟩)
    ·obtain rfl := eG ho
     rw [ip (by kernel_rfl)]
     have e2 : u 8 = cF #[aC aB r, aC aB k] := H.vals 8 (hm 8 (by kernel_rfl))
     exact Fm (v := aD (some ⟨w'.heap.size, 0, none⟩) 1 1) (w' := w'.alloc (aN #[aC aB r, aC aB k] 197)) (by go_simp) (hK _ _ ⟨K9 u 9 _, rfl, H.made9 Xrw.out⟩)
    ·obtain rfl := eG ho
     rw [ip (by kernel_rfl)]
     have e0 : u 5 = v2 := H.vals 5 (hm 5 (by kernel_rfl))
     obtain ⟨g, e3, hG⟩ := H.m9 (hm 9 (by kernel_rfl)) hd
     have r3 := H.r4
     rw [hd] at r3
     simp only [bS, if_false] at r3
     obtain ⟨i0, hi0, yH, zB, sS⟩ := lI Ye
     exact Jd _ _ 192 rfl w.heap.size 197 i0 _ 2 16 underlying192 hi0 yH zB sS rfl (by decide) v2 (C0 + k) pl e0 r3 ⟨g, 0, none⟩ 1 1 [aC aB r, aC aB k] e3 rfl (fun j u hj => by rw [oK, cC, hG.cell]; simpa using hj) (by simp [kA]) (by unfold Cm; omega) (by omega) H.k.k3.size
      (fun v' w2 ho hg => hK _ _ ⟨K9 u 10 _, rfl, H.app10 Hp4.out (hu 12 (by kernel_rfl)) (hm 4 (by kernel_rfl)) ho hd hg⟩)
    ·obtain rfl := eG ho
     rw [ip (by kernel_rfl)]
     have h4 := hm 4 (by kernel_rfl)
     have kn := hm 10 (by kernel_rfl)
     have r3 := H.r3
     rw [h4] at r3
     simp only [if_true] at r3
     obtain ⟨g, c, e4⟩ := oN (Nat.succ_pos _) r3
     have z3 := H.b3.fz 0
     have c3 := H.b3.cell 0
     simp only [aJ, aI] at c3
     exact ZM (w' := w'.setCell ⟨P3, 0, none⟩ (u 4)) (by rw [e4]; go_simp) (hK _ _ ⟨K9 u 11 aO, rfl, H.sto11 Hp4.out Hp3.out _ h4 kn⟩)
    ·obtain rfl := eG ho
     rw [ip (by kernel_rfl)]
     have h4 := hm 4 (by kernel_rfl)
     have kn := hm 10 (by kernel_rfl)
     have r3 := H.r4
     rw [kn] at r3
     simp only [if_true] at r3
     obtain ⟨g, c, e4⟩ := oN (Nat.succ_pos _) r3
     have z3 := H.b4.fz 0
     have c3 := H.b4.cell 0
     simp only [aJ, aI] at c3
     exact ZM (w' := w'.setCell ⟨P4, 0, none⟩ (u 10)) (by rw [e4]; go_simp) (hK _ _ ⟨K9 u 12 aO, rfl, H.sto12 Hp4.out Hp5.out _ h4 kn⟩)
   ·rintro d _ w' ⟨u, rfl, H⟩ hall
    have h4 := hall 4 (by decide)
    have kn := hall 10 (by decide)
    have h11 := hall 11 (by decide)
    have kj := hall 12 (by decide)
    have r3 := H.r3
    have r4 := H.r4
    have b3 := H.b3
    have b4 := H.b4
    rw [h4] at r3
    rw [kn] at r4
    rw [h11] at b3
    rw [kj] at b4
    simp only [if_true] at r3 r4 b3 b4
    have HK := zq H.k
    have HV := zq (CrV.mk b3 b4 r3 r4)
    clear H hall r3 r4 b3 b4 h4 kn h11 kj
    gi_wp2
    refine ⟨HK.out.k1, HK.out.k2, ⟨u 4, u 10, ?_⟩, HK.out.k6, HK.out.k5, HK.out.k3, HK.out.k4⟩
    rw [EB.out, EP.out, EL.out]
    exact HV.out
  ·obtain ⟨h1, h2, h3, h4, h5⟩ := hI
   have X1 : bK (CrS P3 P4 w.heap.size (bF rs) A1 W) := by rw [E1.out]; exact h1
   rw [← Sj.out] at X1
   have X4 := zq h4
   have X5 := zq (h5.cons (aU HBs.out (jS KS.out.lt)) hD hK)
   clear h1 h2 h3 h4 h5
   go_wp2
   go_roundw
   ·exact ⟨r + 1, D :: Ds, _, _, _, _, _, _, _, _, _, rfl, hrN, X1.out, X4.out, X5.out⟩
   ·show N - ((r : Int) + 1).toNat < N - (r : Int).toNat
    omega
 ·obtain rfl : N = r := by omega
  obtain ⟨v1, v2, hv⟩ := HS.out
  rw [DI] at hv
  obtain ⟨a3, k3, rfl⟩ := Dg hv.r3
  obtain ⟨a4, k4, rfl⟩ := Dg hv.r4
  have c3 := hv.b3.cell 0
  have c4 := hv.b4.cell 0
  have HV := zq hv
  have GQ := JT.out N (aH _)
  simp only [aJ, aI] at c3 c4
  have Er := DI (bF rs) N
  have HG : bK (∀ i, i < cE (bF rs) N → ((BE (bF rs) N).getD i default).1 < N ∧ ((BE (bF rs) N).getD i default).2 < (bF rs ((BE (bF rs) N).getD i default).1).length) := fun i hi => GV (bU (by omega) default)
  have HCr : bK (∀ i k, k < i → i < cE (bF rs) N → nbI ((BE (bF rs) N).getD i default).1 ((BE (bF rs) N).getD k default).1 ((BE (bF rs) N).getD i default).2 ((BE (bF rs) N).getD k default).2 (bF rs ((BE (bF rs) N).getD i default).1).length = false → mtB (bF rs) ((BE (bF rs) N).getD i default) ((BE (bF rs) N).getD k default) = false) := fun i k h1 h2 => crs_law H0.out h1 h2
  have zU : bK (∀ i j, i < cE (bF rs) N → j < 4 → (bxs (bF rs) (BE (bF rs) N))[i * 4 + j]? = (bxC (bF rs) ((BE (bF rs) N).getD i default))[j]?) := fun i j hi hj => Rn (z := 4) (fun _ => rfl) _ i j (by omega) hj
  have HPc : bK (∀ i j, i < cE (bF rs) N → j < 2 → (pls (BE (bF rs) N))[i * 2 + j]? = (plC ((BE (bF rs) N).getD i default))[j]?) := fun i j hi hj => Rn (z := 2) (fun _ => rfl) _ i j (by omega) hj
  have HM0 := zq Er
  clear hv Er HS
  generalize BE (bF rs) N = L at *
  obtain ⟨M, hM⟩ := nm (cE (bF rs) N)
  rw [hM] at HV HG HCr zU HPc HM0 GQ c3 c4
  clear hM JT H0
  generalize bxs (bF rs) L = bx at *
  generalize pls L = pl at *
  go_wp2
  go_loopw [39] (fun i wi => ∃ q : Nat, i = aC aB q ∧ q ≤ M ∧ bK (CrV P3 P4 w.heap.size M bx pl (aD a3 M k3) (aD a4 M k4) wi) ∧ bK (Below w.heap.size w wi) ∧ bK (Mk w.heap.size wi.heap.size Ds wi)) (fun i _ => M - (aK i).toNat)
  case atStart => exact ⟨0, rfl, bM _, HV.out, HB.out, HM.out⟩
  case round =>
   clear c3 c4 HV HB HM
   obtain ⟨i, rfl, hi, HV, HB, HM⟩ := hrel
   rename aF => wi
   by_cases hiM : i < M
   ·have hiI : (i : Int) < M := by omega
    go_wp2
    go_loopw [43] (fun j wi => ∃ q : Nat, j = aC aB q ∧ q ≤ i ∧ bK (CrV P3 P4 w.heap.size M bx pl (aD a3 M k3) (aD a4 M k4) wi) ∧ bK (Below w.heap.size w wi) ∧ bK (Mk w.heap.size wi.heap.size Ds wi)) (fun j _ => i - (aK j).toNat)
    case atStart => exact ⟨0, rfl, bM _, HV.out, HB.out, HM.out⟩
    case round =>
     clear HV HB HM
     obtain ⟨k, rfl, hk, HV, HB, HM⟩ := hrel
     rename aF => wk
     by_cases hki : k < i
     ·obtain ⟨g3, k3', e⟩ := oN (by omega) HV.out.r3
      cases e
      obtain ⟨g4, k4', e⟩ := oN (by omega) HV.out.r4
      cases e
      obtain ⟨hp1, hp2⟩ := HG.out i hiM
      have HCp := zq (HCr.out i k hki hiM)
      have p0 := (HV.out.r4.cellAt (i * 2 + 0) (by omega)).trans (HPc.out i 0 hiM (by decide))
      have p1 := (HV.out.r4.cellAt (i * 2 + 1) (by omega)).trans (HPc.out i 1 hiM (by decide))
      have q0 := (HV.out.r4.cellAt (k * 2 + 0) (by omega)).trans (HPc.out k 0 (by omega) (by decide))
      have q1 := (HV.out.r4.cellAt (k * 2 + 1) (by omega)).trans (HPc.out k 1 (by omega) (by decide))
      have HRi := zq (fun (V : aF) (h : V.ownsRow w.heap.size 194 4 (aD (some ⟨g3, 0, none⟩) M k3) M bx) => (World.rangeAt_of4 (fun j hj => (h.cellAt (i * 4 + j) (by omega)).trans (zU.out i j hiM hj)) : V.rangeAt g3 (i * 4) (bxC (bF rs) (L.getD i default))))
      have HRk := zq (fun (V : aF) (h : V.ownsRow w.heap.size 194 4 (aD (some ⟨g3, 0, none⟩) M k3) M bx) => (World.rangeAt_of4 (fun j hj => (h.cellAt (k * 4 + j) (by omega)).trans (zU.out k j (by omega) hj)) : V.rangeAt g3 (k * 4) (bxC (bF rs) (L.getD k default))))
      obtain ⟨b, o, rfl, f0, -⟩ := (HR.out.below HB.out).at (i := (L.getD i default).1) (by rw [HL.out]; exact hp1) rfl
      rw [show (rs.getD (L.getD i default).1 default).ss.length = (bF rs (L.getD i default).1).length from rfl] at f0
      have JV := HN.out (L.getD i default).1
      have zu := HN.out (L.getD k default).1
      have Nw := (HG.out k (by omega)).2
      have hq1 := (HG.out k (by omega)).1
      have c3 := HV.out.b3.cell 0
      have c4 := HV.out.b4.cell 0
      simp only [aJ, aI] at c3 c4
      rw [show i * 2 + 0 = i * 2 from rfl, show (plC (L.getD i default))[0]? = some (aC aB ((L.getD i default).1 : Nat)) from rfl] at p0
      rw [show (plC (L.getD i default))[1]? = some (aC aB ((L.getD i default).2 : Nat)) from rfl] at p1
      rw [show k * 2 + 0 = k * 2 from rfl, show (plC (L.getD k default))[0]? = some (aC aB ((L.getD k default).1 : Nat)) from rfl] at q0
      rw [show (plC (L.getD k default))[1]? = some (aC aB ((L.getD k default).2 : Nat)) from rfl] at q1
      have Hmt := zq (fun V => pl_meets (BZ ((bF rs (L.getD i default).1).getD (L.getD i default).2 default).x (fF (bF rs (L.getD i default).1) (L.getD i default).2).x) (BZ ((bF rs (L.getD i default).1).getD (L.getD i default).2 default).y (fF (bF rs (L.getD i default).1) (L.getD i default).2).y) (B7 ((bF rs (L.getD i default).1).getD (L.getD i default).2 default).x (fF (bF rs (L.getD i default).1) (L.getD i default).2).x) (B7 ((bF rs (L.getD i default).1).getD (L.getD i default).2 default).y (fF (bF rs (L.getD i default).1) (L.getD i default).2).y) (BZ ((bF rs (L.getD k default).1).getD (L.getD k default).2 default).x (fF (bF rs (L.getD k default).1) (L.getD k default).2).x) (BZ ((bF rs (L.getD k default).1).getD (L.getD k default).2 default).y (fF (bF rs (L.getD k default).1) (L.getD k default).2).y) (B7 ((bF rs (L.getD k default).1).getD (L.getD k default).2 default).x (fF (bF rs (L.getD k default).1) (L.getD k default).2).x) (B7 ((bF rs (L.getD k default).1).getD (L.getD k default).2 default).y (fF (bF rs (L.getD k default).1) (L.getD k default).2).y) V)
      unfold mtB at HCp
      unfold bxV at Hmt
      unfold bxC at HRi HRk
      generalize BZ ((bF rs (L.getD i default).1).getD (L.getD i default).2 default).x _ = a0 at *
      generalize BZ ((bF rs (L.getD i default).1).getD (L.getD i default).2 default).y _ = a1 at *
      generalize B7 ((bF rs (L.getD i default).1).getD (L.getD i default).2 default).x _ = a2 at *
      generalize B7 ((bF rs (L.getD i default).1).getD (L.getD i default).2 default).y _ = a3 at *
      generalize BZ ((bF rs (L.getD k default).1).getD (L.getD k default).2 default).x _ = b0 at *
      generalize BZ ((bF rs (L.getD k default).1).getD (L.getD k default).2 default).y _ = b1 at *
      generalize B7 ((bF rs (L.getD k default).1).getD (L.getD k default).2 default).x _ = b2 at *
      generalize B7 ((bF rs (L.getD k default).1).getD (L.getD k default).2 default).y _ = b3 at *
      generalize (rs.getD (L.getD i default).1 default).a = ar at *
      generalize (rs.getD (L.getD i default).1 default).cap = cr at *
      generalize (bF rs (L.getD i default).1).length = n at *
      generalize (bF rs (L.getD k default).1).length = n2 at *
      generalize (L.getD i default).1 = r at *
      generalize (L.getD k default).1 = r2 at *
      generalize (L.getD i default).2 = s at *
      generalize (L.getD k default).2 = s2 at *
      have hx : bK ((((r : Int) == (r2 : Int)) = false ∨ ((r : Int) == (r2 : Int)) = true ∧ ((s : Int) - s2 == 1) = false ∧ ((s : Int) - s2 == (n : Int) - 1) = false) ∧ nbI r r2 s s2 n = false ∨
       (((r : Int) == (r2 : Int)) = true ∧ (((s : Int) - s2 == 1) = true ∨ ((s : Int) - s2 == 1) = false ∧ ((s : Int) - s2 == (n : Int) - 1) = true)) ∧ nbI r r2 s s2 n = true) := by
       show _ ∨ _
       unfold nbI
       rw [BB (a := (r : Int)) (b := r2) (p := r = r2) (by omega), BB (a := (s : Int) - s2) (b := 1) (p := (s : Int) - s2 = 1) Iff.rfl, BB (a := (s : Int) - s2) (b := (n : Int) - 1) (p := (s : Int) - s2 = (n : Int) - 1) Iff.rfl]
       cases decide (r = r2) <;> cases decide ((s : Int) - s2 = 1) <;> cases decide ((s : Int) - s2 = (n : Int) - 1) <;> simp
      have w1 : IntKind.i64.wrap ((s : Int) - s2) = (s : Int) - s2 := bI _ (by omega)
      have w2 : IntKind.i64.wrap ((n : Int) - 1) = (n : Int) - 1 := bI _ (by omega)
      have v1 : (i : Int) < M := by omega
      have v2 : (k : Int) < M := by omega
      have v3 : (r : Int) < N := by omega
      have v4 : (k : Int) < i := by omega
      have HCx : bK (nbI r r2 s s2 n = false → _) := HCp
      clear HCp HG HCr zU HPc JV zu Nw hq1 hp1 hp2
      rcases hx.out with ⟨hq, hz⟩ | ⟨hq, hz⟩
      ·rcases hq with h1 | ⟨h1, h2, h3⟩
       all_goals
        clear hx
        go_wp2
        go_quiet (fail)
        go_wp2
        go_quiet (fail)
        go_wp2
        refine qU 13 (fun _ => .quiet) (fun V => V.cell? ⟨P3, 0, none⟩ = some (aD (some ⟨g3, 0, none⟩) M k3) ∧ V.rangeAt g3 (i * 4) [aC aB a0, aC aB a1, aC aB a2, aC aB a3] ∧ V.rangeAt g3 (k * 4) [aC aB b0, aC aB b1, aC aB b2, aC aB b3]) ⟨c3, HRi.out _ HV.out.r3, HRk.out _ HV.out.r3⟩ ?_
         (st := fun w1 w2 h hb => ⟨tC hb HV.out.b3.lt h.1, fun j v hv => tC hb (HV.out.r3.lt _ rfl).2 (h.2.1 j v hv), fun j v hv => tC hb (HV.out.r3.lt _ rfl).2 (h.2.2 j v hv)⟩)
        refine qS 0 rfl (pu ?_)
        refine qS 1 rfl (pu ?_)
        refine qS 2 rfl (pu ?_)
        refine qS 3 rfl (pu ?_)
        refine qS 4 rfl (pu ?_)
        refine qS 5 rfl (pu ?_)
        refine qR 6 g3 (i * 4) #[aC aB a0, aC aB a1, aC aB a2, aC aB a3] (fun V h => h.1.2.1) rfl (pu ?_)
        refine qS 7 rfl (pu ?_)
        refine qS 8 rfl (pu ?_)
        refine qS 9 rfl (pu ?_)
        refine qR 10 g3 (k * 4) #[aC aB b0, aC aB b1, aC aB b2, aC aB b3] (fun V h => h.1.2.2) rfl (pu ?_)
        refine qC 11 (fun V _ => Hmt.out V) rfl (pu ?_)
        rw [HCx.out hz]
        refine qS 12 rfl (pu ?_)
        refine qE fun V hV _ => ?_
        have rU : Below wk.heap.size wk V := (eF (eF (aL _ wk) _) _).trans hV.b
        have XV := zq (HV.out.below rU)
        have XB := zq (aQ HB.out rU)
        have XM := zq ((HM.out.below rU).top)
        clear hV rU
        go_wp2
        go_roundw
        case rel => exact ⟨k + 1, by go_num, by omega, XV.out, XB.out, XM.out⟩
        case measure => simp only [aK]; omega
      ·rcases hq with ⟨h1, (h2 | ⟨h2, h3⟩)⟩
       all_goals
        clear hx
        go_wp2
        go_quiet (fail)
        go_wp2
        go_quiet (fail)
        go_wp2
        refine qU 13 (fun _ => .quiet) (fun V => True) trivial ?_ (st := fun w1 w2 h hb => trivial)
        refine qS 0 rfl (pu ?_)
        refine qS 1 rfl (pu ?_)
        refine qS 2 rfl (pu ?_)
        refine ZL 3 rfl (pu ?_)
        refine ZL 4 rfl (pu ?_)
        refine ZL 5 rfl (pu ?_)
        refine ZL 6 rfl (pu ?_)
        refine ZL 7 rfl (pu ?_)
        refine ZL 8 rfl (pu ?_)
        refine ZL 9 rfl (pu ?_)
        refine ZL 10 rfl (pu ?_)
        refine ZL 11 rfl (pu ?_)
        refine qS 12 rfl (pu ?_)
        refine qE fun V hV _ => ?_
        have rU : Below wk.heap.size wk V := (eF (eF (aL _ wk) _) _).trans hV.b
        have XV := zq (HV.out.below rU)
        have XB := zq (aQ HB.out rU)
        have XM := zq ((HM.out.below rU).top)
        clear hV rU
        go_wp2
        go_roundw
        case rel => exact ⟨k + 1, by go_num, by omega, XV.out, XB.out, XM.out⟩
        case measure => simp only [aK]; omega
     ·obtain rfl : i = k := by omega
      go_wp2
      go_roundw
      case rel => exact ⟨i + 1, by go_num, by omega, HV.out, HB.out, HM.out⟩
      case measure => simp only [aK]; omega
   ·obtain rfl : M = i := by omega
    go_wp2
    exact Yd (Ds := Ds) rfl HM.out (fun V => Below w.heap.size w V) HB.out (fun V X hX hV hx => hV.trans (qV hX hx))
     (fun V hV => ⟨iS rfl _ _ _, rfl, hV⟩)
end
end
section
open Go.Shelf
def Tryz.grS_ren:iK:=⟨fun |4=>124|n=>n,fun |22=>54|25=>56|3=>3|4=>4|9=>9|20=>20|0=>0|n=>n,fun |n=>n⟩
theorem Tryz.grS:zY aE Tryz.grS_ren:={
 mixed:=by kernel_rfl
 f4:=⟨Tryz.f124.name,by decide,func124.trans (congrArg some (by kernel_rfl))⟩
 t0:=underlying0
 a0:=isAgg0
 z0:=sizeOf0
 v0:=zeroValue0
 t3:=underlying3
 a3:=isAgg3
 z3:=sizeOf3
 v3:=zeroValue3
 t4:=underlying4
 a4:=isAgg4
 z4:=sizeOf4
 v4:=zeroValue4
 t9:=underlying9
 a9:=isAgg9
 z9:=sizeOf9
 v9:=zeroValue9
 t20:=underlying20
 a20:=isAgg20
 z20:=sizeOf20
 v20:=zeroValue20
 t22:=KK
 a22:=isAgg54
 z22:=sizeOf54
 v22:=zeroValue54}
open Go Go.RowKit Go.Lib Go.Shelf
def Sl.ok7(l:Sl):Prop:=l.cs.length=l.len*7∧∀u∈l.cs,u.oneCell'=true
theorem Pu:(Tryz.prog.info? 56).map (fun i=>(i.zero,i.size,i.bytes))=some (some (cF #[aC aB 0,aC aB 0,aC aB 0,aC aB 0,aV false,aC aB 0,aC aB 0]),7,56):=by kernel_rfl
theorem growS(n:Nat)(w:aF)(h0:0<n)(hn:n≤100000000):
 bE aE 124 #[aD none 0 0,aC aB n] w fun e w'=>(∃g cap,e=bA (aD (some ⟨g,0,none⟩) 0 cap)∧w'.ownsRow w.heap.size 56 7 (aD (some ⟨g,0,none⟩) 0 cap) 0 [])∧Below w.heap.size w w':=by
 obtain⟨i0,hi,yH,zB,sS⟩:=lI Pu;have H:=Any8.slices_Grow_grow Tryz.grS i0 (cF #[aC aB 0,aC aB 0,aC aB 0,aC aB 0,aV false,aC aB 0,aC aB 0]) hi yH (by rw[zB];decide) none 0 0 n [] w (aH _) (by omega) (by rw[sS];omega) (by omega) (by simp) (fun _=>rfl) (fun a e=>(by cases e));refine Calls.mono H ?_;rintro e w'⟨rfl,rfl⟩;refine⟨⟨w.heap.size,_,rfl,rfl,.inr ⟨w.heap.size,_,_,rfl,aH _,World.alloc_heap_new w.drew _,bM _,?_,?_,rfl⟩⟩,((aL _ w).drew.alloc (by simp) _)⟩
 ·exact grownCap_le_maxLen w _ _ _ (by unfold Cm;omega)
 ·have:=grownCap_ge w (0+n) 0 (Tryz.grS_ren.t 25);rw[mS,mS,zS,zS];simp only[Value.cells,cD,bD,bV];generalize grownCap w (0+n) 0 (Tryz.grS_ren.t 25)=c at *;omega
theorem appS{w:aF}{cM:Array Oper}{rest:List Oper}{o:Oper}{a:Act}{Q:Exit→Act→aF→Prop}(FN:o.guard=none)(s x:Operand)
 (ho:o.op=.call {callee:=.builtin .append,args:= #[s,x],argTypes:= #[54,54]})(cL:Nat)
 (gv cv n:Nat)(xs:List aP)(hs:a.eval s=aD (some ⟨gv,0,none⟩) n cv)(dI:w.ownsRow cL 56 7 (aD (some ⟨gv,0,none⟩) n cv) n xs)
 (l:Sl)(hx:a.eval x=l.v)(hl:l.ok7)(hr:l.Rd w)(Np:n+l.len≤100000000)(jH:cL≤w.heap.size)
 (h:∀g cap w',w'.ownsRow cL 56 7 (aD (some ⟨g,0,none⟩) (n+l.len) cap) (n+l.len) (xs++l.cs)→cL≤g→w.grownBy w' (some gv)→
  wpList aE cM Q rest (a.put o.dst (aD (some ⟨g,0,none⟩) (n+l.len) cap)) w'):
 wpList aE cM Q (o::rest) a w:=by
 obtain⟨i0,hi,yH,zB,sS⟩:=lI Pu;refine wpList_append_own _ FN s x 54 ho cL 56 i0 (cF #[aC aB 0,aC aB 0,aC aB 0,aC aB 0,aV false,aC aB 0,aC aB 0]) 7 56 KK hi yH zB sS rfl (by decide) _ n xs hs dI ⟨l.b,l.off,none⟩ l.len l.cap l.cs hx hl.1 (fun j u hj=>by rw[oK];exact hr j u hj) hl.2
  (by unfold Cm;omega) (by omega) jH ?_
 intro v' w' lL hg Iu;rcases lL.2 with⟨h1,h2⟩|⟨g',FO,oL,hv,h3,-⟩
 ·have:=(Iu.1 h1).1;cases this
 ·subst hv;exact h g' FO w' lL h3 hg
theorem concatS(a:Option cO)(n ca:Nat)(ls:List Sl)(w:aF)(hl:ls.length=n)(hn:n≤1000)(nL:∀l∈ls,l.len≤10000∧l.ok7)(hpos:0<gO ls n)(rl:RdS w a ls):
 bE aE 54 #[aD a n ca] w fun e w'=>(∃g cap,e=bA (aD (some ⟨g,0,none⟩) (gO ls n) cap)∧w'.ownsRow w.heap.size 56 7 (aD (some ⟨g,0,none⟩) (gO ls n) cap) (gO ls n) (sT ls))∧Below w.heap.size w w':=by
 have Cd:∀i,i<n→(ls.getD i default).len≤10000∧(ls.getD i default).ok7:=fun i hi=>nL _ (bU (by omega) default);have Kl:∀k,k≤n→gO ls k≤k*10000:=fun k hk=>KQ (fun i hi=>(Cd i (by omega)).1) k hk;have Bo:∀k,k≤n→gO ls k≤10000000:=fun k hk=>by have:=Kl k hk;have:k*10000≤1000*10000:=Nat.mul_le_mul_right _ (by omega);omega
 have HA:bK (∀k,k<n→sT (ls.take (k+1))=sT (ls.take k)++(ls.getD k default).cs):=fun k hk=>IV (by omega);have HAn:bK (sT (ls.take n)=sT ls):=by show _=_;rw[List.take_of_length_le (by omega)]
 have Hm:bK (∀k,k<n→gO ls (k+1)=gO ls k+(ls.getD k default).len):=fun k _=>rfl;have Hb:=zq Bo;have Hok:=zq Cd;have Hl:=zq hl;have Rl:=zq rl;have HG:=zq (fun W=>growS (gO ls n) W hpos (by have:=Bo n (aH _);omega));have hbn:=Bo n (aH _);clear hl nL rl Kl Bo Cd;go_enter func54,ntmps54;go_wp2;go_loop [3,11] (fun s i=>∃k:Nat,i=aC aB k∧k≤n∧s=aC aB (gO ls k:Nat)) (fun _ i=>n-(aK i).toNat);case atStart=>exact⟨0,rfl,bM _,rfl⟩
 case round=>
  obtain⟨k,rfl,hk,rfl⟩:=hrel;by_cases hlt:k<n
  ·obtain⟨lb,lo,rfl,c0,-⟩:=Rl.out k (by rw[Hl.out];exact hlt);have b1:=Hb.out k hk;have b2:=Hb.out (k+1) hlt;have e2:=Hm.out k hlt;have HE:=zq e2;rw[e2]at b2;clear e2;generalize ls.getD k default=l at *;unfold Sl.v at c0;generalize l.len=m at *;generalize l.b=la at *;generalize l.off=lof at *;generalize l.cap=lc at *;obtain⟨s1,tL⟩:∃s,gO ls (k+1)=s:=⟨_,rfl⟩;rw[tL]at HE;have L7:=zq tL;clear tL;generalize gO ls k=s0 at *;go_wp2;go_round;case rel=>exact⟨k+1,by go_num,by omega,by rw[L7.out,HE.out];go_num⟩
   case measure=>simp only[aK];omega
  ·obtain rfl:n=k:=by omega
   obtain⟨N,hN⟩:∃N,gO ls n=N:=⟨_,rfl⟩;rw[hN]at HG hbn⊢;have HN:=zq hN;clear hN hpos;go_wp2_with fail
   refine(HG.out _).mono ?_;rintro e W1⟨⟨g0,Xh,rfl,CM⟩,hb1⟩;have eC:=zq hb1;have LC:=zq CM;clear hb1 CM HG;go_wp2;go_loopw[6,27] (fun o i wr=>∃(k g cap:Nat),i=aC aB k∧k≤n∧o=aD (some ⟨g,0,none⟩) (gO ls k) cap∧bK (wr.ownsRow w.heap.size 56 7 (aD (some ⟨g,0,none⟩) (gO ls k) cap) (gO ls k) (sT (ls.take k)))∧bK (Below w.heap.size w wr)) (fun _ i _=>n-(aK i).toNat);case atStart=>exact⟨0,g0,Xh,rfl,bM _,rfl,LC.out,eC.out⟩
   case round=>
    clear eC LC;obtain⟨k,g,cap,rfl,hk,rfl,pU,HB⟩:=hrel;by_cases hlt2:k<n
    ·obtain⟨lb,lo,rfl,c0,rp⟩:=(Rl.out.below HB.out) k (by rw[Hl.out];exact hlt2);have HE:=zq (Hm.out k hlt2);have b2:=Hb.out (k+1) hlt2;rw[HE.out]at b2;have OB:=zq (HA.out k hlt2);have Rp:=zq rp;have Ok:=zq (Hok.out k hlt2).2;clear rp;generalize ls.getD k default=l at *;obtain⟨lbb,lof,m,lc,cs⟩:=l;unfold Sl.v at c0;simp only[]at *;obtain⟨s1,tL⟩:∃s,gO ls (k+1)=s:=⟨_,rfl⟩;rw[tL]at HE;have L7:=zq tL;clear tL;generalize gO ls k=s0 at *;have dI:=pU.out;have NT:=HB.out.size;have hb3:s0+m≤100000000:=by omega
     go_wp2_with (at_builtin;refine appS rfl _ _ rfl w.heap.size g cap s0 _ rfl dI ⟨lbb,lof,m,lc,cs⟩ rfl Ok.out Rp.out hb3 NT ?_;intro g5 LR w5 iV Zr oS;simp only[]at iV)
     have xX:=zq (dO (v:=aD (some ⟨g,0,none⟩) s0 cap) HB.out oS dI (aH _) NT);rw[←OB.out,←HE.out]at iV;have QD:=zq iV;clear dI iV oS;go_wp2;go_roundw;case rel=>exact⟨k+1,g5,LR,by go_num,by omega,by rw[L7.out,HE.out],by rw[L7.out];exact QD.out,xX.out⟩
     case measure=>simp only[aK];omega
    ·obtain rfl:n=k:=by omega
     rw[HAn.out,HN.out]at pU;rw[HN.out];go_wp2;go_ret;exact⟨⟨g,cap,by first |rfl|(rw[HN.out];rfl),by rw[HN.out];exact pU.out⟩,HB.out⟩
end
section
open Go Go.RowKit Go.Lib
def lE(l:List Sd):List aP:=l.flatMap fun s=>s.cells.toList
theorem Dh(l:List Sd):(lE l).length=l.length*7:=by
 induction l with
 |nil=>rfl
 |cons q qs ih=>simp[lE]at *;omega
theorem Fs:∀(l:List Sd)(i j:Nat),i<l.length→j<7→(lE l)[i*7+j]? =some ((l.getD i default).cells.getD j aO)
 |[],i,_,h,_=>by simp at h
 |q::qs,0,j,_,hj=>by
  have e:lE (q::qs)=q.cells.toList++lE qs:=rfl
  rw[e,yW,cC,zR (by simpa using hj)]
  match j,hj with
  |0,_=>rfl
  |1,_=>rfl
  |2,_=>rfl
  |3,_=>rfl
  |4,_=>rfl
  |5,_=>rfl
  |6,_=>rfl
 |q::qs,i+1,j,h,hj=>by
  have e:lE (q::qs)=q.cells.toList++lE qs:=rfl
  rw[e,gA (by simp;omega),show(i+1)*7+j-q.cells.toList.length=i*7+j by simp;omega]
  exact Fs qs i j (by simpa using h) hj
theorem kY.own{w:aF}{cL e:Nat}{a:Option cO}{n cap:Nat}{l:List Sd}(h:w.ownsRow cL e 7 (aD a n cap) n (lE l)):kY w a l:=by
 intro i hi;have hl:=h.1;rw[Dh]at hl;rcases h.2 with⟨_,h2⟩|⟨g,c,oL,hv,_⟩
 ·omega
 ·injection hv with e1 e2 e3;subst e1 e3;refine⟨g,0,rfl,fun j hj=>?_⟩;rw[cC,dZ h (i*7+j) (by omega)];exact Fs l i j hi hj
def Sv(r:Rg):Sl:=match r.a with
 |some p=>⟨p.block,p.off,r.ss.length,r.cap,lE r.ss⟩
 |none=>⟨0,0,0,0,[]⟩
def cV(rs:List Rg):List Sd:=rs.flatMap Rg.ss
theorem slR_some{w:aF}{r:Rg}(h:kY w r.a r.ss)(h0:0<r.ss.length):∃b off,r.a=some ⟨b,off,none⟩∧Sv r=⟨b,off,r.ss.length,r.cap,lE r.ss⟩∧(Sv r).v=r.v∧(Sv r).Rd w:=by
 obtain⟨b,off,e,-⟩:=h 0 h0;obtain⟨ra,rc,rss⟩:=r;simp only at *;subst e;refine⟨b,off,rfl,rfl,rfl,fun j u hj=>?_⟩;have hj7:j<rss.length*7:=by rw[←Dh];exact(List.getElem?_eq_some_iff.1 hj).1
 obtain⟨b',o',e,c⟩:=h (j/7) (by omega);injection e with e;injection e with e1 e2;subst e1 e2;have e3:(Sv ⟨some ⟨b,off,none⟩,rc,rss⟩).cs[j]? =some ((rss.getD (j/7) default).cells.getD (j%7) aO):=by
  have:=Fs rss (j/7) (j%7) (by omega) (by omega);rwa[show j/7*7+j%7=j by omega]at this
 rw[hj]at e3;injection e3 with e3;have:=c (j%7) (by omega);rw[show off+j/7*7+j%7=off+j by omega]at this;rw[e3];exact this
theorem UW(l m:List Sd):lE (l++m)=lE l++lE m:=by simp[lE]
theorem ko{rs:List Rg}:(∀r∈rs,(Sv r).cs=lE r.ss)→sT (rs.map Sv)=lE (cV rs):=by
 induction rs with
 |nil=>intro _;rfl
 |cons r t ih=>
  intro h;have e1:sT ((r::t).map Sv)=(Sv r).cs++sT (t.map Sv):=rfl;have e2:cV (r::t)=r.ss++cV t:=rfl;rw[e1,e2,UW,ih (fun q hq=>h q (dA _ hq)),h r cW]
theorem one_side(l:List Sd):∀u∈lE l,u.oneCell'=true:=by
 intro u hu;obtain⟨s,-,h⟩:=List.mem_flatMap.1 hu;simp at h;rcases h with rfl|rfl|rfl|rfl|rfl|rfl|rfl<;>rfl
theorem kq{rs:List Rg}(h:∀r∈rs,(Sv r).len=r.ss.length):gO (rs.map Sv) rs.length=(cV rs).length:=by
 have key:∀k,k≤rs.length→gO (rs.map Sv) k=(cV (rs.take k)).length:=by
  intro k;induction k with
  |zero=>intro _;simp[gO,cV]
  |succ k ih=>
   intro hk;have cg:k<rs.length:=hk;rw[gO,ih (jS cg),cN cg];unfold cV;rw[lK,bO];congr 1;simp[aG,cg,h _ (gL cg)]
 rw[key _ (aH _),Cc]
theorem UX(a:Option cO)(N ca:Nat)(rs:List Rg)(w:aF)(hl:rs.length=N)(hN:N≤1000)(JY:0<N)(hn:∀r∈rs,r.ss.length≤1000∧0<r.ss.length)(rr:GN w a rs):
 bE aE 54 #[aD a N ca] w fun e w'=>(∃g cap,e=bA (aD (some ⟨g,0,none⟩) (cV rs).length cap)∧kY w' (some ⟨g,0,none⟩) (cV rs))∧Below w.heap.size w w':=by
 have hX:∀r∈rs,∃b off,r.a=some ⟨b,off,none⟩∧Sv r=⟨b,off,r.ss.length,r.cap,lE r.ss⟩∧(Sv r).v=r.v∧(Sv r).Rd w:=fun r hr=>by
  obtain⟨i,hi,rfl⟩:=fI hr;obtain⟨b,o,-,-,h⟩:=rr i hi;have e:rs.getD i default=rs[i]:=by simp[aG,hi]
  rw[e]at h;exact slR_some h (hn _ hr).2
 have hs:=kq (rs:=rs) (fun r hr=>by obtain⟨b,o,-,e,-⟩:=hX r hr;rw[e]);have ha:=ko (rs:=rs) (fun r hr=>by obtain⟨b,o,-,e,-⟩:=hX r hr;rw[e]);rw[hl]at hs;have hpos:0<(cV rs).length:=by
  obtain⟨r,t,rfl⟩:∃r t,rs=r::t:=by
   cases rs with
   |nil=>simp at hl;omega
   |cons r t=>exact⟨r,t,rfl⟩
  have:=(hn r cW).2;have e2:cV (r::t)=r.ss++cV t:=rfl;rw[e2,bO];omega
 have H:=concatS a N ca (rs.map Sv) w (by simpa using hl) hN (fun l qd=>by
  obtain⟨r,hr,rfl⟩:=List.mem_map.1 qd;obtain⟨b,o,-,e,-⟩:=hX r hr;rw[e];exact⟨by have:=(hn r hr).1;show r.ss.length≤10000;omega,Dh _,one_side _⟩) (by rw[hs];exact hpos) (fun i hi=>by
   have Zg:i<rs.length:=by simpa using hi
   obtain⟨b,o,e,c,-⟩:=rr i Zg;have e1:(rs.map Sv).getD i default=Sv rs[i]:=by simp[aG,Zg]
   have e2:rs.getD i default=rs[i]:=by simp[aG,Zg]
   obtain⟨b2,o2,-,e3,e4,e5⟩:=hX rs[i] (gL Zg);refine⟨b,o,e,?_,?_⟩
   ·rw[e1,e4,←e2];exact c
   ·rw[e1];exact e5)
 rw[hs,ha]at H;refine H.mono ?_;rintro e w'⟨⟨g,cap,rfl,h⟩,hb⟩;exact⟨⟨g,cap,rfl,kY.own h⟩,hb⟩
theorem idx_side (g:BS) (lb:Array aP) (eg:∀ args w,(rL g args).run aE w= .ok (.enter g args) w) (a:Option cO) (n cap:Nat) (xs:List Sd) (p:Nat→Bool) (w:aF)
 (hn:xs.length=n) (qJ:n≤9223372036854775807) (hc:kY w a xs)
 (hp:∀ i,i < n→∀ W,Below w.heap.size w W→bE aE g (#[(xs.getD i default).v] ++ lb) W (Rt (aV (p i)) W)) :
 bE aE 123 #[aD a n cap, .func (.func g) #[] lb] w (Rt (aC aB (mC p n)) w):=by
 have Hc:=zq hc;have Hn:=zq hn;have Hp:=zq hp;clear hc hn hp;go_enter func123,ntmps123;go_wp2;go_loopw [5,8] (fun _ i wr=> ∃ k:Nat,i=aC aB k∧k≤n∧Below w.heap.size w wr∧bK (mC p k= -1)) (fun _ i _=> n - (aK i).toNat);case atStart=> exact⟨0,rfl,bM _,aL _ w,rfl⟩
 case round=>
  obtain⟨k,rfl,hk,hB,hz⟩:=hrel;by_cases hlt:k < n
  ·obtain⟨b,off,rfl,c0,c1,c2,c3,c4,c5,c6⟩:=(Hc.out.below hB).at (i:=k) (by rw [Hn.out];exact hlt) rfl;have IJ:=zq (Hp.out k hlt);unfold Sd.v Sd.cells at IJ;generalize xs.getD k default=x at *;cases hq:p k with
   | true=>
    rw [hq] at IJ;have R:bK (mC p n=k):=Ag hz.out hq hlt;clear hq;go_wp2_with fail
    refine(IJ.out _ hB).mono ?_;rintro e W1 ⟨rfl,hb1⟩;go_wp2;go_ret;exact⟨by rw [R.out] <;> rfl,cI hB hb1 hB.size⟩
   | false=>
    rw [hq] at IJ;have sS:bK (mC p (k + 1)= -1):=Af hz.out hq;clear hq;go_wp2_with fail
    refine(IJ.out _ hB).mono ?_;rintro e W1 ⟨rfl,hb1⟩;go_wp2;go_roundw;case rel=> exact⟨k + 1,by go_num,by omega,cI hB hb1 hB.size,sS⟩
    case measure=> simp only [aK];omega
  ·obtain rfl:n=k:=by omega
   go_wp2;go_ret;exact⟨by rw [hz.out] <;> rfl,hB⟩
theorem has_side(g:BS)(lb:Array aP)(eg:∀args w,(rL g args).run aE w=.ok (.enter g args) w)(a:Option cO)(n cap:Nat)(xs:List Sd)(p:Nat→Bool)(w:aF)
 (hn:xs.length=n)(qJ:n≤9223372036854775807)(hc:kY w a xs)
 (hp:∀i,i<n→∀W,Below w.heap.size w W→bE aE g (#[(xs.getD i default).v]++lb) W (Rt (aV (p i)) W)):
 bE aE 53 #[aD a n cap,.func (.func g) #[] lb] w (Rt (aV (anyN p n)) w):=by
 have HI:=zq (idx_side g lb eg a n cap xs p w hn qJ hc hp);have R:bK (∀c,mC p n=c→anyN p n=decide (0≤c)):=fun c h=>by rw[←h];exact Ah p n
 clear hp hc hn;generalize mC p n=c at *;have R:=zq (R.out c rfl);go_enter func53,ntmps53;go_wp2_with fail
 refine HI.out.mono ?_;rintro e W1⟨rfl,hb1⟩;go_wp2;go_ret;exact⟨by rw[R.out]<;>rfl,hb1⟩
theorem idx_ring (g:BS) (lb:Array aP) (eg:∀ args w,(rL g args).run aE w= .ok (.enter g args) w) (a:Option cO) (n cap:Nat) (xs:List Rg) (p:Nat→Bool) (w:aF)
 (hn:xs.length=n) (qJ:n≤9223372036854775807) (hc:GN w a xs)
 (hp:∀ i,i < n→∀ W,Below w.heap.size w W→bE aE g (#[aD (xs.getD i default).a (xs.getD i default).ss.length (xs.getD i default).cap] ++ lb) W (Rt (aV (p i)) W)) :
 bE aE 126 #[aD a n cap, .func (.func g) #[] lb] w (Rt (aC aB (mC p n)) w):=by
 have Hc:=zq hc;have Hn:=zq hn;have Hp:=zq hp;clear hc hn hp;go_enter func126,ntmps126;go_wp2;go_loopw [5,8] (fun _ i wr=> ∃ k:Nat,i=aC aB k∧k≤n∧Below w.heap.size w wr∧bK (mC p k= -1)) (fun _ i _=> n - (aK i).toNat);case atStart=> exact⟨0,rfl,bM _,aL _ w,rfl⟩
 case round=>
  obtain⟨k,rfl,hk,hB,hz⟩:=hrel;by_cases hlt:k < n
  ·obtain⟨b,off,rfl,c0,_⟩:=(Hc.out.below hB).at (i:=k) (by rw [Hn.out];exact hlt) rfl;have IJ:=zq (Hp.out k hlt);generalize xs.getD k default=x at *;cases hq:p k with
   | true=>
    rw [hq] at IJ;have R:bK (mC p n=k):=Ag hz.out hq hlt;clear hq;go_wp2_with fail
    refine(IJ.out _ hB).mono ?_;rintro e W1 ⟨rfl,hb1⟩;go_wp2;go_ret;exact⟨by rw [R.out] <;> rfl,cI hB hb1 hB.size⟩
   | false=>
    rw [hq] at IJ;have sS:bK (mC p (k + 1)= -1):=Af hz.out hq;clear hq;go_wp2_with fail
    refine(IJ.out _ hB).mono ?_;rintro e W1 ⟨rfl,hb1⟩;go_wp2;go_roundw;case rel=> exact⟨k + 1,by go_num,by omega,cI hB hb1 hB.size,sS⟩
    case measure=> simp only [aK];omega
  ·obtain rfl:n=k:=by omega
   go_wp2;go_ret;exact⟨by rw [hz.out] <;> rfl,hB⟩
theorem has_ring(g:BS)(lb:Array aP)(eg:∀args w,(rL g args).run aE w=.ok (.enter g args) w)(a:Option cO)(n cap:Nat)(xs:List Rg)(p:Nat→Bool)(w:aF)
 (hn:xs.length=n)(qJ:n≤9223372036854775807)(hc:GN w a xs)
 (hp:∀i,i<n→∀W,Below w.heap.size w W→bE aE g (#[aD (xs.getD i default).a (xs.getD i default).ss.length (xs.getD i default).cap]++lb) W (Rt (aV (p i)) W)):
 bE aE 57 #[aD a n cap,.func (.func g) #[] lb] w (Rt (aV (anyN p n)) w):=by
 have HI:=zq (idx_ring g lb eg a n cap xs p w hn qJ hc hp);have R:bK (∀c,mC p n=c→anyN p n=decide (0≤c)):=fun c h=>by rw[←h];exact Ah p n
 clear hp hc hn;generalize mC p n=c at *;have R:=zq (R.out c rfl);go_enter func57,ntmps57;go_wp2_with fail
 refine HI.out.mono ?_;rintro e W1⟨rfl,hb1⟩;go_wp2;go_ret;exact⟨by rw[R.out]<;>rfl,hb1⟩
theorem ku(a:Option cO)(n cap:Nat)(l:List Sd)(w:aF)(hl:l.length=n)(hn:n≤1000)(hC:AH l)(r:kY w a l):
 bE aE 58 #[aD a n cap] w (Rt (aV (!nP l)) w):=by
 have HS:=zq (jt a n cap l w hl hn hC r);clear r hl hC;generalize nP l=B at *;refine dM func58 rfl ?_;simp only[ntmps58,cD,bD,bV,dQ,dR,cA,cB,cR,cH,dF,cJ];go_wp2_with fail
 refine HS.out.mono ?_;rintro e W⟨rfl,hb⟩;go_wp2;exact oC (iS Tryz.results58 _ _ _) rfl ⟨rfl,hb⟩
theorem sgI_pos{n:Int}:0<tB n↔0<n:=by
 unfold tB;split
 ·omega
 ·split <;>omega
theorem sgI_neg{n:Int}:tB n<0↔n<0:=by
 unfold tB;split
 ·omega
 ·split <;>omega
theorem DJ(n:Int):tB n= -1∧n<0∨tB n=0∧n=0∨tB n=1∧0<n:=by
 have h1:= @sgI_pos n;have h2:= @sgI_neg n;have h3:=pH n;omega
theorem sg_mul(a b:Int):(0<tB a*tB b→0<a*b)∧(tB a*tB b<0→a*b<0):=by
 rcases DJ a with⟨e,h⟩|⟨e,h⟩|⟨e,h⟩<;>rcases DJ b with⟨e2,h2⟩|⟨e2,h2⟩|⟨e2,h2⟩<;>rw[e,e2]<;>(constructor <;>intro k<;>first |(exfalso;revert k;decide)|skip)
 ·exact Int.mul_pos_of_neg_of_neg h h2
 ·exact Int.mul_neg_of_neg_of_pos h h2
 ·exact Int.mul_neg_of_pos_of_neg h h2
 ·exact Int.mul_pos h h2
theorem lft_of{l:List Sd}{k:Nat}(hk:k<l.length)(hs:nP l=true)(h:0<Ss l k):UQ (l.getD (pre l.length k) default) (l.getD k default) (fF l k)=true:=by
 unfold nP at hs;simp only[bQ,dP]at hs;have b:=cP.1 hs.1 _ (Je hk);unfold uT at b;simp only[kC,Bool.not_eq_false',decide_eq_true_eq]at b;have b1:=b.1;unfold Ss at h;unfold BQ dY at b1 h;rw[GU hk]at b1 h;unfold UQ;rw[decide_eq_true_iff];generalize(l.getD k default).x-(l.getD (pre l.length k) default).x=p at *;generalize(l.getD k default).y-(l.getD (pre l.length k) default).y=q at *;generalize(fF l k).x-(l.getD k default).x=c at *;generalize(fF l k).y-(l.getD k default).y=d at *;have m1:=sg_mul p d;have m2:=sg_mul q c;rcases DJ p with⟨e,h1⟩|⟨e,h1⟩|⟨e,h1⟩<;>rcases DJ q with⟨e2,h2⟩|⟨e2,h2⟩|⟨e2,h2⟩<;>rw[e,e2]at b1<;>first |(exfalso;revert b1;decide)|skip
 all_goals first
  |(subst h1;rw[show tB 0*tB d=0 by rw[e,Kd]]at h;have:=m2.2 (by omega);rw[Kd];omega)
  |(subst h2;rw[show tB 0*tB c=0 by rw[e2,Kd]]at h;have:=m1.1 (by omega);rw[Kd];omega)
theorem jnd_of{f:Nat→List Sd}{N:Nat}(hs:∀r,r<N→nP (f r)=true)(h:Fo f N=true):UV f N=true:=by
 unfold Fo at h;unfold UV;simp only[bQ,dP]at *;refine⟨cP.2 fun r hr=>cP.2 fun k hk=>?_,h.2⟩;have h1:=cP.1 (cP.1 h.1 r hr) k hk;have h2:=hs r hr;unfold EA at h1;unfold jnX;rcases Int.lt_trichotomy (Ss (f r) k) 0 with c|c|c
 ·rw[decide_eq_true c,vN]at h1;rw[h1,R8]
 ·unfold nP at h2;simp only[bQ,dP]at h2;have b:=cP.1 h2.1 k hk;unfold uT at b;rw[decide_eq_true c,Bool.or_true]at b;cases b
 ·rw[lft_of hk h2 c];rfl
theorem rI{f:Nat→List Sd}{N:Nat}(h:oW f N=0):N≠0∧anyN (Kv f) N=false∧cE f N≤24∧anyN (Fq f) N=false∧anyN (D0 f) N=false∧Db f N=false∧zJ f N=true∧Fo f N=true:=by
 by_cases h0:N=0
 ·rw[ZP h0]at h;cases h
 cases h1:anyN (Kv f) N;case true=>rw[ZQ h1]at h;cases h
 rw[ZR h0 h1]at h;by_cases h2:24<cE f N
 ·rw[ip h2]at h;cases h
 rw[iN h2]at h;cases h3:anyN (Fq f) N;case true=>rw[ip h3]at h;cases h
 rw[iN (by rw[h3];decide)]at h;cases h4:anyN (D0 f) N;case true=>rw[ip h4]at h;cases h
 rw[iN (by rw[h4];decide)]at h;cases h5:Db f N;case true=>rw[ip h5]at h;cases h
 rw[iN (by rw[h5];decide)]at h;cases h6:zJ f N<;>cases h7:Fo f N<;>rw[h6,h7]at h<;>first |(cases h;done)|exact⟨h0,rfl,by omega,rfl,rfl,rfl,rfl,rfl⟩|(revert h;decide)
theorem sid_all{rs:List Rg}{N:Nat}(hl:rs.length=N)(h:anyN (Fq (bF rs)) N=false):∀s∈cV rs,vV s=true:=fun s hs=>by
 obtain⟨r,hr,hs⟩:=List.mem_flatMap.1 hs
 obtain⟨i,hi,rfl⟩:=fI hr
 obtain⟨j,hj,rfl⟩:=fI hs
 have e:bF rs i=rs[i].ss:=by unfold bF;simp[aG,hi]
 have h1:=cP.1 h i (by omega)
 unfold Fq at h1
 rw[e]at h1
 have h2:=cP.1 h1 j hj
 unfold Jh at h2
 rw[show(rs[i].ss).getD j default=rs[i].ss[j] by simp[aG,hj]]at h2
 simpa using h2
theorem wP{rs:List Rg}:cE (bF rs) rs.length=(cV rs).length:=by
 have key:∀k,k≤rs.length→cE (bF rs) k=(cV (rs.take k)).length:=by
  intro k;induction k with
  |zero=>intro _;simp[cE,cV]
  |succ k ih=>
   intro hk;have cg:k<rs.length:=hk;rw[cE,ih (jS cg),cN cg];unfold cV;rw[lK,bO];congr 1;unfold bF;simp[aG,cg]
 rw[key _ (aH _),Cc]
theorem Yg (a:Option cO) (N cap:Nat) (rs:List Rg) (w:aF) (hl:rs.length=N) (hN:N≤1000) (hn:∀ r,(bF rs r).length≤1000) (rr:GN w a rs) (h0:oW (bF rs) N=0)
 (hX:∀ W,Below w.heap.size w W→bE aE 60 #[aD a N cap] W (Rt (aV false) W)) :
 bE aE 20 #[cF #[aD a N cap]] w (Rt (aC aB 0) w):=by
 obtain⟨c0,c1,c2,c3,c4,c5,c6,c7⟩:=rI h0;have hp:∀ r,r < N→0 < (bF rs r).length:=fun r hr=> by
  have:=cP.1 c1 r hr;unfold Kv at this;have:=of_decide_eq_false this;omega
 have hC:∀ r,AH (bF rs r):=DH (fun r hr=> BD (by omega)) c3;have rJ:∀ r,r < N→nP (bF rs r)=true:=fun r hr=> by
  have:=cP.1 c4 r hr;unfold D0 at this;simpa using this
 have BM:(cV rs).length≤24:=by rw [← wP,hl];exact c2
 have GQ:∀ k,k≤N→cE (bF rs) k≤24:=fun k hk=> aU (oX hk) c2;have pF:∀ r∈rs,r.ss.length≤1000∧0 < r.ss.length:=fun r hr=> by
  obtain⟨i,hi,rfl⟩:=fI hr;have e:bF rs i=rs[i].ss:=by unfold bF;simp [aG,hi]
  rw [← e];exact⟨hn i,hp i (by omega)⟩
 have HCc:=zq (fun W (hW:Below w.heap.size w W)=> UX a N cap rs W hl hN (by omega) pF (rr.below hW));have hsid:=sid_all hl c3;have HC1:=zq (fun g c W (r:kY W (some ⟨g,0,none⟩) (cV rs))=> has_side 55 #[] (enters_of func55 (by kernel_rfl) rfl) (some ⟨g,0,none⟩) (cV rs).length c (cV rs) (fun i=> !vV ((cV rs).getD i default)) W rfl (by omega) r (fun i _ W2 _=> by
  rw [Hu];exact jv _ W2))
 have E1:bK (anyN (fun i=> !vV ((cV rs).getD i default)) (cV rs).length=false):=cP.2 fun i hi=> by rw [hsid _ (bU hi default)];rfl
 have L5:=zq (fun W (hW:Below w.heap.size w W)=> has_ring 58 #[] (enters_of func58 (by kernel_rfl) rfl) a N cap rs (fun r=> !nP (bF rs r)) W hl (by omega) (rr.below hW) (fun i hi W2 h2=> by
  rw [Hu];exact ku _ _ _ (bF rs i) W2 rfl (hn i) (hC i) (((rr.below hW).below h2).at (i:=i) (by omega) rfl).choose_spec.choose_spec.2.2))
 have E2:bK (anyN (fun r=> !nP (bF rs r)) N=false):=cP.2 fun r hr=> by rw [rJ r hr];rfl
 have Zv:=zq (fun W (hW:Below w.heap.size w W)=> kg a N cap rs W hl hN hn hp hC (rr.below hW));rw [ppl_of c6] at Zv;have HJn:=zq (fun W (hW:Below w.heap.size w W)=> kh a N cap rs W hl hN hn hC (rr.below hW));rw [jnd_of rJ c7] at HJn;rw [E1.out] at HC1;rw [E2.out] at L5;have HX:=zq hX;have HR:=zq rr;have HL:=zq hl;have HP:=zq hp;have HN0:=zq c0;have JT:=zq GQ;have XX:bK (cE (bF rs) N=(cV rs).length):=by show _=_;rw [← wP,hl]
 clear hX rr hl hp c0 c1 c2 c3 c4 c5 c6 c7 hC rJ GQ pF hsid E1 E2 h0 hn;have fE:=(aL _ w).alloc (aH _) (aN #[aD a N cap] 24);have tN:=bT.new w #[aD a N cap] 24;obtain⟨W0,eY⟩:=nm (w.alloc (aN #[aD a N cap] 24));rw [eY] at fE tN;have fV:=zq fE;have nO:=zq tN;have b0:=tN.cell 0;simp only [aJ,aI] at b0;have HW:=zq eY;clear fE tN eY;refine dM func20 rfl ?_;simp only [ntmps20,cD,bD,bV,dQ,dR,cA,cB,cR,cH,dF,cJ];go_upto_region 1 with (fail)
 rw [HW.out];clear HW;go_wp2;go_loopw [3,9] (fun t i wr=> ∃ r:Nat,i=aC aB r∧t=aC aB (cE (bF rs) r:Nat)∧r≤N∧bK (Below W0.heap.size W0 wr)) (fun _ i _=> N - (aK i).toNat);case atStart=> exact⟨0,rfl,rfl,bM _,aL _ _⟩
 case round=>
  clear b0;obtain⟨r,rfl,rfl,hr,HB⟩:=hrel;rename aF=> wr;have b0:=(nO.out.below HB.out nO.out.lt).cell 0;simp only [aJ,aI] at b0;by_cases hrN:r < N
  ·obtain⟨b,o,rfl,c0, -⟩:=(HR.out.below (aQ fV.out HB.out)).at (i:=r) (by rw [HL.out];exact hrN) rfl;rw [show(rs.getD r default).ss.length=(bF rs r).length from rfl] at c0;have GQ:=JT.out r hr;have hct2:=JT.out (r + 1) hrN;have Zn:=HP.out r hrN;have E1:bK (cE (bF rs) (r + 1)=cE (bF rs) r + (bF rs r).length):=rfl;rw [E1.out] at hct2;generalize cE (bF rs) r=C at *;generalize (bF rs r).length=n at *;have hrI:(r:Int) < N:=by omega
   have hz' :((n:Int)==0)=false:=by rw [beq_eq_false_iff_ne];omega
   go_wp2;go_roundw;case rel=> exact⟨r + 1,by go_num,by rw [E1.out] <;> go_num,by omega,HB.out⟩
   case measure=> simp only [aK];omega
  ·obtain rfl:N=r:=by omega
   have hc:=JT.out N hr;have hpos:0 < cE (bF rs) N:=by
    have h1:=HP.out 0 (by have:=HN0.out;omega);have h2:=Yc (f:=bF rs) (N:=N) (r:=0) (by have:=HN0.out;omega);omega
   generalize cE (bF rs) N=C at *;have hz' :((C:Int)==0)=false:=by rw [beq_eq_false_iff_ne];omega
   have vL:=zq (aQ fV.out HB.out);have HC:=zq (HCc.out _ vL.out);go_wp2_with fail
   refine HC.out.mono ?_;rintro e W1 ⟨⟨g,c,rfl,hs⟩,hb⟩;have HBw1:=zq (aQ vL.out hb);have eC:=zq (aQ HB.out hb);have H1:=zq (HC1.out g c W1 hs);have b0:=bR hb b0;clear hs hb HC;go_wp2_with fail
   refine H1.out.mono ?_;rintro e W2 ⟨rfl,hb⟩;have HBw2:=zq (aQ HBw1.out hb);have b0:=bR hb b0;have H2:=zq (L5.out _ HBw2.out);clear hb H1;go_wp2_with fail
   refine H2.out.mono ?_;rintro e W3 ⟨rfl,hb⟩;have HBw3:=zq (aQ HBw2.out hb);have b0:=bR hb b0;have H3:=zq (HX.out _ HBw3.out);clear hb H2;go_wp2_with fail
   refine H3.out.mono ?_;rintro e W4 ⟨rfl,hb⟩;have HBw4:=zq (aQ HBw3.out hb);have b0:=bR hb b0;have H4:=zq (Zv.out _ HBw4.out);clear hb H3;go_wp2_with fail
   refine H4.out.mono ?_;rintro e W5 ⟨rfl,hb⟩;have HBw5:=zq (aQ HBw4.out hb);have b0:=bR hb b0;have H5:=zq (HJn.out _ HBw5.out);clear hb H4;go_wp2_with fail
   refine H5.out.mono ?_;rintro e W6 ⟨rfl,hb⟩;have HBw6:=zq (aQ HBw5.out hb);clear hb H5;go_wp2;exact oC (iS Tryz.results20 _ _ _) rfl ⟨rfl,HBw6.out⟩
theorem DK(a:Option cO)(N cap:Nat)(rs:List Rg)(w:aF)(hl:rs.length=N)(hN:N≤1000)(hn:∀r,(bF rs r).length≤1000)(rr:GN w a rs)(h0:oW (bF rs) N=0):
 bE aE 20 #[cF #[aD a N cap]] w (Rt (aC aB 0) w):=by
 obtain⟨c0,c1,c2,c3,c4,c5,c6,c7⟩:=rI h0;exact Yg a N cap rs w hl hN hn rr h0 fun W hW=>Yf a N cap rs W hl hN hn (rr.below hW) c2 c5
def hdI(s t:Sd):Int:=if s.x<t.x then 0 else if s.y<t.y then 1 else if t.x<s.x then 2 else 3
theorem Yh(s t:Sd)(w:aF):bE aE 63 #[s.v,t.v] w (Rt (aC aB (hdI s t)) w):=by
 obtain⟨W0,eY⟩:=nm ((w.alloc (aN s.cells 56)).alloc (aN t.cells 56));obtain⟨h1,h2,h3⟩:=K8 eY;have HB:=zq h3;obtain⟨s0,s1,-⟩:=BR h1;obtain⟨r0,r1,-⟩:=BR h2;have HW:=zq eY;obtain⟨T,hT⟩:=nm (hdI s t);rw[hT];have hx:bK (s.x<t.x∧T=0∨(s.x<t.x)=False∧s.y<t.y∧T=1∨(s.x<t.x)=False∧(s.y<t.y)=False∧t.x<s.x∧T=2∨(s.x<t.x)=False∧(s.y<t.y)=False∧(t.x<s.x)=False∧T=3):=by
  rw[←hT];show _∨_;unfold hdI;by_cases h1:s.x<t.x<;>by_cases h2:s.y<t.y<;>by_cases h3:t.x<s.x<;>simp[h1,h2,h3]
 clear hT h1 h2 h3 eY;obtain⟨x,y,rise,run,gable,plate,over⟩:=s;obtain⟨x2,y2,ZU,run2,Rq,Rr,ZV⟩:=t;unfold Sd.v Sd.cells at *;simp only[]at *;refine dM func63 rfl ?_;simp only[ntmps63,cD,bD,bV,dQ,dR,cA,cB,cR,cH,dF,cJ];go_upto_region 1 with(fail)
 rw[HW.out];clear HW;rcases hx.out with⟨h1,rfl⟩|⟨h1,h2,rfl⟩|⟨h1,h2,h3,rfl⟩|⟨h1,h2,h3,rfl⟩;all_goals
  clear hx;go_wp2;exact oC (iS Tryz.results63 _ _ _) rfl ⟨rfl,HB.out⟩
theorem mkRat_one(n:Int):mkRat n 1=(n:Rat):=by
 rw[Rat.mkRat_one]
def EG(h:Nat):Bool:=decide (h=1)||decide (h=3)
def Wb(h:Nat):Int:=if h=0∨h=3 then 1 else -1
def MU(w:aF):Prop:=∀h,h<4→w.cell? ⟨0,h*2,none⟩=some (aV (EG h))∧w.cell? ⟨0,h*2+1,none⟩=some (aC aB (Wb h))
theorem MU.below{w w':aF}(h:MU w)(hb:Below w.heap.size w w'):MU w':=fun k hk=>⟨bR hb (h k hk).1,bR hb (h k hk).2⟩
def vA(s t:Sd):Nat:=if s.x<t.x then 0 else if s.y<t.y then 1 else if t.x<s.x then 2 else 3
theorem hdN_eq(s t:Sd):hdI s t=(vA s t:Nat)∧vA s t<4:=by
 unfold hdI vA;split
 ·exact⟨rfl,by decide⟩
 ·split
  ·exact⟨rfl,by decide⟩
  ·split <;>exact⟨rfl,by decide⟩
def ND(s t:Sd):Fr:=⟨EG (vA s t),if EG (vA s t)=true then s.x else s.y,Wb (vA s t),if s.gable=true then[48]else bG (mkRat s.run s.rise.toNat),bG (mkRat s.plate 1)⟩
theorem sid_bd{x y rise run plate over:Int}{gable:Bool}(h:vV ⟨x,y,rise,run,gable,plate,over⟩=true):0≤plate∧plate≤65536∧(gable=false→1≤rise∧rise≤48∧1≤run∧run≤48):=by
 unfold vV outI at h;simp only[bQ,dP,kC,decide_eq_false_iff_not]at h;obtain⟨⟨h1,h2,h3,h4⟩,h5⟩:=h;refine⟨by omega,by omega,fun e=>?_⟩;subst e;rw[iN (by decide)]at h5;simp only[bQ,dP,kC,decide_eq_false_iff_not]at h5;omega
theorem five{W:aF}{b:Nat}{u0 u1 u2 u3 u4:aP}{T:dT}(h:bT W b #[u0,u1,u2,u3,u4] T):W.cell? ⟨b,0,none⟩=some u0∧W.cell? ⟨b,1,none⟩=some u1∧W.cell? ⟨b,2,none⟩=some u2∧W.cell? ⟨b,3,none⟩=some u3∧W.cell? ⟨b,4,none⟩=some u4∧W.frozen? ⟨b,0,none⟩=false∧W.frozen? ⟨b,1,none⟩=false∧W.frozen? ⟨b,2,none⟩=false∧W.frozen? ⟨b,3,none⟩=false∧W.frozen? ⟨b,4,none⟩=false∧b<W.heap.size:=
 ⟨h.cell 0,h.cell 1,h.cell 2,h.cell 3,h.cell 4,h.fz 0,h.fz 1,h.fz 2,h.fz 3,h.fz 4,h.lt⟩
theorem Pv(W:aF):(isAgg 58).run aE W=.ok true W:=by first |rfl|kernel_rfl
theorem MV(W:aF):(sizeOf 58).run aE W=.ok 5 W:=by first |rfl|kernel_rfl
theorem AI{P:dN}{fn:Func}{p:Tmp}{ty T:dT}(h:fn.results= #[.cell p ty])(tmps:Array aP)(w:aF)(g:Nat)(x y z u o:aP)
 (hp:tmps.getD p aO=aY (some ⟨g,0,none⟩))(hb:bT w g #[x,y,z,u,o] T)(ha:∀w,(isAgg ty).run P w=.ok true w)(hs:∀w,(sizeOf ty).run P w=.ok 5 w):
 (lF fn tmps).run P w=.ok (cF #[x,y,z,u,o]) w:=by
 have Td:tmps[p]?.getD aO=aY (some ⟨g,0,none⟩):=by simpa using hp
 obtain⟨c0,c1,c2,c3,c4,-⟩:=five hb;simp[lF,h,go_sem,Td,c0,c1,c2,c3,c4,ha,hs]
theorem bT.set5{W:aF}{b:Nat}{x y z o e:aP}{T:dT}(h:bT W b #[x,y,z,o,e] T)(u v r q j:aP):bT (((((W.setCell ⟨b,0,none⟩ u).setCell ⟨b,1,none⟩ v).setCell ⟨b,2,none⟩ r).setCell ⟨b,3,none⟩ q).setCell ⟨b,4,none⟩ j) b #[u,v,r,q,j] T:=((((h.set 0 u).set 1 v).set 2 r).set 3 q).set 4 j
theorem MW{B:Nat}{w W:aF}(h:Below B w W){c:Nat}(hc:B≤c)(u v r q j:aP):Below B w (((((W.setCell ⟨c,0,none⟩ u).setCell ⟨c,1,none⟩ v).setCell ⟨c,2,none⟩ r).setCell ⟨c,3,none⟩ q).setCell ⟨c,4,none⟩ j):=
 ((((h.setCell (p:=⟨c,0,none⟩) hc u).setCell (p:=⟨c,1,none⟩) hc v).setCell (p:=⟨c,2,none⟩) hc r).setCell (p:=⟨c,3,none⟩) hc q).setCell (p:=⟨c,4,none⟩) hc j
theorem fr_of(s t:Sd)(w:aF)(hE:mN w)(hD:MU w)(hs:vV s=true):bE aE 21 #[s.v,t.v] w (Rt ((ND s t).v) w):=by
 obtain⟨W1,rS⟩:=nm ((w.alloc (aN s.cells 56)).alloc (aN t.cells 56));obtain⟨W0,eY⟩:=nm (W1.alloc (aN #[aV false,aC aB 0,aC aB 0,aA ⟨#[]⟩,aA ⟨#[]⟩] 58));obtain⟨h1,h2,h3⟩:=K8 rS;have BX:W1.heap.size=w.heap.size+1+1:=by rw[←rS];simp
 have Ib:Below W1.heap.size W1 W0:=by rw[←eY];exact(aL _ _).alloc (aH _) _
 have h4:bT W0 W1.heap.size #[aV false,aC aB 0,aC aB 0,aA ⟨#[]⟩,aA ⟨#[]⟩] 58:=by rw[←eY];exact bT.new _ _ _
 rw[BX]at h4;have HB:=zq (aQ h3 Ib);have H1:=zq (h1.below Ib h1.lt);have H2:=zq (h2.below Ib h2.lt);have H4:=zq h4;have HW:bK (((w.alloc (aN s.cells 56)).alloc (aN t.cells 56)).alloc (aN #[aV false,aC aB 0,aC aB 0,aA ⟨#[]⟩,aA ⟨#[]⟩] 58)=W0):=by show _=_;rw[rS,eY]
 obtain⟨eh,hh⟩:=hdN_eq s t;have HH:=zq (fun W=>Yh s t W);rw[eh]at HH;have HD:=zq hD;have HE:=zq hE;have ER:bK (ND s t=⟨EG (vA s t),if EG (vA s t)=true then s.x else s.y,Wb (vA s t),if s.gable=true then[48]else bG (mkRat s.run s.rise.toNat),bG (mkRat s.plate 1)⟩):=rfl;generalize ND s t=F at *;generalize vA s t=h at *;clear h1 h2 h3 h4 Ib eY rS BX hE hD eh;have HS:=zq hs;obtain⟨x,y,rise,run,gable,plate,over⟩:=s;obtain⟨x2,y2,ZU,run2,Rq,Rr,ZV⟩:=t;unfold Sd.v Sd.cells at *;simp only[]at *;clear hs;refine dM func21 rfl ?_;simp only[ntmps21,cD,bD,bV,dQ,dR,cA,cB,cR,cH,dF,cJ];go_upto_region 1 with(fail)
 rw[HW.out];clear HW;obtain⟨s0,s1,s2,s3,s4,s5,s6⟩:=BR H1.out;obtain⟨r0,r1,r2,r3,r4,r5,r6⟩:=BR H2.out;go_wp2_with fail
 refine(HH.out _).mono ?_;rintro e W2⟨rfl,hb⟩;have eT:=zq (aQ HB.out hb);have H1':=zq (H1.out.below hb H1.out.lt);have H4':=zq (H4.out.below hb H4.out.lt);obtain⟨d0,d1⟩:=HD.out.below eT.out h hh;clear hb s0 s1 s2 s3 s4 s5 s6 r0 r1 r2 r3 r4 r5 r6 H1 H2 H4 HB HH;generalize EG h=U at *;generalize Wb h=D at *;have hI:(h:Int)<4:=by omega
 go_upto_region 2 with(fail)
 obtain⟨V,hV⟩:=nm (W2.alloc (aN #[aV U,aC aB D] 102));have hb:=(aL _ W2).alloc (aH _) (aN #[aV U,aC aB D] 102);have hd:=bT.new W2 #[aV U,aC aB D] 102;rw[hV]at hb hd⊢;have HV:=zq (aQ eT.out hb);have Te:=zq hd;have H1v:=zq (H1'.out.below hb H1'.out.lt);have H4v:=zq (H4'.out.below hb H4'.out.lt);obtain⟨e0,e1,-,-,-⟩:=rH hd;obtain⟨s0,s1,s2,s3,s4,s5,s6⟩:=BR H1v.out;clear hb hd hV H1' H4' d0 d1 eT;go_upto_region 3 with(fail)
 obtain⟨V3,hV3⟩:=nm (V.alloc (aN #[aV U,aC aB y,aC aB D,aA ⟨#[48]⟩,aA ⟨#[]⟩] 58));have hb:=(aL _ V).alloc (aH _) (aN #[aV U,aC aB y,aC aB D,aA ⟨#[48]⟩,aA ⟨#[]⟩] 58);have hf:=bT.new V #[aV U,aC aB y,aC aB D,aA ⟨#[48]⟩,aA ⟨#[]⟩] 58;rw[hV3]at hb hf⊢;have HV3:=zq (aQ HV.out hb);have HF:=zq hf;have H1w:=zq (H1v.out.below hb H1v.out.lt);have H4w:=zq (H4v.out.below hb H4v.out.lt);have HDw:=zq (Te.out.below hb Te.out.lt);obtain⟨e0,e1,-,-,-⟩:=rH HDw.out;obtain⟨s0,s1,s2,s3,s4,s5,s6⟩:=BR H1w.out;obtain⟨f0,f1,f2,f3,f4,z0,z1,z2,z3,z4,lf⟩:=five hf;have HFB:bK (w.heap.size+1+1<V.heap.size):=H4v.out.lt;clear hb hf hV3 H1v H4v HV Te;obtain⟨FB,hFB⟩:=nm V.heap.size;rw[hFB]at HF f0 f1 f2 f3 f4 z0 z1 z2 z3 z4 lf HFB⊢;clear hFB;obtain⟨p1,p2,p3⟩:=sid_bd HS.out;have HO:=zq (fun W(hW:Below w.heap.size w W)=>Gf plate W (HE.out.below hW) (by omega));rw[mkRat_one plate]at ER;have HQ:bK (gable=false→∀W,Below w.heap.size w W→bE aE 23 #[aC aB run,aC aB rise] W (Rt (cK #[aA (bs (bG (mkRat run rise.toNat))),aC aB 0]) W)):=fun hg W hW=>by
  obtain⟨q1,q2,q3,q4⟩:=p3 hg;have:=Y9 run rise.toNat W (HE.out.below hW) (by omega) (by omega) (by omega);rwa[Int.toNat_of_nonneg (by omega)]at this
 generalize bG (mkRat run rise.toNat)=QS at *;generalize bG (plate:Rat)=PS at *;clear p1 p2 p3 HS HE HD;obtain⟨C,hC⟩:∃C,(if U=true then x else y)=C:=⟨_,rfl⟩;have HC:=zq hC;rw[hC]at ER;clear hC;have Kw:bK (w.heap.size≠FB∧w.heap.size+1+1≠FB∧w.heap.size≤FB):=⟨by have:=HFB.out;omega,by have:=HFB.out;omega,by have:=HFB.out;omega⟩;have Mr:=zq (HF.out.set 1 (aC aB x));have HV4:=zq (HV3.out.setCell (p:=⟨FB,1,none⟩) Kw.out.2.2 (aC aB x));have H1x:=zq (H1w.out.other (a:=⟨FB,1,none⟩) (aC aB x) Kw.out.1);have H4x:=zq (H4w.out.other (a:=⟨FB,1,none⟩) (aC aB x) Kw.out.2.1);simp only[aM,aT,aW]at Mr;cases U;case' false=>
  go_upto_region 5 with(fail)
  have hc:y=C:=HC.out;subst hc;have QU:=HF;have HV5:=HV3;have H15:=H1w;have H45:=H4w;clear Mr HV4 H1x H4x
 case' true=>
  go_upto_region 5 with(fail)
  have hc:x=C:=HC.out;subst hc;have QU:=Mr;have HV5:=HV4;have H15:=H1x;have H45:=H4x;clear Mr HV4 H1x H4x;generalize V3.setCell ⟨FB,1,none⟩ (aC aB x)=V3 at *
 all_goals
  clear HC HF HV3 H1w H4w HDw e0 e1 s0 s1 s2 s3 s4 s5 s6 f0 f1 f2 f3 f4 z0 z1 z2 z3 z4 lf;obtain⟨s0,s1,s2,s3,s4,s5,s6⟩:=BR H15.out;obtain⟨f0,f1,f2,f3,f4,z0,z1,z2,z3,z4,lf⟩:=five QU.out;have hO:=zq (HO.out _ HV5.out)
 all_goals
  cases gable
  ·have hQ:=zq (HQ.out rfl _ HV5.out);go_wp2_with fail
   refine hQ.out.mono ?_;rintro e V6⟨rfl,hb⟩;have HV6:=zq (aQ HV5.out hb);have HF6:=zq (QU.out.below hb QU.out.lt);have H16:=zq (H15.out.below hb H15.out.lt);have H46:=zq (H45.out.below hb H45.out.lt);clear hb hQ hO s0 s1 s2 s3 s4 s5 s6 f0 f1 f2 f3 f4 z0 z1 z2 z3 z4 lf QU H15 H45 HV5;obtain⟨s0,s1,s2,s3,s4,s5,s6⟩:=BR H16.out;obtain⟨f0,f1,f2,f3,f4,z0,z1,z2,z3,z4,lf⟩:=five HF6.out;go_upto_region 7 with(fail)
   have HF7:=zq (HF6.out.set 3 (aA (bs QS)));have HV7:=zq (HV6.out.setCell (p:=⟨FB,3,none⟩) Kw.out.2.2 (aA (bs QS)));have H17:=zq (H16.out.other (a:=⟨FB,3,none⟩) (aA (bs QS)) Kw.out.1);have H47:=zq (H46.out.other (a:=⟨FB,3,none⟩) (aA (bs QS)) Kw.out.2.1);simp only[aM,aT,aW]at HF7;clear s0 s1 s2 s3 s4 s5 s6 f0 f1 f2 f3 f4 z0 z1 z2 z3 z4 lf HF6 H16 H46 HV6;generalize V6.setCell ⟨FB,3,none⟩ (aA (bs QS))=V7 at *;obtain⟨s0,s1,s2,s3,s4,s5,s6⟩:=BR H17.out;have hO:=zq (HO.out _ HV7.out);go_wp2_with fail
   refine hO.out.mono ?_;rintro e V8⟨rfl,hb⟩;have HV8:=zq (aQ HV7.out hb);have HF8:=zq (HF7.out.below hb HF7.out.lt);have H48:=zq (H47.out.below hb H47.out.lt);obtain⟨g0,g1,g2,g3,g4,y0,y1,y2,y3,y4,lg⟩:=five HF8.out;obtain⟨k0,k1,k2,k3,k4,v0,v1,v2,v3,v4,lk⟩:=five H48.out;have hne1:=Kw.out.2.1;have hne2:=Ne.symm Kw.out.2.1;clear hb;go_wp2;refine oC (v:=F.v) (by rw[ER.out];exact AI rfl _ _ (w.heap.size+1+1) _ _ _ _ _ rfl (bT.set5 (H48.out.other (a:=⟨FB,4,none⟩) (aA (bs PS)) hne1) _ _ _ _ _) Pv MV) rfl ⟨rfl,MW (HV8.out.setCell (p:=⟨FB,4,none⟩) Kw.out.2.2 (aA (bs PS))) (by omega) _ _ _ _ _⟩
  ·go_wp2_with fail
   refine hO.out.mono ?_;rintro e V8⟨rfl,hb⟩;have HV8:=zq (aQ HV5.out hb);have HF8:=zq (QU.out.below hb QU.out.lt);have H48:=zq (H45.out.below hb H45.out.lt);obtain⟨g0,g1,g2,g3,g4,y0,y1,y2,y3,y4,lg⟩:=five HF8.out;obtain⟨k0,k1,k2,k3,k4,v0,v1,v2,v3,v4,lk⟩:=five H48.out;have hne1:=Kw.out.2.1;have hne2:=Ne.symm Kw.out.2.1;clear hb;go_wp2;refine oC (v:=F.v) (by rw[ER.out];exact AI rfl _ _ (w.heap.size+1+1) _ _ _ _ _ rfl (bT.set5 (H48.out.other (a:=⟨FB,4,none⟩) (aA (bs PS)) hne1) _ _ _ _ _) Pv MV) rfl ⟨rfl,MW (HV8.out.setCell (p:=⟨FB,4,none⟩) Kw.out.2.2 (aA (bs PS))) (by omega) _ _ _ _ _⟩
def iT(l:List Fr):List aP:=l.flatMap fun s=>s.cells.toList
theorem UY(l:List Fr):(iT l).length=l.length*5:=by
 induction l with
 |nil=>rfl
 |cons q qs ih=>simp[iT]at *;omega
theorem UZ(l m:List Fr):iT (l++m)=iT l++iT m:=by simp[iT]
def ZW(l:List Sd)(n:Nat):List Fr:=(dD n).map fun i=>ND (l.getD i default) (fF l i)
def eX(f:Nat→List Sd):Nat→List Fr
 |0=>[]
 |n+1=>eX f n++ZW (f n) (f n).length
theorem frN_step(l:List Sd)(n:Nat):ZW l (n+1)=ZW l n++[ND (l.getD n default) (fF l n)]:=by unfold ZW;rw[DR,eV];rfl
theorem frN_len(l:List Sd)(n:Nat):(ZW l n).length=n:=by simp[ZW]
theorem nQ(f:Nat→List Sd):∀n,(eX f n).length=cE f n
 |0=>rfl
 |n+1=>by rw[eX,bO,nQ f n,frN_len];rfl
theorem info_fr:(Tryz.prog.info? 58).map (fun i=>(i.zero,i.size,i.bytes))=some (some (cF #[aV false,aC aB 0,aC aB 0,aA ⟨#[]⟩,aA ⟨#[]⟩]),5,56):=by kernel_rfl
theorem Yi (a:Option cO) (N cap:Nat) (rs:List Rg) (w:aF) (hl:rs.length=N) (hN:N≤1000) (hn:∀ r,(bF rs r).length≤1000) (rr:GN w a rs) (h0:oW (bF rs) N=0) (hE:mN w) (hD:MU w)
 (kw:∀ W,Below w.heap.size w W→bE aE 20 #[cF #[aD a N cap]] W (Rt (aC aB 0) W)) :
 bE aE 6 #[cF #[aD a N cap]] w fun e w' => (∃ v,e=bA (cK #[v,aC aB 0])∧w'.ownsRow w.heap.size 58 5 v (cE (bF rs) N) (iT (eX (bF rs) N)))∧Below w.heap.size w w' :=by
 obtain⟨c0,c1,c2,c3, -⟩:=rI h0;have GQ:∀ k,k≤N→cE (bF rs) k≤24:=fun k hk=> aU (oX hk) c2;have HS:bK (∀ r i,r < N→i < (bF rs r).length→vV ((bF rs r).getD i default)=true):=fun r i hr hi=> by
  have h1:=cP.1 (cP.1 c3 r hr) i hi;unfold Jh at h1;simpa using h1
 have HF:=zq (fun s t (h:vV s=true) W (hW:Below w.heap.size w W)=> fr_of s t W (hE.below hW) (hD.below hW) h);have JT:=zq GQ;have HR:=zq rr;have HL:=zq hl;have KP:=zq kw;have Hn:=zq hn;clear hl rr h0 hE hD kw GQ c0 c1 c2 c3 hn;have fE:=(aL _ w).alloc (aH _) (aN #[aD a N cap] 24);have tN:=bT.new w #[aD a N cap] 24;obtain⟨W0,eY⟩:=nm (w.alloc (aN #[aD a N cap] 24));rw [eY] at fE tN;have fV:=zq fE;have nO:=zq tN;have b0:=tN.cell 0;simp only [aJ,aI] at b0;have HW:=zq eY;clear fE tN eY;refine dM func6 rfl ?_;simp only [ntmps6,cD,bD,bV,dQ,dR,cA,cB,cR,cH,dF,cJ];go_upto_region 1 with (fail)
 rw [HW.out];clear HW;have qr:=zq (KP.out _ fV.out);go_wp2_with fail
 refine qr.out.mono ?_;rintro e W1 ⟨rfl,hb⟩;have eC:=zq (aQ fV.out hb);have zW:=zq (nO.out.below hb nO.out.lt);have b0:=bR hb b0;clear hb qr KP nO;go_wp2;go_loopw [4,15] (fun v i wr=> ∃ r:Nat,i=aC aB r∧r≤N∧bK (wr.ownsRow w.heap.size 58 5 v (cE (bF rs) r) (iT (eX (bF rs) r)))∧bK (Below w.heap.size w wr)) (fun _ i _=> N - (aK i).toNat);case atStart=> exact⟨0,rfl,bM _,⟨rfl, .inl ⟨rfl,rfl⟩⟩,eC.out⟩
 case round=>
  clear b0;obtain⟨r,rfl,hr,HO,HB⟩:=hrel;rename aF=> wr;by_cases hrN:r < N
  ·obtain⟨b,o,rfl,k0,Pn⟩:=(HR.out.below HB.out).at (i:=r) (by rw [HL.out];exact hrN) rfl;rw [show(rs.getD r default).ss.length=(bF rs r).length from rfl] at k0;have E1:bK (eX (bF rs) (r + 1)=eX (bF rs) r ++ ZW (bF rs r) (bF rs r).length):=rfl;have E2:bK (cE (bF rs) (r + 1)=cE (bF rs) r + (bF rs r).length):=rfl;have GQ:=JT.out (r + 1) hrN;rw [E2.out] at GQ;have HSr:=zq (fun i=> HS.out r i hrN);have ED:bK (∀ W,Below w.heap.size w W→kY W (rs.getD r default).a (bF rs r)):=fun W hW=> ((HR.out.below hW).at (i:=r) (by rw [HL.out];exact hrN) rfl).choose_spec.choose_spec.2.2;clear Pn;obtain⟨A1,jk⟩:=nm (eX (bF rs) (r + 1));obtain⟨C1,hC1⟩:=nm (cE (bF rs) (r + 1));rw [jk] at E1;rw [hC1] at E2;have Sj:=zq jk;have HC1:=zq hC1;clear jk hC1;generalize eX (bF rs) r=A0 at *;generalize cE (bF rs) r=C0 at *;generalize (rs.getD r default).a=ar at *;generalize (rs.getD r default).cap=cr at *;generalize bF rs r=l at *;obtain⟨n,JX⟩:=nm l.length;rw [JX] at k0 E1 E2 GQ HSr;have Sq:=zq JX;clear JX;have hrI:(r:Int) < N:=by omega
   have hNr:iT (A0 ++ ZW l 0)=iT A0:=by simp [ZW]
   go_wp2;go_loopw [4,21] (fun v i wi=> ∃ k:Nat,i=aC aB k∧k≤n∧bK (wi.ownsRow w.heap.size 58 5 v (C0 + k) (iT (A0 ++ ZW l k)))∧bK (Below w.heap.size w wi)) (fun _ i _=> n - (aK i).toNat);case atStart=> exact⟨0,rfl,bM _,by rw [hNr];exact HO.out,HB.out⟩
   case round=>
    clear k0;obtain⟨k,rfl,hk,Nr,eT⟩:=hrel;rename aF=> wi;by_cases hkn:k < n
    ·obtain⟨pb,po,rfl,f0,f1,f2,f3,f4,f5,f6⟩:=(ED.out wi eT.out).at (i:=k) (by rw [Sq.out];exact hkn) rfl;have Hs:=zq (HSr.out k hkn);have ES:=zq (frN_step l k);have LJ:=KX k n;have hmn:(k + 1) % n < n:=Nat.mod_lt _ (by omega);have R3:=zq (fun (V:aF) (h:kY V (some ⟨pb,po,none⟩) l)=> h.at (i:=(k + 1) % n) (s:=fF l k) (by rw [Sq.out];exact hmn) (by unfold fF;rw [Sq.out]));have HFk:=zq (fun W hW=> HF.out (l.getD k default) (fF l k) Hs.out W hW);have HX2:bK (l.getD ((k + 1) % n) default=fF l k):=by show _=_;unfold fF;rw [Sq.out]
     generalize ND (l.getD k default) (fF l k)=FR at *;generalize l.getD k default=s at *;generalize fF l k=t at *;generalize (k + 1) % n=m2 at *;obtain⟨x,y,rise,run,gable,plate,over⟩:=s;obtain⟨x2,y2,ZU,run2,Rq,Rr,ZV⟩:=t;simp only [] at f0 f1 f2 f3 f4 f5 f6;unfold Sd.v Sd.cells at HFk;simp only [] at HFk;obtain⟨fu,fc,fd,fp,ft⟩:=FR;have hki:(k:Int) < n:=by omega
     unfold Fr.v Fr.cells at HFk;simp only [] at HFk;go_upto_region 10 with (fail)
     obtain⟨wb,zp⟩:=nm (wi.alloc (aN #[aC aB x,aC aB y,aC aB rise,aC aB run,aV gable,aC aB plate,aC aB over] 56));have hbb:=(aL _ wi).alloc (aH _) (aN #[aC aB x,aC aB y,aC aB rise,aC aB run,aV gable,aC aB plate,aC aB over] 56);have hqb:=bT.new wi #[aC aB x,aC aB y,aC aB rise,aC aB run,aV gable,aC aB plate,aC aB over] 56;rw [zp] at hbb hqb ⊢;clear zp f0 f1 f2 f3 f4 f5 f6;obtain⟨s0,s1,s2,s3,s4,s5,s6⟩:=BR hqb;have HBb:=zq (aQ eT.out hbb);obtain⟨pb',po',e1,d0,d1,d2,d3,d4,d5,d6⟩:=R3.out wb (ED.out wb HBb.out);injection e1 with e1;injection e1 with e1 e2;subst e1 e2;simp only [] at d0 d1 d2 d3 d4 d5 d6;have HOb:=zq (bJ Nr.out hbb);have HN4:=zq (fun (V:aF) (h:Below w.heap.size w V)=> (ED.out V h).range (i:=m2) (s:=⟨x2,y2,ZU,run2,Rq,Rr,ZV⟩) (by rw [Sq.out];exact hmn) HX2.out);clear hbb Nr eT;have w3:IntKind.i64.wrap ((k:Int) + 1)=(k:Int) + 1:=bI _ (by omega);have v3:(m2:Int) < n:=by omega
     have v4:(0:Int)≤(m2:Int):=by omega
     have v5:¬ n=0:=by omega
     refine qU 12 (fun | 11=> .made | _=> .quiet) (fun V=> bT V wi.heap.size #[aC aB x,aC aB y,aC aB rise,aC aB run,aV gable,aC aB plate,aC aB over] 56∧Below w.heap.size w V) ⟨hqb,HBb.out.drew⟩ ?_ (st:=fun w1 w2 h hb=> ⟨h.1.below hb hqb.lt,h.2.trans (hb.mono HBb.out.size)⟩);refine qS 0 rfl (pu ?_);refine qL 1 wi.heap.size 0 #[aC aB x,aC aB y,aC aB rise,aC aB run,aV gable,aC aB plate,aC aB over] (fun V h=> h.1.1) rfl (pu ?_);refine qS 2 rfl (pu ?_);refine qS 3 rfl (pu ?_);refine qS 4 rfl (pu ?_);refine qS 5 rfl (pu ?_);refine qS 6 rfl (pu ?_);refine qS 7 rfl (pu ?_);refine qS 8 rfl (pu ?_);refine qR 9 pb (po + m2 * 7) #[aC aB x2,aC aB y2,aC aB ZU,aC aB run2,aV Rq,aC aB Rr,aC aB ZV] (fun V h=> HN4.out V h.1.2) rfl (pu ?_);refine qC 10 (fun W h=> HFk.out W h.1.2) rfl (pu ?_);refine qM 11 #[aV fu,aC aB fc,aC aB fd,aA (bs fp),aA (bs ft)] 58 (fun g=> aD (some ⟨g,0,none⟩) 1 1) rfl (fun g hg hn=> pu ?_) ⟨fun _=> rfl,fun w=> by go_simp⟩;refine qT fun V hV hG=> ?_;have hG5:bT V g #[aV fu,aC aB fc,aC aB fd,aA (bs fp),aA (bs ft)] 58:=hG g _ _ (by unfold Ch;rw [ip rfl]);have rU:=hV.b;have hVb:Below w.heap.size w V:=hV.1.2;have hOV:=bJ HOb.out rU;clear hV hG;refine eI 12 [] rfl (fun K hK=> ?_) eB;rw [ip (by kernel_rfl)];obtain⟨i0,hi,yH,zB,sS⟩:=lI info_fr;refine Jd _ _ 27 rfl w.heap.size 58 i0 (cF #[aV false,aC aB 0,aC aB 0,aA ⟨#[]⟩,aA ⟨#[]⟩]) 5 56 underlying27 hi yH zB sS rfl (by decide) _ (C0 + k) _ rfl hOV ⟨g,0,none⟩ 1 1 [aV fu,aC aB fc,aC aB fd,aA (bs fp),aA (bs ft)] rfl rfl (fun j u hj=> by rw [oK,cC,hG5.cell];simpa using hj) (by simp [kA]) (by unfold Cm;omega) (by omega) hVb.size ?_;intro v' w' lL hg';refine hK _ _ (pu ?_);refine tI 13 rfl (pu ?_);refine wpAnyIn_done (by kernel_rfl) ?_ _;refine iM.normal ?_;have zV:=zq (dO (hVb) hg' hOV (aH _) hVb.size);have hlist:iT (A0 ++ ZW l k) ++ [aV fu,aC aB fc,aC aB fd,aA (bs fp),aA (bs ft)]=iT (A0 ++ ZW l (k + 1)):=by
      rw [ES.out,← A8,UZ (A0 ++ ZW l k)];rfl
     rw [hlist] at lL;have re:=zq lL;clear hK hg' lL hOV rU hG5 hVb hlist;go_wp2;go_roundw;case rel=> exact⟨k + 1,by go_num,by omega,re.out,zV.out⟩
     case measure=> simp only [aK];omega
    ·obtain rfl:n=k:=by omega
     have QC:=Nr.out;rw [← E1.out,← E2.out,← Sj.out,← HC1.out] at QC;have QC:=zq QC;go_wp2;go_roundw;case rel=> exact⟨r + 1,by go_num,by omega,QC.out,eT.out⟩
     case measure=> simp only [aK];omega
  ·obtain rfl:N=r:=by omega
   go_wp2;exact oC (mG rfl _ _) rfl ⟨⟨_,rfl,HO.out⟩,HB.out⟩
theorem MX:∀(l:List Fr)(i j:Nat),i<l.length→j<5→(iT l)[i*5+j]? =some ((l.getD i default).cells.getD j aO)
 |[],i,_,h,_=>by simp at h
 |q::qs,0,j,_,hj=>by
  have e:iT (q::qs)=q.cells.toList++iT qs:=rfl
  rw[e,yW,cC,zR (by simpa using hj)]
  match j,hj with
  |0,_=>rfl
  |1,_=>rfl
  |2,_=>rfl
  |3,_=>rfl
  |4,_=>rfl
 |q::qs,i+1,j,h,hj=>by
  have e:iT (q::qs)=q.cells.toList++iT qs:=rfl
  rw[e,gA (by simp;omega),show(i+1)*5+j-q.cells.toList.length=i*5+j by simp;omega]
  exact MX qs i j (by simpa using h) hj
theorem vT.own{w:aF}{cL e:Nat}{a:Option cO}{n cap:Nat}{l:List Fr}(h:w.ownsRow cL e 5 (aD a n cap) n (iT l)):vT w a l:=by
 intro i hi;have hl:=h.1;rw[UY]at hl;rcases h.2 with⟨_,h2⟩|⟨g,c,oL,hv,_⟩
 ·omega
 ·injection hv with e1 e2 e3;subst e1 e3;refine⟨g,0,rfl,fun j hj=>?_⟩;rw[cC,dZ h (i*5+j) (by omega)];exact MX l i j hi hj
theorem U0(a:Option cO)(N cap:Nat)(rs:List Rg)(w:aF)(hl:rs.length=N)(hN:N≤1000)(JY:0<N)(hn:∀r∈rs,r.ss.length≤1000∧0<r.ss.length)(rr:GN w a rs)
 (kw:∀W,Below w.heap.size w W→bE aE 20 #[cF #[aD a N cap]] W (Rt (aC aB 0) W)):
 bE aE 22 #[cF #[aD a N cap]] w fun e w'=>(∃g c,e=bA (cK #[aD (some ⟨g,0,none⟩) (cV rs).length c,aC aB 0])∧kY w' (some ⟨g,0,none⟩) (cV rs))∧Below w.heap.size w w':=by
 have HCc:=zq (fun W(hW:Below w.heap.size w W)=>UX a N cap rs W hl hN JY hn (rr.below hW));have KP:=zq kw;clear hl hn rr kw;have fE:=(aL _ w).alloc (aH _) (aN #[aD a N cap] 24);have tN:=bT.new w #[aD a N cap] 24;obtain⟨W0,eY⟩:=nm (w.alloc (aN #[aD a N cap] 24));rw[eY]at fE tN;have fV:=zq fE;have b0:=tN.cell 0;simp only[aJ,aI]at b0;have HW:=zq eY;clear fE tN eY;refine dM func22 rfl ?_;simp only[ntmps22,cD,bD,bV,dQ,dR,cA,cB,cR,cH,dF,cJ];go_upto_region 1 with(fail)
 rw[HW.out];clear HW;have qr:=zq (KP.out _ fV.out);go_wp2_with fail
 refine qr.out.mono ?_;rintro e W1⟨rfl,hb⟩;have eC:=zq (aQ fV.out hb);have b0:=bR hb b0;have H1:=zq (HCc.out _ eC.out);clear hb qr KP;go_wp2_with fail
 refine H1.out.mono ?_;rintro e W2⟨⟨g,c,rfl,hs⟩,hb⟩;have eT:=zq (aQ eC.out hb);have HS:=zq hs;clear hb hs H1;go_wp2;exact oC (mG rfl _ _) rfl ⟨⟨g,c,rfl,HS.out⟩,eT.out⟩
def AJ(ss:List Sd)(fs:List Fr)(i j:Nat):Int:=if(fs.getD i default).up=true then(ss.getD j default).y else(ss.getD j default).x
theorem li(SB FB:Nat)(sa fa:Option cO)(n m ca cb i j:Nat)(ss:List Sd)(fs:List Fr)(w:aF)(hE:mN w)(hs:ss.length=n)(hf:fs.length=m)(hi:i<m)(hj:j<n)(hn:n≤1000)(hm:m≤1000)
 (cs:w.cell? ⟨SB,0,none⟩=some (aD sa n ca))(cf:w.cell? ⟨FB,0,none⟩=some (aD fa m cb))(rs:kY w sa ss)(rf:vT w fa fs)(hC:AH ss):
 bE aE 24 #[aC aB i,aC aB j,aY (some ⟨SB,0,none⟩),aY (some ⟨FB,0,none⟩)] w (Rt (aA (bs (bG ((AJ ss fs i j:Int):Rat)))) w):=by
 obtain⟨b,o,rfl,s0,s1,-⟩:=rs.at (i:=j) (by omega) rfl;obtain⟨b2,o2,rfl,f0,f1,-⟩:=rf.at (i:=i) (by omega) rfl;obtain⟨x1,x2,y1,y2⟩:=hC j;have hL:(AJ ss fs i j).natAbs<10^18:=by unfold AJ;split <;>omega
 have HO:=zq (fun W(hW:Below w.heap.size w W)=>Gf (AJ ss fs i j) W (hE.below hW) hL);have EL:bK (AJ ss fs i j=if(fs.getD i default).up=true then(ss.getD j default).y else(ss.getD j default).x):=rfl;obtain⟨C,hCe⟩:=nm (AJ ss fs i j);rw[hCe]at HO EL⊢;generalize(ss.getD j default).x=x at *;generalize(ss.getD j default).y=y at *;generalize(fs.getD i default).up=u at *;have hiI:(i:Int)<m:=by omega
 have hjI:(j:Int)<n:=by omega
 clear rs rf hE hs hf hC hL hCe x1 x2 y1 y2 f1;have E:bK (C=if u=true then y else x):=EL;cases u
 ·obtain rfl:C=x:=E.out;refine dM func24 rfl ?_;simp only[ntmps24,cD,bD,bV,dQ,dR,cA,cB,cR,cH,dF,cJ];go_wp2_with fail
  refine(HO.out _ (aL _ _)).mono ?_;rintro e W⟨rfl,hb⟩;go_wp2;exact oC (iS Tryz.results24 _ _ _) rfl ⟨rfl,hb⟩
 ·obtain rfl:C=y:=E.out;refine dM func24 rfl ?_;simp only[ntmps24,cD,bD,bV,dQ,dR,cA,cB,cR,cH,dF,cJ];go_wp2_with fail
  refine(HO.out _ (aL _ _)).mono ?_;rintro e W⟨rfl,hb⟩;go_wp2;exact oC (iS Tryz.results24 _ _ _) rfl ⟨rfl,hb⟩
theorem Ft(f:Nat→List Sd):∀(N i:Nat),i<cE f N→∃r k,r<N∧k<(f r).length∧i=cE f r+k
 |0,i,h=>by simp[cE]at h
 |N+1,i,h=>by
  rw[cE]at h
  by_cases h1:i<cE f N
  ·obtain⟨r,k,h2,h3,h4⟩:=Ft f N i h1
   exact⟨r,k,by omega,h3,h4⟩
  ·exact⟨N,i-cE f N,by omega,by omega,by omega⟩
theorem Jj{f:Nat→List Sd}{r k:Nat}:∀{N:Nat},r<N→k<(f r).length→cE f r+k<cE f N:=fun{N}hr hk=>by
 have:cE f (r+1)≤cE f N:=oX hr
 rw[cE]at this
 omega
theorem MY{α:Type}{l m:List α}{i:Nat}(h:i<l.length)(d:α):(l++m).getD i d=l.getD i d:=by
 simp[aG,zR h]
theorem MZ{α:Type}{l m:List α}{i n:Nat}(h:l.length=n)(d:α):(l++m).getD (n+i) d=m.getD i d:=by
 subst h;simp[aG,gA]
theorem sJ(f:Nat→List Sd):∀(N:Nat) {r k:Nat},r<N→k<(f r).length→(eX f N).getD (cE f r+k) default=ND ((f r).getD k default) (fF (f r) k)
 |N+1,r,k,hr,hk=>by
  rw[eX]
  by_cases h:r<N
  ·rw[MY (by rw[nQ];exact Jj h hk)]
   exact sJ f N h hk
  ·obtain rfl:r=N:=by omega
   rw[MZ (nQ f r)]
   unfold ZW
   simp[aG,hk]
theorem wQ{rs:List Rg}{r k:Nat}(hr:r<rs.length)(hk:k<(bF rs r).length):(cV rs).getD (cE (bF rs) r+k) default=(bF rs r).getD k default:=by
 have h1:rs=rs.take r++rs[r]::rs.drop (r+1):=by rw[List.getElem_cons_drop,List.take_append_drop]
 have h2:cE (bF rs) r=(cV (rs.take r)).length:=by
  have:∀k,k≤r→cE (bF rs) k=cE (bF (rs.take r)) k:=by
   intro k;induction k with
   |zero=>intro _;rfl
   |succ k ih=>
    intro hk;rw[cE,cE,ih (by omega)];congr 2;unfold bF;simp[aG,List.getElem?_take,show k<r by omega]
  rw[this r (aH _)];have h3:(rs.take r).length=r:=by rw[List.length_take];omega
  have:=wP (rs:=rs.take r);rw[h3]at this;exact this
 have e:bF rs r=rs[r].ss:=by unfold bF;simp[aG,hr]
 have h4:cV rs=cV (rs.take r)++(rs[r].ss++cV (rs.drop (r+1))):=by
  conv=>lhs;rw[h1]
  unfold cV;rw[lK,List.flatMap_cons]
 rw[h4,MZ h2.symm,e,MY (by rw[←e];exact hk)]
def begP(ss:List Sd)(fs:List Fr)(C n k:Nat):Pt:=⟨(C+k:Nat),bG ((AJ ss fs (C+k) (C+k):Int):Rat),bG ((AJ ss fs (C+k) (C+(k+1)%n):Int):Rat)⟩
def qX(ss:List Sd)(fs:List Fr)(C n m:Nat):List Pt:=(dD m).map (begP ss fs C n)
def yU(f:Nat→List Sd)(ss:List Sd)(fs:List Fr):Nat→List (List Pt)
 |0=>[]
 |r+1=>yU f ss fs r++[qX ss fs (cE f r) (f r).length (f r).length]
def fG(fs:List Fr):List (List UInt8):=fs.map fun g=>bG ((g.co:Int):Rat)
theorem lj(ss:List Sd)(fs:List Fr)(C n m:Nat):qX ss fs C n (m+1)=qX ss fs C n m++[begP ss fs C n m]:=by unfold qX;rw[DR,eV];rfl
theorem pV(ss:List Sd)(fs:List Fr)(C n m:Nat):(qX ss fs C n m).length=m:=by simp[qX]
theorem DM{f:Nat→List Sd}{ss:List Sd}{fs:List Fr}{l:List Pt}:∀{N:Nat},l∈yU f ss fs N→∃r,r<N∧l=qX ss fs (cE f r) (f r).length (f r).length
 |N+1,h=>by
  rcases List.mem_append.1 h with h|h
  ·obtain⟨r,hr,e⟩:=DM h;exact⟨r,by omega,e⟩
  ·exact⟨N,Nat.lt_succ_self _,List.mem_singleton.1 h⟩
theorem Fu{z:Int}(h:z.natAbs<10^11):Nm (bG (z:Rat)):=Sm.of ((HB.int h).mono (by decide) (by decide))
theorem Yj{ss:List Sd}{fs:List Fr}(hC:AH ss)(i j:Nat):0≤AJ ss fs i j∧AJ ss fs i j≤65536:=by
 have:=hC j;unfold AJ;split <;>omega
theorem co_bd{s t:Sd}(h:0≤s.x∧s.x≤65536∧0≤s.y∧s.y≤65536):0≤(ND s t).co∧(ND s t).co≤65536:=by
 unfold ND;simp only;split <;>omega
theorem beg_ok{f:Nat→List Sd}{N:Nat}{ss:List Sd}(hC:AH ss)(hf:∀r,AH (f r)){r k:Nat}(hr:r<N)(hk:k<(f r).length):uS (eX f N) (fG (eX f N)) (begP ss (eX f N) (cE f r) (f r).length k):=by
 have hlt:=Jj hr hk;have hn:∀i,Nm (bG ((AJ ss (eX f N) (cE f r+k) i:Int):Rat)):=fun i=>Fu (by have:=Yj (fs:=eX f N) hC (cE f r+k) i;omega);have ha:Nm ((fG (eX f N)).getD (cE f r+k) []):=by
  have e:(fG (eX f N)).getD (cE f r+k) []=bG ((((eX f N).getD (cE f r+k) default).co:Int):Rat):=by
   unfold fG;simp[aG,List.getElem?_eq_getElem (show cE f r+k<(eX f N).length by rw[nQ];exact hlt)]
  rw[e,sJ f N hr hk];exact Fu (by have:=co_bd (t:=fF (f r) k) (hf r k);omega)
 have ht:(begP ss (eX f N) (cE f r) (f r).length k).side.toNat=cE f r+k:=rfl;refine⟨⟨cE f r+k,rfl,by rw[nQ];exact hlt⟩,?_,?_,hn _⟩
 ·unfold bW;rw[ht];split
  ·exact ha
  ·exact hn _
 ·unfold bW;rw[ht];split
  ·exact hn _
  ·exact ha
def tW:List Fr:=[⟨false,0,1,[49],[48]⟩,⟨true,10,-1,[49],[48]⟩,⟨false,10,-1,[49],[48]⟩,⟨true,0,1,[49],[48]⟩]
def AZ(u v:List UInt8):List Pt:=[⟨0,u,v⟩,⟨1,u,v⟩,⟨2,v,u⟩,⟨3,v,u⟩]
theorem ZX(a:Option cO)(c:Nat):tO tW (fR tW [48]) [⟨a,c,AZ [48] [49,48]⟩] true=true:=by kernel_rfl
theorem sq_mv3(a:Option cO)(c:Nat):kH tW (fR tW [51]) [⟨a,c,AZ [48] [49,48]⟩]=[AZ [51] [55]]:=by kernel_rfl
theorem sq_mv5(a:Option cO)(c:Nat):kH tW (fR tW [53]) [⟨a,c,AZ [48] [49,48]⟩]=[AZ [53] [53]]:=by kernel_rfl
theorem sq_back3:[AZ [51] [55]].flatten.any (Eu tW)=false:=by kernel_rfl
theorem sq_back5:[AZ [53] [53]].flatten.any (Eu tW)=false:=by kernel_rfl
theorem sq_cmp3:(fH [51] [48]).1=1:=by kernel_rfl
theorem sq_cmp5:(fH [53] [48]).1=1:=by kernel_rfl
theorem sq_v0:cT [48]=0:=by kernel_rfl
theorem sq_v3:cT [51]=3:=by kernel_rfl
theorem sq_v5:cT [53]=5:=by kernel_rfl
theorem sq_q0:(tW.getD 0 default).q=⟨false,0,1,1,0⟩:=by kernel_rfl
theorem sq_q1:(tW.getD 1 default).q=⟨true,10,-1,1,0⟩:=by kernel_rfl
theorem sq_q2:(tW.getD 2 default).q=⟨false,10,-1,1,0⟩:=by kernel_rfl
theorem sq_q3:(tW.getD 3 default).q=⟨true,0,1,1,0⟩:=by kernel_rfl
theorem ZY(u:Bool){z:Rat}(hz:0<z):((⟨u,0,1,1,0⟩:FQ).pos z=(⟨u,10,-1,1,0⟩:FQ).pos z∨(⟨u,10,-1,1,0⟩:FQ).pos z=(⟨u,0,1,1,0⟩:FQ).pos z)→z=5:=by
 rw[II (q:=⟨u,0,1,1,0⟩) hz,II (q:=⟨u,10,-1,1,0⟩) hz];unfold FQ.vel;simp only[];intro h;have e:((1:Int):Rat)=1:=rfl;have e2:((-1:Int):Rat)= -1:=rfl;have e3:((0:Int):Rat)=0:=rfl;have e4:((10:Int):Rat)=10:=rfl;rw[e,e2,e3,e4]at h;grind
theorem sq_ev{z:Rat}(h:zk tW z)(hz:0<z):z=5:=by
 obtain⟨i,hi,h⟩:=h;have hi:i<4:=hi;have ht:∀j,j<4→(tW.getD j default).q.t=0:=fun j hj=>by
  match j,hj with
  |0,_=>rw[sq_q0]
  |1,_=>rw[sq_q1]
  |2,_=>rw[sq_q2]
  |3,_=>rw[sq_q3]
 rcases h with⟨-,h⟩|⟨k,hk,hu,hm,-⟩
 ·rw[ht i hi]at h;grind
 ·match i,k,hi,hk with
  |1,0,_,_=>exact absurd hu (by decide)
  |2,0,_,_=>rw[sq_q0,sq_q2]at hm;exact ZY false hz (.inl hm)
  |2,1,_,_=>exact absurd hu (by decide)
  |3,0,_,_=>exact absurd hu (by decide)
  |3,1,_,_=>rw[sq_q1,sq_q3]at hm;exact ZY true hz (.inr hm)
  |3,2,_,_=>exact absurd hu (by decide)
theorem sq_ev3:¬evB tW [48] [51]:=fun⟨z,h,h1,h2⟩=>by
 rw[sq_v0]at h1;rw[sq_v3]at h2
 have:=sq_ev h h1
 grind
theorem sq_ev5:¬evB tW [48] [53]:=fun⟨z,h,h1,h2⟩=>by
 rw[sq_v0]at h1;rw[sq_v5]at h2
 have:=sq_ev h h1
 grind
theorem ZZ(a:Option cO)(c:Nat):pO tW [⟨a,c,AZ [48] [49,48]⟩] [48] [51]=0:=by
 unfold pO;rw[iN (fun h=>h.elim (by rw[sq_cmp3];decide) sq_ev3),sq_mv3,iN (by rw[sq_back3];decide)]
theorem Z1(a:Option cO)(c:Nat):pO tW [⟨a,c,AZ [48] [49,48]⟩] [48] [53]=0:=by
 unfold pO;rw[iN (fun h=>h.elim (by rw[sq_cmp5];decide) sq_ev5),sq_mv5,iN (by rw[sq_back5];decide)]
theorem sq_val3(a:Option cO)(c:Nat):tP tW [⟨a,c,AZ [48] [49,48]⟩] [48] [51]=[AZ [51] [55]]:=by unfold tP;rw[ip (ZZ a c),sq_mv3]
theorem sq_val5(a:Option cO)(c:Nat):tP tW [⟨a,c,AZ [48] [49,48]⟩] [48] [53]=[AZ [53] [53]]:=by unfold tP;rw[ip (Z1 a c),sq_mv5]
theorem sq_all5(a:Option cO)(c:Nat):tO tW (fR tW [53]) [⟨a,c,AZ [53] [53]⟩] false=true:=by kernel_rfl
theorem sq_all3(a:Option cO)(c:Nat):tO tW (fR tW [51]) [⟨a,c,AZ [51] [55]⟩] false=true:=by kernel_rfl
theorem sq_pl3(a:Option cO)(c:Nat):eU tW (fR tW [51]) [⟨a,c,AZ [51] [55]⟩]=[[⟨[51],[51]⟩,⟨[55],[51]⟩,⟨[55],[55]⟩,⟨[51],[55]⟩]]:=by kernel_rfl
theorem sq_t(s:List UInt8)(n:Int)(h:bG (n:Rat)=s)(hn:n.natAbs<10^11):Sm s:=by rw[←h];exact Fu hn
theorem sq_s0:Sm [48]:=sq_t _ 0 (by kernel_rfl) (by decide)
theorem sq_s3:Sm [51]:=sq_t _ 3 (by kernel_rfl) (by decide)
theorem sq_s5:Sm [53]:=sq_t _ 5 (by kernel_rfl) (by decide)
theorem sq_s7:Sm [55]:=sq_t _ 7 (by kernel_rfl) (by decide)
theorem sq_s10:Sm [49,48]:=sq_t _ 10 (by kernel_rfl) (by decide)
theorem sq_z(n:Int)(s:List UInt8)(h:bG (n:Rat)=s)(hn:n.natAbs≤452984832):Lz s:=by rw[←h];exact Lz.of ⟨by rw[Rat.num_intCast];exact hn,by rw[Rat.den_intCast];decide⟩
theorem sq_z0:Lz [48]:=sq_z 0 _ (by kernel_rfl) (by decide)
theorem sq_z3:Lz [51]:=sq_z 3 _ (by kernel_rfl) (by decide)
theorem sq_z5:Lz [53]:=sq_z 5 _ (by kernel_rfl) (by decide)
theorem La(a:Option cO)(c:Nat){u v:List UInt8}(hu:Sm u)(hv:Sm v):Tp [⟨a,c,AZ u v⟩]:=by
 intro l hl;obtain rfl:=List.mem_singleton.1 hl;refine⟨by show 4≤96;omega,fun p hp=>?_⟩;simp only[AZ,nI,wA,or_false]at hp;rcases hp with rfl|rfl|rfl|rfl
 ·exact⟨hu,hv⟩
 ·exact⟨hu,hv⟩
 ·exact⟨hv,hu⟩
 ·exact⟨hv,hu⟩
theorem Lb(u:Bool)(co d:Int)(h0:0≤co)(h1:co≤65536)(hd:d=1∨d= -1)(f:Fr)(he:(⟨u,co,d,1,0⟩:FQ).fr=f):f.Ok:=by
 rw[←he];refine FQ.Good.ok ⟨h0,h1,hd,⟨1,1,by decide,by decide,by decide,by exact Rat.one_mul _⟩,⟨0,by decide,rfl⟩⟩
theorem Z2:∀f∈tW,f.Ok:=by
 intro f hf;simp only[tW,nI,wA,or_false]at hf;rcases hf with rfl|rfl|rfl|rfl
 ·exact Lb false 0 1 (by decide) (by decide) (.inl rfl) _ (by kernel_rfl)
 ·exact Lb true 10 (-1) (by decide) (by decide) (.inr rfl) _ (by kernel_rfl)
 ·exact Lb false 10 (-1) (by decide) (by decide) (.inr rfl) _ (by kernel_rfl)
 ·exact Lb true 0 1 (by decide) (by decide) (.inl rfl) _ (by kernel_rfl)
theorem sq_one:bL [[53],[53],[53],[53]]=[[53]]:=by
 have h:=mZ (ds:=[[53],[53],[53],[53]]) (by
  intro s hs;simp only[nI,wA,or_false,or_self]at hs;subst hs;exact sq_s5)
 refine asc_eq h.1 (by unfold sI;simp) (fun z=>?_);rw[h.2];simp
theorem sq_xs5(a:Option cO)(c:Nat):(([⟨a,c,AZ [53] [53]⟩]:List Lp).flatMap Lp.ps).map (fun p=>(bW tW (fR tW [53]) p).x)=[[53],[53],[53],[53]]:=by kernel_rfl
theorem sq_ys5(a:Option cO)(c:Nat):(([⟨a,c,AZ [53] [53]⟩]:List Lp).flatMap Lp.ps).map (fun p=>(bW tW (fR tW [53]) p).y)=[[53],[53],[53],[53]]:=by kernel_rfl
theorem Z3(a:Option cO)(c:Nat):tT tW (fR tW [53]) [⟨a,c,AZ [53] [53]⟩]=[]:=by
 have e1:Kr tW (fR tW [53]) [⟨a,c,AZ [53] [53]⟩]=[[53]]:=by unfold Kr;rw[sq_xs5,sq_one]
 have e2:Ks tW (fR tW [53]) [⟨a,c,AZ [53] [53]⟩]=[[53]]:=by unfold Ks;rw[sq_ys5,sq_one]
 unfold tT GM;rw[e1,e2];have hc:=AB tW (fR tW [53]) [[53]] [[53]] [⟨a,c,AZ [53] [53]⟩];generalize nB tW (fR tW [53]) [[53]] [[53]] [⟨a,c,AZ [53] [53]⟩]=C at *;have hf:∀i j,C i j=false:=fun i j=>by
  by_cases h:C i j=true
  ·have:=hc i j h;simp at this;omega
  ·simpa using h
 have hb:∀w,lH C w=false:=fun w=>by
  have e:lft C w.x w.y w.d=false:=by unfold lft;split <;>exact hf _ _
  unfold lH bor;rw[e,Bool.false_and,R8]
 have hl:∀ws:List Wy,jA C ws=([],[]):=fun ws=>by
  unfold jA;induction ws with
  |nil=>rfl
  |cons w ws ih=>
   rw[List.foldl_cons];have e:eR C ([],[]) w=([],[]):=by
    unfold eR;rw[ip (.inr (hb w))]
   rw[e];exact ih
 rw[hl];rfl
theorem U3(a:Option cO)(c:Nat):qQ tW [⟨a,c,AZ [53] [53]⟩] [53]=0:=by
 unfold qQ;rw[Z3];rfl
theorem sq_tval5(a:Option cO)(c:Nat):vJ tW [⟨a,c,AZ [53] [53]⟩] [53]=[]:=by
 unfold vJ;rw[ip (U3 a c),Z3];unfold Bv;simp[nU]
theorem tr_Move1 (Bf:Nat) (a:Option cO) (nf ca:Nat) (fs:List Fr) (p:Pt) (s:Nat) (w:aF) (hE:mN w) (hf:fs.length=nf) (hs:p.side=s) (Ic:s < nf) (eu:nf≤1000000) (hdir:∀ f∈fs,f.dir=1∨f.dir= -1)
 (h1:Sm p.fr) (h2:Sm p.en) (rf:vT w a fs) (hb:bT w Bf #[aD a nf ca] 27) :
 bE aE 47 #[p.v,aY (some ⟨Bf,0,none⟩)] w (Rt (aV (Eu fs p)) w):=by
 have Hc:bK (∀ W,Below w.heap.size w W→bE aE 42 #[aA (bs p.en),aA (bs p.fr)] W (Rt (aC aB (fH p.en p.fr).1) W)):=fun W hW=> mL p.en p.fr W (hE.below hW) h2 h1;have HFs:bK (∀ W,bE aE 49 #[(fs.getD s default).v] W (Rt (aC aB (uH (fs.getD s default))) W)):=fun W=> sE _ W;have hd:=hdir _ (bU (i:=s) (by omega) (default:Fr));have HTs:bK (∀ W,bE aE 48 #[aC aB (uH (fs.getD s default))] W (Rt (aC aB (E6 (fs.getD s default))) W)):=fun W=> by
  refine(OH (uH (fs.getD s default)) W).mono ?_;rintro e w' ⟨rfl,rfl⟩;exact⟨by rw [Zh hd],aL _ _⟩
 have hAb:=Zl hdir hs (by omega);have HAd:bK (zC fs p=(fH p.en p.fr).1 * E6 (fs.getD s default)):=by show _=_;unfold zC;rw [hs];rfl
 have HR:bK (Eu fs p=decide (zC fs p < 0)):=rfl;have fE:=(aL w.heap.size w).alloc (aH _) (aN #[aC aB p.side,aA (bs p.fr),aA (bs p.en)] 68);have Qb:=zq (bT.new w #[aC aB p.side,aA (bs p.fr),aA (bs p.en)] 68);have gt:=hb.below fE hb.lt;obtain⟨fb,fo,rfl,f0,f1,f2,f3,f4⟩:=(rf.below fE).at (i:=s) (by rw [hf];exact Ic) rfl;have fV:=zq fE;have Hbk:=zq gt;clear hE hf hdir h1 h2 rf hb hd fE gt;unfold Fr.v Fr.cells at HFs;unfold Pt.v Pt.cells;generalize Eu fs p=BP at *;generalize zC fs p=AD at *;generalize (fH p.en p.fr).1=CC at *;generalize fs.getD s default=f at *;generalize E6 f=FW at *;generalize uH f=DF at *;obtain⟨uY,fco,fdir,JJ,fst⟩:=f;obtain⟨side,fr,en⟩:=p;simp only [] at *;subst hs;generalize bs JJ=FSP at *;generalize bs fst=FST at *;generalize bs fr=FR at *;generalize bs en=EN at *;have hw:IntKind.i64.wrap (CC * FW)=AD:=by rw [← HAd.out];exact bI _ (by omega)
 obtain⟨WA,NR⟩:∃ WA,w.alloc (aN #[aC aB s,aA FR,aA EN] 68)=WA:=⟨_,rfl⟩;rw [NR] at f0 f1 f2 f3 f4 fV Hbk Qb;obtain⟨e0,e1,e2⟩:=Qb.out.three;have k0:WA.cell? ⟨Bf,0,none⟩=some (aD (some ⟨fb,fo,none⟩) nf ca):=Hbk.out.cell 0;clear hAb Hbk;go_enter func47,ntmps47;go_wp2;try rw [NR]
 have BX:WA.heap.size=w.heap.size + 1:=by rw [← NR];simp
 have HWs:bK (Below WA.heap.size WA WA.drew):=(aL _ WA).drew;clear NR BX;go_cut [3] (fun v W=> v=aV BP∧bK (Below w.heap.size w W));case first=>
  go_region_held3 (fun w' => (w'.cell? ⟨w.heap.size,0,none⟩=some (aC aB s)∧w'.cell? ⟨w.heap.size,1,none⟩=some (aA FR)∧w'.cell? ⟨w.heap.size,2,none⟩=some (aA EN))∧w'.cell? ⟨Bf,0,none⟩=some (aD (some ⟨fb,fo,none⟩) nf ca)∧w'.cell? ⟨fb,fo + s * 5,none⟩=some (aV uY)∧w'.cell? ⟨fb,fo + s * 5 + 1,none⟩=some (aC aB fco)∧w'.cell? ⟨fb,fo + s * 5 + 2,none⟩=some (aC aB fdir)∧w'.cell? ⟨fb,fo + s * 5 + 3,none⟩=some (aA FSP)∧w'.cell? ⟨fb,fo + s * 5 + 4,none⟩=some (aA FST)) (go_keep)
   (first
    | (go_at_call 42;(with_reducible refine(Hc.out _ (aQ fV.out HWs.out)).mono ?_);rintro e w1 ⟨rfl,hb1⟩;have hBo:=zq (aQ HWs.out hb1);have:=ck hb1 w.heap.size 0 (aC aB s);have:=ck hb1 w.heap.size 1 (aA FR);have:=ck hb1 w.heap.size 2 (aA EN);have:=ck hb1 Bf 0 (aD (some ⟨fb,fo,none⟩) nf ca);have m0:=bR hb1 (p:=⟨fb,fo + s * 5,none⟩) (v:=aV uY) (by simp [*]);have m1:=bR hb1 (p:=⟨fb,fo + s * 5 + 1,none⟩) (v:=aC aB fco) (by simp [*]);have m2:=bR hb1 (p:=⟨fb,fo + s * 5 + 2,none⟩) (v:=aC aB fdir) (by simp [*]);have m3:=bR hb1 (p:=⟨fb,fo + s * 5 + 3,none⟩) (v:=aA FSP) (by simp [*]);have m4:=bR hb1 (p:=⟨fb,fo + s * 5 + 4,none⟩) (v:=aA FST) (by simp [*]))
    | (go_at_call 49;(with_reducible refine(HFs.out _).mono ?_);rintro e w2 ⟨rfl,hb2⟩;have hBf:=zq (aQ hBo.out hb2);have:=ck hb2 w.heap.size 0 (aC aB s);have:=ck hb2 w.heap.size 1 (aA FR);have:=ck hb2 w.heap.size 2 (aA EN);have:=ck hb2 Bf 0 (aD (some ⟨fb,fo,none⟩) nf ca);have m0:=bR hb2 (p:=⟨fb,fo + s * 5,none⟩) (v:=aV uY) (by simp [*]);have m1:=bR hb2 (p:=⟨fb,fo + s * 5 + 1,none⟩) (v:=aC aB fco) (by simp [*]);have m2:=bR hb2 (p:=⟨fb,fo + s * 5 + 2,none⟩) (v:=aC aB fdir) (by simp [*]);have m3:=bR hb2 (p:=⟨fb,fo + s * 5 + 3,none⟩) (v:=aA FSP) (by simp [*]);have m4:=bR hb2 (p:=⟨fb,fo + s * 5 + 4,none⟩) (v:=aA FST) (by simp [*]))
    | (go_at_call 48;(with_reducible refine(HTs.out _).mono ?_);rintro e w3 ⟨rfl,hb3⟩;have hBt:=zq (aQ hBf.out hb3);have:=ck hb3 w.heap.size 0 (aC aB s);have:=ck hb3 w.heap.size 1 (aA FR);have:=ck hb3 w.heap.size 2 (aA EN);have:=ck hb3 Bf 0 (aD (some ⟨fb,fo,none⟩) nf ca);have m0:=bR hb3 (p:=⟨fb,fo + s * 5,none⟩) (v:=aV uY) (by simp [*]);have m1:=bR hb3 (p:=⟨fb,fo + s * 5 + 1,none⟩) (v:=aC aB fco) (by simp [*]);have m2:=bR hb3 (p:=⟨fb,fo + s * 5 + 2,none⟩) (v:=aC aB fdir) (by simp [*]);have m3:=bR hb3 (p:=⟨fb,fo + s * 5 + 3,none⟩) (v:=aA FSP) (by simp [*]);have m4:=bR hb3 (p:=⟨fb,fo + s * 5 + 4,none⟩) (v:=aA FST) (by simp [*])))
  all_goals
   go_wp2;go_meet;case rel=> exact⟨by first | (rw [HR.out];done) | (rw [HR.out];rfl) | (rw [HR.out,hw];done) | (rw [HR.out,hw];rfl),aQ fV.out hBt.out⟩
 case rest=>
 obtain⟨rfl,HB⟩:=hcut;go_wp2;go_ret;exact⟨rfl,HB.out⟩
theorem tr_Move2(p:Pt)(w:aF)(hE:mN w)(h1:Sm p.fr)(h2:Sm p.en):
 bE aE 50 #[p.v] w (Rt (aV false) w):=by
 have H1:bK (∀W,Below w.heap.size w W→bE aE 51 #[aA (bs p.fr)] W (Rt (aC aB 0) W)):=fun W hW=>by
  have:=Gj p.fr W (hE.below hW) h1;rwa[show numF p.fr=0 from h1.1]at this
 have H2:bK (∀W,Below w.heap.size w W→bE aE 51 #[aA (bs p.en)] W (Rt (aC aB 0) W)):=fun W hW=>by
  have:=Gj p.en W (hE.below hW) h2;rwa[show numF p.en=0 from h2.1]at this
 have fV:=zq ((aL w.heap.size w).alloc (aH _) (aN #[aC aB p.side,aA (bs p.fr),aA (bs p.en)] 68));have Qb:=zq (bT.new w #[aC aB p.side,aA (bs p.fr),aA (bs p.en)] 68);clear hE h1 h2;unfold Pt.v Pt.cells;obtain⟨side,fr,en⟩:=p;simp only[]at *;generalize bs fr=FR at *;generalize bs en=EN at *;go_enter func50,ntmps50;go_wp2_with fail
 refine ka (H1.out _ fV.out) fun W1 hb1=>?_;have eC:=zq (aQ fV.out hb1);have Q1:=zq (Qb.out.below hb1 Qb.out.lt);obtain⟨e0,e1,e2⟩:=Q1.out.three;clear hb1;go_wp2_with fail
 refine kb (H2.out _ eC.out) eC.out fun W2 eT=>?_;go_wp2;go_ret;exact⟨rfl,eT.out⟩
end
end Go.Proofs.YtkchhginppjaiaaGreatDoor
