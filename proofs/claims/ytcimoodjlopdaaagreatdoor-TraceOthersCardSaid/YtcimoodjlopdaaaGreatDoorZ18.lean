import Derived.IntWalk
import Derived.Outline
import Derived.Test.YtcimoodjlopdaaaGreatDoorZ0
import Derived.Test.YtcimoodjlopdaaaGreatDoorZ17
namespace Go.Proofs.YtcimoodjlopdaaaGreatDoor
set_option maxRecDepth 100000
set_option maxHeartbeats 8000000
set_option linter.all false
open Go.Proofs.Tryz
open Bool renaming or_eq_false_iff->fM,and_false->QC
open Go renaming World->aE,Calls->aQ,Value->bB,bodyPost_ret->cD,Addr->dE,Oper->A8,wpList->Dm,info_parts->OG
open Go.Ending renaming returned->aO
open Go.IntKind renaming i64->aG
open Go.IntWalk renaming i64_in->aP
open Go.Obj renaming cells->aL
open Go.Proofs.Tryz renaming prog->aC
open Go.RowKit renaming Below->aJ,intOf->aK,Hid->aY
open Go.RowKit.Below renaming refl->aI
open Go.Value renaming string->aA,slice->aB,int->aF,bool->aM,tuple->bO,pointer->cB,agg->dM,ownBlock->zQ,oneCell'->Nw
open Go.World renaming size_alloc->aS,block_lt_of_cell?->bF,ownsRow_lit->jJ,ownsRow->B3
open Go.World.ownsRow renaming cellAt->gJ
open List renaming getD_eq_getElem?_getD->aN,length_map->cG,length_append->cU,getElem?_cons_succ->cW,take_of_length_le->dH,take_succ_eq_append_getElem->dQ,getElem_of_mem->fV,map_append->qO
open Nat renaming le_refl->aD,zero_le->bR,zero_add->gL
open Option.some renaming injEq->uH
open Trans renaming trans->cL
section
open Go Go.RowKit Go.Lib
theorem lk (a b c:Option dE) (nf n ca cb cc:Nat) (fs:List Fr) (at' :List (List UInt8)) (ps:List Pt) (right:Bool) (w:aE) (hE:eZ w)
 (hf:fs.length=nf) (hl:at'.length=nf) (hp:ps.length=n) (hn:n≤1000000) (hdir:∀ f∈fs,f.dir=1∨f.dir= -1) (rV:∀ p∈ps,p.fr.length≤8000000∧p.en.length≤8000000)
 (rf:wP w a fs) (ra:xO w b at') (rp:Fg w c ps) :
 aQ aC 68 #[dM #[aB a nf ca,aB b nf cb],aB c n cc,aM right] w (Rt (aM (fG fs at' ps right)) w):=by
 have HS:aY (∀ s:List UInt8,s.length≤8000000→∀ W,aJ w.heap.size w W→aQ aC 47 #[aA (bs s)] W (Rt (aF aG (dR s)) W)):=fun s hs W h=> by
  have:=GO (bs s) W (hE.below h) (by rw [bU];exact hs);rwa [aX] at this
 have HO:aY (∀ s t:List UInt8,s.length≤8000000→t.length≤8000000→∀ W,aJ w.heap.size w W→aQ aC 38 #[aA (bs s),aA (bs t)] W (Rt (aF aG (gY s t).1) W)):=fun s t hs ht W h=> by
  have:=rX (bs s) (bs t) W (hE.below h) (by rw [bU];exact hs) (by rw [bU];exact ht);rwa [aX,aX] at this
 have HF:aY (∀ i,i < nf→∀ W,aQ aC 45 #[(fs.getD i default).v] W (Rt (aF aG (nD (fs.getD i default))) W)):=fun i hi W=> qL _ W;have HT:aY (∀ i,i < nf→∀ W,aQ aC 44 #[aF aG (nD (fs.getD i default))] W (Rt (aF aG (yW (fs.getD i default))) W)):=fun i hi W=> by
  have:=Og (nD (fs.getD i default)) W;rw [Xz (hdir _ (cP (by rw [hf];exact hi) default))] at this;refine this.mono ?_;rintro e w' ⟨h1,rfl⟩;exact⟨h1,aI _ _⟩
 have HJ:aY (∀ p q:Pt,(∃ s:Nat,p.side=s∧s < nf)→(∃ s:Nat,q.side=s∧s < nf)→∀ W,aJ w.heap.size w W→aQ aC 125 #[dM #[aB a nf ca,aB b nf cb],p.v,q.v] W (Rt (aM (wZ fs at' p q)) W)):=by
  rintro p q ⟨s,hs,BQ⟩ ⟨t,ht,QP⟩ W h;exact Zs a b nf ca cb fs at' p q s t W hdir hs ht BQ QP hf hl (rf.below h) (ra.below h)
 have HA:aY (∀ p:Pt,∀ s:Nat,p.side=s→s < nf→ -1≤wG fs p∧wG fs p≤1):=fun p s hs BQ=> KJ hdir hs (by rw [hf];exact BQ);have Hf:=zq hf;have Hp:=zq hp;have Rf:=zq rf;have Rp:=zq rp;have SS:aY (∀ i,i < n→(ps.getD i default).fr.length≤8000000∧(ps.getD i default).en.length≤8000000):=fun i hi=> rV _ (cP (by rw [hp];exact hi) default);have R1:aY (n < 4→fG fs at' ps right=false):=fun h=> JL (by rw [hp];exact h);have R2:aY (∀ i,i < n→yY fs right (ps.getD i default)=false→fG fs at' ps right=false):=fun i hi h=> Mf (by rw [hp];exact hi) h;have R3:aY (∀ i,i < n→wZ fs at' (ps.getD i default) (ps.getD ((i + 1) % n) default)=false→fG fs at' ps right=false):=fun i hi h=> Mg (by rw [hp];exact hi) (by rw [hp];exact h);have R4:aY (¬ n < 4→anyN (Ec fs right ps) n=false→anyN (Cn fs at' ps) n=false→fG fs at' ps right=true):=fun h1 h2 h3=> SQ (by rw [hp];exact h1) (by rw [hp];exact h2) (by rw [hp];exact h3);have R5:aY (∀ i,anyN (Ec fs right ps) n=false→i < n→∃ s:Nat,(ps.getD i default).side=s∧s < nf):=fun i h hi=> by
  have:=Fj (IP h hi);rwa [hf] at this
 have R6:aY (∀ i,Cn fs at' ps i= !wZ fs at' (ps.getD i default) (ps.getD ((i + 1) % n) default)):=fun i=> by unfold Cn;rw [hp]
 have T0:=zq (bZ.new w #[aB a nf ca,aB b nf cb] 58);have BT:=zq ((aI w.heap.size w).alloc (aD _) (aL #[aB a nf ca,aB b nf cb] 58));clear hE hf hl hp hdir rV rf ra rp;by_cases h4:n < 4
 ·have R:=zq (R1.out h4);go_enter func68,ntmps68;go_wp2;go_ret;exact⟨by rw [R.out] <;> rfl,BT.out⟩
 ·go_enter func68,ntmps68;go_wp2;go_loopw [17] (fun i wr=> ∃ k:Nat,i=aF aG k∧k≤n∧aY (aJ w.heap.size w wr)∧aY (bZ wr w.heap.size #[aB a nf ca,aB b nf cb] 58)∧aY (anyN (Ec fs right ps) k=false)) (fun i _=> n - (aK i).toNat);case atStart=> exact⟨0,rfl,bR _,BT.out,T0.out,rfl⟩
  case round=>
   clear BT T0;obtain⟨k,rfl,hk,HB,ll,hz⟩:=hrel;by_cases hlt:k < n
   ·obtain⟨pb,po,rfl,c0,c1,c2⟩:=(Rp.out.below HB.out).at (i:=k) (by rw [Hp.out];exact hlt) rfl;have Rk:=zq (R2.out k hlt);have kN:=SS.out k hlt;have HBb:=zq (fun (x:Pt)=> HB.out.alloc HB.out.size (aL #[aF aG x.side,aA (bs x.fr),aA (bs x.en)] 46));have lj:aY (yY fs right (ps.getD k default)=true→anyN (Ec fs right ps) (k + 1)=false):=fun h=> oZ hz.out (by unfold Ec;rw [h];rfl);have EA:aY (yY fs right (ps.getD k default)=(decide (0≤(ps.getD k default).side) && decide ((ps.getD k default).side < nf) && decide (dR (ps.getD k default).fr=0) && decide (dR (ps.getD k default).en=0) && (!decide (wG fs (ps.getD k default) < 0) && !(right && decide (wG fs (ps.getD k default)=0))))):=by
     show _=_;unfold yY;rw [Hf.out]
    generalize ps.getD k default=p at *;have Kk:=zq (HBb.out p);have qb:=bZ.new wr #[aF aG p.side,aA (bs p.fr),aA (bs p.en)] 46;have Qb:=zq qb;clear HBb qb hz;have Hc:=zq (HO.out p.en p.fr kN.2 kN.1);have bo:=zq (HS.out p.fr kN.1);have tt:=zq (HS.out p.en kN.2);have HAp:=zq (HA.out p);have br:aY (wG fs p=(gY p.en p.fr).1 * yW (fs.getD p.side.toNat default)):=rfl;generalize yY fs right p=PB at *;generalize wG fs p=AD at *;generalize (gY p.en p.fr).1=CC at *;clear kN;generalize dR p.fr=N1 at *;generalize dR p.en=N2 at *;obtain⟨side,fr,en⟩:=p;simp only [] at *;generalize bs fr=FR at *;generalize bs en=EN at *;obtain⟨t0,t1, -, -,tl⟩:=ll.out.two;by_cases g1:side < 0
    ·have R:aY (fG fs at' ps right=false):=Rk.out (by rw [EA.out,decide_eq_false (by omega)];rfl);go_wp2;go_ret;exact⟨by rw [R.out] <;> rfl,Kk.out⟩
    ·by_cases g2:(nf:Int)≤side
     ·have R:aY (fG fs at' ps right=false):=Rk.out (by rw [EA.out,decide_eq_false (p:=side < (nf:Int)) (by omega),QC];rfl);go_wp2;go_ret;exact⟨by rw [R.out] <;> rfl,Kk.out⟩
     ·obtain⟨s,rfl⟩:∃ s:Nat,side=s:=⟨side.toNat,by omega⟩;have BQ:s < nf:=by omega
      have EA:aY (PB=(decide (N1=0) && decide (N2=0) && (!decide (AD < 0) && !(right && decide (AD=0))))):=by
       show _=_;rw [EA.out,decide_eq_true (by omega),decide_eq_true (p:=(s:Int) < (nf:Int)) (by omega)];simp [Bool.and_assoc]
      clear g1 g2;by_cases n1:N1=0;case neg=>
       have R:aY (fG fs at' ps right=false):=Rk.out (by rw [EA.out,decide_eq_false n1];rfl);have n1' :(N1 !=0)=true:=by rw [bne_iff_ne];exact n1
       clear n1;go_wp2_with fail
       with_reducible refine(bo.out _ Kk.out).mono ?_
       rintro e W1 ⟨rfl,hb1⟩;go_wp2;go_ret;exact⟨by rw [R.out] <;> rfl,aT Kk.out hb1⟩
      case pos=>
       subst n1;go_wp2_with fail
       with_reducible refine(bo.out _ Kk.out).mono ?_
       rintro e W1 ⟨rfl,hb1⟩;have fK:=zq (aT Kk.out hb1);have Q1:=zq (Qb.out.below hb1 Qb.out.lt);have SU:=zq ((ll.out.alloc (aL #[aF aG s,aA FR,aA EN] 46)).below hb1 (ll.out.alloc _).lt);obtain⟨e0,e1,e2⟩:=Q1.out.three;obtain⟨t0,t1, -, -,tl⟩:=SU.out.two;have el:=Q1.out.lt;clear hb1 bo;by_cases n2:N2=0;case neg=>
        have R:aY (fG fs at' ps right=false):=Rk.out (by rw [EA.out,decide_eq_false n2];rfl);have n2' :(N2 !=0)=true:=by rw [bne_iff_ne];exact n2
        clear n2;go_wp2_with fail
        with_reducible refine(tt.out _ fK.out).mono ?_
        rintro e W2 ⟨rfl,hb2⟩;go_wp2;go_ret;exact⟨by rw [R.out] <;> rfl,aT fK.out hb2⟩
       case pos=>
        subst n2;have EA:aY (PB=(!decide (AD < 0) && !(right && decide (AD=0)))):=EA;go_wp2_with fail
        with_reducible refine(tt.out _ fK.out).mono ?_
        rintro e W2 ⟨rfl,hb2⟩;have gD:=zq (aT fK.out hb2);have Q2:=zq (Q1.out.below hb2 Q1.out.lt);have zv:=zq (SU.out.below hb2 SU.out.lt);have hAb:=HAp.out s rfl BQ;rw [show((s:Int)).toNat=s from rfl] at br;have tu:=zq (HF.out s BQ);have tv:=zq (HT.out s BQ);obtain⟨fb,fo,rfl,f0,f1,f2,f3,f4⟩:=(Rf.out.below gD.out).at (i:=s) (by rw [Hf.out];exact BQ) rfl;unfold Fr.v Fr.cells at tu;generalize fs.getD s default=f at *;generalize yW f=FW at *;generalize nD f=DF at *;obtain⟨uM,yX,kX,DX,KI⟩:=f;simp only [] at *;generalize bs DX=FSP at *;generalize bs KI=FST at *;obtain⟨e0,e1,e2⟩:=Q2.out.three;obtain⟨t0,t1, -, -,tl⟩:=zv.out.two;have el:=Q2.out.lt;have hw:IntKind.i64.wrap (CC * FW)=AD:=by rw [← br.out];exact aP _ (by omega)
        clear hb2 tt HAp br fK Q1 Q2 Qb Kk ll SU;go_wp2;go_cut [9] (fun v W=> v=aF aG AD∧aY (aJ W2.heap.size W2 W));case first=>
         go_region_held3 (fun w' => (w'.cell? ⟨wr.heap.size,0,none⟩=some (aF aG s)∧w'.cell? ⟨wr.heap.size,1,none⟩=some (aA FR)∧w'.cell? ⟨wr.heap.size,2,none⟩=some (aA EN))∧(w'.cell? ⟨w.heap.size,0,none⟩=some (aB (some ⟨fb,fo,none⟩) nf ca)∧w'.cell? ⟨w.heap.size,1,none⟩=some (aB b nf cb))∧w'.cell? ⟨fb,fo + s * 5,none⟩=some (aM uM)∧w'.cell? ⟨fb,fo + s * 5 + 1,none⟩=some (aF aG yX)∧w'.cell? ⟨fb,fo + s * 5 + 2,none⟩=some (aF aG kX)∧w'.cell? ⟨fb,fo + s * 5 + 3,none⟩=some (aA FSP)∧w'.cell? ⟨fb,fo + s * 5 + 4,none⟩=some (aA FST)) (go_keep)
          (first
           | (go_at_call 38;with_reducible refine(Hc.out _ (by first | exact gD.out.drew | exact aT gD.out hBt.out | exact aT gD.out hBf.out)).mono ?_;rintro e w1 ⟨rfl,hb1⟩;have Uz:=zq (aT (by first | exact hBt.out | exact hBf.out | exact(aI _ W2).drew) hb1);have:=ck hb1 wr.heap.size 0 (aF aG s);have:=ck hb1 wr.heap.size 1 (aA FR);have:=ck hb1 wr.heap.size 2 (aA EN);have:=ck hb1 w.heap.size 0 (aB (some ⟨fb,fo,none⟩) nf ca);have:=ck hb1 w.heap.size 1 (aB b nf cb);have m0:=bV hb1 (p:=⟨fb,fo + s * 5,none⟩) (v:=aM uM) (by simp [*]);have m1:=bV hb1 (p:=⟨fb,fo + s * 5 + 1,none⟩) (v:=aF aG yX) (by simp [*]);have m2:=bV hb1 (p:=⟨fb,fo + s * 5 + 2,none⟩) (v:=aF aG kX) (by simp [*]);have m3:=bV hb1 (p:=⟨fb,fo + s * 5 + 3,none⟩) (v:=aA FSP) (by simp [*]);have m4:=bV hb1 (p:=⟨fb,fo + s * 5 + 4,none⟩) (v:=aA FST) (by simp [*]))
           | (go_at_call 45;with_reducible refine(tu.out _).mono ?_;rintro e w1 ⟨rfl,hb1⟩;have hBf:=zq (aT (by first | exact Uz.out | exact(aI _ W2).drew) hb1);have:=ck hb1 wr.heap.size 0 (aF aG s);have:=ck hb1 wr.heap.size 1 (aA FR);have:=ck hb1 wr.heap.size 2 (aA EN);have:=ck hb1 w.heap.size 0 (aB (some ⟨fb,fo,none⟩) nf ca);have:=ck hb1 w.heap.size 1 (aB b nf cb);have m0:=bV hb1 (p:=⟨fb,fo + s * 5,none⟩) (v:=aM uM) (by simp [*]);have m1:=bV hb1 (p:=⟨fb,fo + s * 5 + 1,none⟩) (v:=aF aG yX) (by simp [*]);have m2:=bV hb1 (p:=⟨fb,fo + s * 5 + 2,none⟩) (v:=aF aG kX) (by simp [*]);have m3:=bV hb1 (p:=⟨fb,fo + s * 5 + 3,none⟩) (v:=aA FSP) (by simp [*]);have m4:=bV hb1 (p:=⟨fb,fo + s * 5 + 4,none⟩) (v:=aA FST) (by simp [*]))
           | (go_at_call 44;with_reducible refine(tv.out _).mono ?_;rintro e w1 ⟨rfl,hb1⟩;have hBt:=zq (aT (by first | exact Uz.out | exact hBf.out) hb1);have:=ck hb1 wr.heap.size 0 (aF aG s);have:=ck hb1 wr.heap.size 1 (aA FR);have:=ck hb1 wr.heap.size 2 (aA EN);have:=ck hb1 w.heap.size 0 (aB (some ⟨fb,fo,none⟩) nf ca);have:=ck hb1 w.heap.size 1 (aB b nf cb);have m0:=bV hb1 (p:=⟨fb,fo + s * 5,none⟩) (v:=aM uM) (by simp [*]);have m1:=bV hb1 (p:=⟨fb,fo + s * 5 + 1,none⟩) (v:=aF aG yX) (by simp [*]);have m2:=bV hb1 (p:=⟨fb,fo + s * 5 + 2,none⟩) (v:=aF aG kX) (by simp [*]);have m3:=bV hb1 (p:=⟨fb,fo + s * 5 + 3,none⟩) (v:=aA FSP) (by simp [*]);have m4:=bV hb1 (p:=⟨fb,fo + s * 5 + 4,none⟩) (v:=aA FST) (by simp [*])))
         all_goals
          go_wp2;go_meet;case rel=> exact⟨by first | rfl | rw [hw],by first | exact hBt.out | exact Uz.out⟩
        case rest=>
        obtain⟨rfl,HB3⟩:=hcut;have Ad:=zq (aT gD.out HB3.out);have HTx:=zq (zv.out.below HB3.out zv.out.lt);clear hw gD HB3 tu tv Hc f0 f1 f2 f3 f4 e0 e1 e2 el t0 t1 tl zv;by_cases d1:AD < 0
        ·have R:aY (fG fs at' ps right=false):=Rk.out (by rw [EA.out,decide_eq_true d1];rfl);go_wp2;go_ret;exact⟨by rw [R.out] <;> rfl,Ad.out⟩
        ·have EA:aY (PB= !(right && decide (AD=0))):=by
          show _=_;rw [EA.out,decide_eq_false d1];rfl
         by_cases d2:AD=0
         ·subst d2;cases right with
          | true=>
           have R:aY (fG fs at' ps true=false):=Rk.out (by rw [EA.out];rfl);go_wp2;go_ret;exact⟨by rw [R.out] <;> rfl,Ad.out⟩
          | false=>
           have e:=zq (lj.out (by rw [EA.out];rfl));go_wp2;go_roundw;case rel=> exact⟨k + 1,by go_num,by omega,Ad.out,HTx.out,e.out⟩
           case measure=> simp only [aK];omega
         ·have e:=zq (lj.out (by rw [EA.out,decide_eq_false d2,QC];rfl));have d3:(AD==0)=false:=by simpa using d2
          cases right;all_goals
           go_wp2;go_roundw;case rel=> exact⟨k + 1,by go_num,by omega,Ad.out,HTx.out,e.out⟩
           case measure=> simp only [aK];omega
   ·obtain rfl:n=k:=by omega
    clear HS HO HF HT HA R1 R2 hlt;go_wp2;go_loopw [70] (fun i wr=> ∃ j:Nat,i=aF aG j∧j≤n∧aY (aJ w.heap.size w wr)∧aY (bZ wr w.heap.size #[aB a nf ca,aB b nf cb] 58)∧aY (anyN (Cn fs at' ps) j=false)) (fun i _=> n - (aK i).toNat);case atStart=> exact⟨0,rfl,bR _,HB.out,ll.out,rfl⟩
    case round=>
     clear HB ll;obtain⟨j,rfl,hj,HB,ll,hy⟩:=hrel;by_cases hlt:j < n
     ·have QQ:(j + 1) % n < n:=Nat.mod_lt _ (by omega);have GG:=xU j n;have Fe:=zq (R3.out j hlt);have HR6:=zq (R6.out j);have HRn:aY (Cn fs at' ps j=false→anyN (Cn fs at' ps) (j + 1)=false):=fun h=> oZ hy.out h;have Dx:=R5.out j hz.out hlt;have AB:=R5.out _ hz.out QQ;generalize (j + 1) % n=q at *;obtain⟨pb,po,rfl,c0,c1,c2⟩:=(Rp.out.below HB.out).at (i:=j) (by rw [Hp.out];exact hlt) rfl;obtain⟨pb',po',e1,d0,d1,d2⟩:=(Rp.out.below HB.out).at (i:=q) (by rw [Hp.out];exact QQ) rfl;injection e1 with e1;injection e1 with e1 e2;subst e1 e2;have HJj:=zq (HJ.out _ _ Dx AB);clear Dx AB;generalize Cn fs at' ps j=BJ at *;generalize ps.getD j default=p at *;generalize ps.getD q default=p2 at *;generalize wZ fs at' p p2=JB at *;unfold Pt.v Pt.cells at HJj;obtain⟨s1,u1,v1⟩:=p;obtain⟨s2,u2,v2⟩:=p2;simp only [] at *;generalize bs u1=U1 at *;generalize bs v1=V1 at *;generalize bs u2=U2 at *;generalize bs v2=V2 at *;have EQ:IntKind.i64.wrap ((j:Int) + 1)=(j:Int) + 1:=aP _ (by omega);have Gf:¬ n=0:=by omega
      have hqi:(q:Int) < (n:Int):=by omega
      have wl:(0:Int)≤(q:Int):=by omega
      have S:aY (JB=false→fG fs at' ps right=false):=Fe.out;obtain⟨t0,t1, -, -,tl⟩:=ll.out.two;have Kk:=zq (HB.out.alloc HB.out.size (aL #[aF aG s1,aA U1,aA V1] 46));go_wp2;go_cut [86] (fun v W=> v=aM (!JB)∧aY (aJ wr.heap.size wr W));case first=>
       go_region_held3 (fun w' => (w'.cell? ⟨wr.heap.size,0,none⟩=some (aF aG s1)∧w'.cell? ⟨wr.heap.size,1,none⟩=some (aA U1)∧w'.cell? ⟨wr.heap.size,2,none⟩=some (aA V1))∧(w'.cell? ⟨w.heap.size,0,none⟩=some (aB a nf ca)∧w'.cell? ⟨w.heap.size,1,none⟩=some (aB b nf cb))∧w'.cell? ⟨pb,po + q * 3,none⟩=some (aF aG s2)∧w'.cell? ⟨pb,po + q * 3 + 1,none⟩=some (aA U2)∧w'.cell? ⟨pb,po + q * 3 + 2,none⟩=some (aA V2)) (go_keep)
        (first
         | (go_at_call 125;with_reducible refine(HJj.out _ Kk.out.drew).mono ?_;rintro e w1 ⟨rfl,hb1⟩;have Uz:=zq (((aI wr.heap.size wr).alloc (aD _) _).drew.trans (hb1.mono (by simp)));have:=ck hb1 wr.heap.size 0 (aF aG s1);have:=ck hb1 wr.heap.size 1 (aA U1);have:=ck hb1 wr.heap.size 2 (aA V1);have:=ck hb1 w.heap.size 0 (aB a nf ca);have:=ck hb1 w.heap.size 1 (aB b nf cb);have m3:=bV hb1 (p:=⟨pb,po + q * 3,none⟩) (v:=aF aG s2) (by simp [*]);have m4:=bV hb1 (p:=⟨pb,po + q * 3 + 1,none⟩) (v:=aA U2) (by simp [*]);have m5:=bV hb1 (p:=⟨pb,po + q * 3 + 2,none⟩) (v:=aA V2) (by simp [*])))
       all_goals
        go_wp2;go_meet;case rel=> exact⟨rfl,Uz.out⟩
      case rest=>
      obtain⟨rfl,fK⟩:=hcut;have Ad:=zq (aT HB.out fK.out);have HTx:=zq (ll.out.below fK.out ll.out.lt);clear EQ GG HB fK ll t0 t1 tl Kk;cases JB with
      | false=>
       have R:=zq (S.out rfl);go_wp2;go_ret;exact⟨by rw [R.out] <;> rfl,Ad.out⟩
      | true=>
       have e:=zq (HRn.out (by rw [HR6.out];rfl));go_wp2;go_roundw;case rel=> exact⟨j + 1,by go_num,by omega,Ad.out,HTx.out,e.out⟩
       case measure=> simp only [aK];omega
     ·obtain rfl:n=j:=by omega
      have R:=zq (R4.out h4 hz.out hy.out);go_wp2;go_ret;exact⟨by rw [R.out] <;> rfl,HB.out⟩
def Fk(ls:List Lp):Prop:=∀l∈ls,l.ps.length≤1000000∧∀p∈l.ps,p.fr.length≤8000000∧p.en.length≤8000000
def Kl(fs:List Fr)(at':List (List UInt8))(ls:List Lp)(right:Bool):Nat→Bool:=fun i=> !fG fs at' (ls.getD i default).ps right
def mL(fs:List Fr)(at':List (List UInt8))(ls:List Lp)(right:Bool):Bool:= !anyN (Kl fs at' ls right) ls.length
theorem lr{fs:List Fr}{at':List (List UInt8)}{ls:List Lp}{right:Bool}{i:Nat}(hi:i<ls.length)(h:fG fs at' (ls.getD i default).ps right =false):mL fs at' ls right =false:=by
 unfold mL;rw[show anyN (Kl fs at' ls right) ls.length=true from kA.2 ⟨i,hi,by unfold Kl;rw[h];rfl⟩];rfl
theorem rR(fs:List Fr)(z:List UInt8):(iP fs z).length=fs.length:=by unfold iP;rw[cG]
theorem XE (a b:Option dE) (nf n ca cb:Nat) (fs:List Fr) (ls:List Lp) (z:List UInt8) (right:Bool) (w:aE) (hE:eZ w)
 (hf:fs.length=nf) (hl:ls.length=n) (FK:nf≤1000000) (hn:n≤1000000) (pK:∀ f∈fs,f.Ok) (sW:Fk ls) (hz:dR z=0)
 (rf:wP w a fs) (rl:zP w b ls) :
 aQ aC 27 #[aB a nf ca,aB b n cb,aA (bs z),aM right] w (Rt (aM (mL fs (iP fs z) ls right)) w):=by
 have HP:=zq (Ar a nf ca fs z w hE hf FK pK hz rf);have HW:aY (∀ i,i < n→∀ g cap W,aJ w.heap.size w W→xO W (some ⟨g,0,none⟩) (iP fs z)→aQ aC 71 #[aB a nf ca,aB (some ⟨g,0,none⟩) nf cap,aB (ls.getD i default).a (ls.getD i default).ps.length (ls.getD i default).cap,aM right] W (Rt (aM (fG fs (iP fs z) (ls.getD i default).ps right)) W)):=fun i hi g cap W hW ha=> by
  have hm:=cP (i:=i) (by rw [hl];exact hi) (default:Lp);obtain⟨h1,h2⟩:=sW _ hm;obtain⟨pb,po, -, -,h3⟩:=(rl.below hW).at (i:=i) (by rw [hl];exact hi) rfl;exact Zt a (some ⟨g,0,none⟩) _ nf _ ca cap _ fs (iP fs z) _ right W (hE.below hW) hf (by rw [rR];exact hf) rfl h1 (fun f hff=> (pK f hff).dir) h2 (rf.below hW) ha h3
 have HA:aY (mL fs (iP fs z) ls right= !anyN (Kl fs (iP fs z) ls right) n):=by show _=_;unfold mL;rw [hl]
 have HH:aY (∀ i,i < n→fG fs (iP fs z) (ls.getD i default).ps right=false→mL fs (iP fs z) ls right=false):=fun i hi h=> lr (by rw [hl];exact hi) h;have HN:aY ((iP fs z).length=nf):=by show _=_;rw [rR];exact hf
 have Hl:=zq hl;have Rl:=zq rl;clear hE hf hl pK sW hz rf rl;generalize mL fs (iP fs z) ls right=AL at *;generalize iP fs z=L at *;generalize bs z=Z at *;go_enter func27,ntmps27;go_wp2_with fail
 refine HP.out.mono ?_;rintro e W1 ⟨g,cap,rfl, -,ha,gG⟩;rw [HN.out];have Ha:=zq ha;have fK:=zq gG;clear ha gG HP HN;go_wp2;go_loopw [10] (fun i wr=> ∃ k:Nat,i=aF aG k∧k≤n∧aY (aJ W1.heap.size W1 wr)∧aY (anyN (Kl fs L ls right) k=false)) (fun i _=> n - (aK i).toNat);case atStart=> exact⟨0,rfl,bR _,aI _ _,rfl⟩
 case round=>
  obtain⟨k,rfl,hk,HB,hq⟩:=hrel;by_cases hlt:k < n
  ·have rO:=zq (aT fK.out HB.out);obtain⟨pb,po,rfl,c0, -⟩:=(Rl.out.below rO.out).at (i:=k) (by rw [Hl.out];exact hlt) rfl;have HWk:=zq (HW.out k hlt g cap _ rO.out (Ha.out.below HB.out));have HHk:=zq (HH.out k hlt);have Mh:aY (fG fs L (ls.getD k default).ps right=true→anyN (Kl fs L ls right) (k + 1)=false):=fun h=> oZ hq.out (by unfold Kl;rw [h];rfl);generalize fG fs L (ls.getD k default).ps right=WB at *;generalize ls.getD k default=l at *;cases WB with
   | false=>
    have R:=zq (HHk.out rfl);go_wp2_with fail
    refine HWk.out.mono ?_;rintro e W2 ⟨rfl,hb2⟩;go_wp2;go_ret;exact⟨by rw [R.out] <;> rfl,aT rO.out hb2⟩
   | true=>
    have e:=zq (Mh.out rfl);go_wp2_with fail
    refine HWk.out.mono ?_;rintro e' W2 ⟨rfl,hb2⟩;go_wp2;go_roundw;case rel=> exact⟨k + 1,by go_num,by omega,aT HB.out hb2,e.out⟩
    case measure=> simp only [aK];omega
  ·obtain rfl:n=k:=by omega
   have R:aY (AL=true):=by show _=_;rw [HA.out,hq.out];rfl
   go_wp2;go_ret;exact⟨by rw [R.out] <;> rfl,aT fK.out HB.out⟩
theorem zw(a b c:Option dE)(nf n ca cb cc b1 b2:Nat)(fs:List Fr)(at':List (List UInt8))(ps:List Pt)(right:Bool)(w:aE)(hE:eZ w)
 (hf:fs.length=nf)(hl:at'.length=nf)(hp:ps.length=n)(hn:n≤1000000)(hdir:∀f∈fs,f.dir=1∨f.dir= -1)(rV:∀p∈ps,p.fr.length≤8000000∧p.en.length≤8000000)
 (rf:wP w a fs)(ra:xO w b at')(rp:Fg w c ps)(h0:w.cell? ⟨b1,0,none⟩=some (aB a nf ca))(h1:w.cell? ⟨b1,1,none⟩=some (aB b nf cb))(h2:w.cell? ⟨b2,0,none⟩=some (aM right)):
 aQ aC 67 #[aB c n cc,cB (some ⟨b1,0,none⟩),cB (some ⟨b2,0,none⟩)] w (Rt (aM (!fG fs at' ps right)) w):=by
 have HW:=zq (lk a b c nf n ca cb cc fs at' ps right w hE hf hl hp hn hdir rV rf ra rp);clear hE hf hl hp hdir rV rf ra rp;generalize fG fs at' ps right =WB at *;go_enter func67,ntmps67;go_wp2_with fail
 refine HW.out.mono ?_;rintro e W1⟨rfl,hb1⟩;go_wp2;go_ret;exact⟨rfl,hb1⟩
theorem VA (a b c:Option dE) (nf n ca cb cc:Nat) (fs:List Fr) (at' :List (List UInt8)) (ls:List Lp) (right:Bool) (w:aE) (hE:eZ w)
 (hf:fs.length=nf) (hl:at'.length=nf) (hs:ls.length=n) (hn:n≤1000000) (hdir:∀ f∈fs,f.dir=1∨f.dir= -1) (sW:Fk ls)
 (rf:wP w a fs) (ra:xO w b at') (rl:zP w c ls) :
 aQ aC 24 #[dM #[aB a nf ca,aB b nf cb],aB c n cc,aM right] w (Rt (aM (mL fs at' ls right)) w):=by
 have q1:=(bZ.new w #[aB a nf ca,aB b nf cb] 58).alloc (aL #[aM right] 4);have q2:=bZ.new (w.alloc (aL #[aB a nf ca,aB b nf cb] 58)) #[aM right] 4;rw [aS] at q2;have hB:=((aI w.heap.size w).alloc (aD _) (aL #[aB a nf ca,aB b nf cb] 58)).alloc (by simp) (aL #[aM right] 4);obtain⟨W0,iU⟩:∃ W,(w.alloc (aL #[aB a nf ca,aB b nf cb] 58)).alloc (aL #[aM right] 4)=W:=⟨_,rfl⟩;rw [iU] at q1 q2 hB;have HH:=zq (SL 67 #[cB (some ⟨w.heap.size,0,none⟩),cB (some ⟨w.heap.size + 1,0,none⟩)] (enters_of func67 (by kernel_rfl) rfl) c n cc ls (Kl fs at' ls right) W0 hs (by omega) (rl.below hB) (fun i hi W2 h2=> by
  have hm:=cP (i:=i) (by rw [hs];exact hi) (default:Lp);obtain⟨k1,k2⟩:=sW _ hm;have eQ:=aT hB h2;obtain⟨pb,po, -, -,h3⟩:=(rl.below eQ).at (i:=i) (by rw [hs];exact hi) rfl;have t1:=q1.below h2 q1.lt;have t2:=q2.below h2 q2.lt;exact zw a b _ nf _ ca cb _ w.heap.size (w.heap.size + 1) fs at' _ right W2 (hE.below eQ) hf hl rfl k1 hdir k2 (rf.below eQ) (ra.below eQ) h3 (t1.cell 0) (t1.cell 1) (t2.cell 0)))
 have HA:aY (mL fs at' ls right= !anyN (Kl fs at' ls right) n):=by show _=_;unfold mL;rw [hs]
 have HB:=zq hB;have iz:=zq iU;clear hE hf hl hs hdir sW rf ra rl q1 q2 hB iU;generalize anyN (Kl fs at' ls right) n=X at *;go_enter func24,ntmps24;go_wp2_with fail
 rw [iz.out];refine HH.out.mono ?_;rintro e W1 ⟨rfl,hb1⟩;go_wp2;go_ret;exact⟨by rw [HA.out] <;> rfl,aT HB.out hb1⟩
structure Po where
 x:List UInt8
 y:List UInt8
abbrev Po.cells(p:Po):Array bB:= #[aA (bs p.x),aA (bs p.y)]
abbrev Po.v(p:Po):bB:=dM p.cells
instance:Inhabited Po:=⟨⟨[],[]⟩⟩
def iH(fs:List Fr)(at':List (List UInt8))(p:Pt):Po:=
 if(fs.getD p.side.toNat default).up=true then⟨at'.getD p.side.toNat [],p.fr⟩else⟨p.fr,at'.getD p.side.toNat []⟩
theorem A4{P:Program}{fn:Func}{p:Tmp}{ty T:TypeId}(h:fn.results= #[.cell p ty])(tmps:Array bB)(w:aE)(g:Nat)(x y:bB)
 (hp:tmps.getD p undef=cB (some ⟨g,0,none⟩))(hb:bZ w g #[x,y] T)(ha:∀w,(isAgg ty).run P w=.ok true w)(hs:∀w,(sizeOf ty).run P w=.ok 2 w):
 (results fn tmps).run P w=.ok (dM #[x,y]) w:=by
 have xq:tmps[p]?.getD undef=cB (some ⟨g,0,none⟩):=by simpa using hp
 have c0:=hb.cell 0;have c1:=hb.cell 1;simp only[List.getElem?_toArray,List.getElem?_cons_zero,cW]at c0 c1;simp[results,h,go_sem,xq,c0,c1,ha,hs]
theorem VB(a b:Option dE)(n ca cb:Nat)(fs:List Fr)(at':List (List UInt8))(p:Pt)(s:Nat)(w:aE)
 (hs:p.side=s)(BQ:s<n)(hf:fs.length=n)(hl:at'.length=n)(rf:wP w a fs)(ra:xO w b at'):
 aQ aC 29 #[aB a n ca,aB b n cb,p.v] w (Rt ((iH fs at' p).v) w):=by
 obtain⟨b1,o1,rfl,c0,c1,c2,c3,c4⟩:=rf.at (i:=s) (by omega) rfl;obtain⟨b2,o2,rfl,k0⟩:=ra s (by omega);obtain⟨ps,pf,pt⟩:=p;obtain rfl:ps=s:=hs;have R:aY (iH fs at' ⟨s,pf,pt⟩=if(fs.getD s default).up=true then⟨at'.getD s [],pf⟩else⟨pf,at'.getD s []⟩):=rfl;have l1:b1<w.heap.size:=bF w ⟨b1,o1+s*5,none⟩ c0;have l2:b2<w.heap.size:=bF w ⟨b2,o2+s,none⟩ k0;have u2:∀k,b2<w.heap.size+k:=fun k=>by omega
 have v2:∀k,¬b2=w.heap.size+k:=fun k=>by omega
 have v5:∀k,¬w.heap.size+k=b2:=fun k=>by omega
 have v4:¬b2=w.heap.size:=by omega
 have v6:¬w.heap.size=b2:=by omega
 have Q1:aY (∀x y,bZ (((w.alloc (aL #[aF aG s,aA (bs pf),aA (bs pt)] 46)).alloc (aL #[x,y] 56)).drew) (w.heap.size+1) #[x,y] 56):=fun x y=>by
  have:=bZ.new (w.alloc (aL #[aF aG s,aA (bs pf),aA (bs pt)] 46)) #[x,y] 56;rwa[aS]at this
 have HB:aY (∀x y,aJ w.heap.size w (((w.alloc (aL #[aF aG s,aA (bs pf),aA (bs pt)] 46)).alloc (aL #[x,y] 56)).drew)):=fun x y=>
  (((aI w.heap.size w).alloc (aD _) _).alloc (by simp) _).drew
 clear rf ra hf hl;generalize fs.getD s default=f at *;generalize at'.getD s []=A at *;obtain⟨uM,yX,kX,DX,KI⟩:=f;simp only[]at *;unfold Pt.v Pt.cells;simp only[];cases uM;case' false=>have R2:aY ((iH fs at' ⟨s,pf,pt⟩).v=dM #[aA (bs pf),aA (bs A)]):=by show Po.v _=_;rw[R.out];rfl
 case' true=>have R2:aY ((iH fs at' ⟨s,pf,pt⟩).v=dM #[aA (bs A),aA (bs pf)]):=by show Po.v _=_;rw[R.out];rfl
 all_goals
  clear R;generalize iH fs at' ⟨s,pf,pt⟩=RC at *;generalize bs A=As at *;generalize bs pf=PF at *;generalize bs pt=PT at *;go_enter func29,ntmps29;go_wp2;go_region_held3 (fun w'=>(w'.cell? ⟨w.heap.size,0,none⟩=some (aF aG s)∧w'.cell? ⟨w.heap.size,1,none⟩=some (aA PF)∧w'.cell? ⟨w.heap.size,2,none⟩=some (aA PT))∧w'.cell? ⟨b2,o2+s,none⟩=some (aA As)) (go_keep) (fail)
  go_wp2;refine cD (A4 (T:=56) Tryz.results29 _ _ (w.heap.size+1) _ _ rfl (Q1.out _ _) isAgg56 sizeOf56) rfl ⟨by rw[R2.out]<;>rfl,HB.out _ _⟩
theorem IQ(a b:Option dE)(n ca cb:Nat)(fs:List Fr)(at':List (List UInt8))(p:Pt)(s:Nat)(w:aE)
 (hs:p.side=s)(BQ:s<n)(hf:fs.length=n)(hl:at'.length=n)(rf:wP w a fs)(ra:xO w b at'):
 aQ aC 25 #[dM #[aB a n ca,aB b n cb],p.v] w (Rt ((iH fs at' p).v) w):=by
 obtain⟨b1,o1,rfl,c0,c1,c2,c3,c4⟩:=rf.at (i:=s) (by omega) rfl;obtain⟨b2,o2,rfl,k0⟩:=ra s (by omega);obtain⟨ps,pf,pt⟩:=p;obtain rfl:ps=s:=hs;have R:aY (iH fs at' ⟨s,pf,pt⟩=if(fs.getD s default).up=true then⟨at'.getD s [],pf⟩else⟨pf,at'.getD s []⟩):=rfl;have l1:b1<w.heap.size:=bF w ⟨b1,o1+s*5,none⟩ c0;have l2:b2<w.heap.size:=bF w ⟨b2,o2+s,none⟩ k0;have u2:∀k,b2<w.heap.size+k:=fun k=>by omega
 have u1:∀k,b1<w.heap.size+k:=fun k=>by omega
 have v7:¬b2=w.heap.size+1+1:=by omega
 have v8:¬w.heap.size+1+1=b2:=by omega
 have v9:¬b2=w.heap.size+1:=by omega
 have u5:b2<w.heap.size+1:=by omega
 have u3:b1<w.heap.size+1+1:=by omega
 have u4:b2<w.heap.size+1+1:=by omega
 have v2:∀k,¬b2=w.heap.size+k:=fun k=>by omega
 have v5:∀k,¬w.heap.size+k=b2:=fun k=>by omega
 have v4:¬b2=w.heap.size:=by omega
 have v6:¬w.heap.size=b2:=by omega
 have Q1:aY (∀x y,bZ ((((w.alloc (aL #[aB (some ⟨b1,o1,none⟩) n ca,aB (some ⟨b2,o2,none⟩) n cb] 58)).alloc (aL #[aF aG s,aA (bs pf),aA (bs pt)] 46)).alloc (aL #[x,y] 56)).drew) (w.heap.size+1+1) #[x,y] 56):=fun x y=>by
  have:=bZ.new ((w.alloc (aL #[aB (some ⟨b1,o1,none⟩) n ca,aB (some ⟨b2,o2,none⟩) n cb] 58)).alloc (aL #[aF aG s,aA (bs pf),aA (bs pt)] 46)) #[x,y] 56;rwa[aS,aS]at this
 have HB:aY (∀x y,aJ w.heap.size w ((((w.alloc (aL #[aB (some ⟨b1,o1,none⟩) n ca,aB (some ⟨b2,o2,none⟩) n cb] 58)).alloc (aL #[aF aG s,aA (bs pf),aA (bs pt)] 46)).alloc (aL #[x,y] 56)).drew)):=fun x y=>
  ((((aI w.heap.size w).alloc (aD _) _).alloc (by simp) _).alloc (by simp;omega) _).drew
 have KZ:aY (∀x y,(((w.alloc (aL #[aB (some ⟨b1,o1,none⟩) n ca,aB (some ⟨b2,o2,none⟩) n cb] 58)).alloc (aL #[aF aG s,aA (bs pf),aA (bs pt)] 46)).alloc (aL #[x,y] 56)).drew.cell? ⟨b2,o2+s,none⟩=some (aA (bs (at'.getD s [])))):=fun x y=>((HB.out x y).cell (p:=⟨b2,o2+s,none⟩) l2).trans k0;clear rf ra hf hl;generalize fs.getD s default=f at *;generalize at'.getD s []=A at *;obtain⟨uM,yX,kX,DX,KI⟩:=f;simp only[]at *;unfold Pt.v Pt.cells;simp only[];cases uM;case' false=>have R2:aY ((iH fs at' ⟨s,pf,pt⟩).v=dM #[aA (bs pf),aA (bs A)]):=by show Po.v _=_;rw[R.out];rfl
 case' true=>have R2:aY ((iH fs at' ⟨s,pf,pt⟩).v=dM #[aA (bs A),aA (bs pf)]):=by show Po.v _=_;rw[R.out];rfl
 all_goals
  clear R;generalize iH fs at' ⟨s,pf,pt⟩=RC at *;generalize bs A=As at *;generalize bs pf=PF at *;generalize bs pt=PT at *;go_enter func25,ntmps25;go_wp2;have kk:=KZ.out (aA {data:= #[]}) (aA {data:= #[]});go_region_held3 (fun w'=>(w'.cell? ⟨w.heap.size+1,0,none⟩=some (aF aG s)∧w'.cell? ⟨w.heap.size+1,1,none⟩=some (aA PF)∧w'.cell? ⟨w.heap.size+1,2,none⟩=some (aA PT))∧(w'.cell? ⟨w.heap.size,0,none⟩=some (aB (some ⟨b1,o1,none⟩) n ca)∧w'.cell? ⟨w.heap.size,1,none⟩=some (aB (some ⟨b2,o2,none⟩) n cb))∧w'.cell? ⟨b2,o2+s,none⟩=some (aA As)) ((try refine⟨⟨?_,?_,?_⟩,⟨?_,?_⟩,?_⟩)<;>(first |exact kk|exact KZ.out _ _|go_keep)) (fail)
  go_wp2;refine cD (A4 (T:=56) Tryz.results25 _ _ (w.heap.size+1+1) _ _ rfl (Q1.out _ _) isAgg56 sizeOf56) rfl ⟨by rw[R2.out]<;>rfl,HB.out _ _⟩
def mX(qs:List Po):List bB:=qs.flatMap fun q=>[aA (bs q.x),aA (bs q.y)]
theorem JM(qs:List Po)(q:Po):mX (qs++[q])=mX qs++[aA (bs q.x),aA (bs q.y)]:=by simp[mX]
theorem VC(qs:List Po):(mX qs).length=2*qs.length:=by
 induction qs with
 |nil=>rfl
 |cons q qs ih=>simp[mX]at *;omega
theorem Oj:∀(qs:List Po)(i:Nat),i<qs.length→(mX qs)[i*2]? =some (aA (bs (qs.getD i default).x))∧(mX qs)[i*2+1]? =some (aA (bs (qs.getD i default).y))
 |[],i,h=>by simp at h
 |q::qs,0,_=>⟨rfl,rfl⟩
 |q::qs,i+1,h=>by
  have ih:=Oj qs i (by simpa using h)
  have e1:(i+1)*2=i*2+1+1:=by omega
  have e2:(i+1)*2+1=(i*2+1)+1+1:=by omega
  have e:mX (q::qs)=aA (bs q.x)::aA (bs q.y)::mX qs:=rfl
  rw[e2,e1,e]
  simp only[cW,List.getD_cons_succ]
  exact ih
def PM(W:aE)(a:Option dE)(qs:List Po):Prop:=
 ∀i,i<qs.length→∃b off,a=some ⟨b,off,none⟩∧W.cell? ⟨b,off+i*2,none⟩=some (aA (bs (qs.getD i default).x))∧W.cell? ⟨b,off+i*2+1,none⟩=some (aA (bs (qs.getD i default).y))
theorem PM.below{w w':aE}{a:Option dE}{qs:List Po}(h:PM w a qs)(hb:aJ w.heap.size w w'):PM w' a qs:=by
 intro i hi;obtain⟨b,off,rfl,h1,h2⟩:=h i hi;exact⟨b,off,rfl,(hb.cell (p:=⟨b,off+i*2,none⟩) (bF w _ h1)).trans h1,(hb.cell (p:=⟨b,off+i*2+1,none⟩) (bF w _ h2)).trans h2⟩
theorem PM.own{w:aE}{base e:Nat}{a:Option dE}{n cap:Nat}{qs:List Po}(h:w.ownsRow base e 2 (aB a n cap) n (mX qs)):PM w a qs:=by
 intro i hi;have hl:=h.1;rw[VC]at hl;rcases h.2 with⟨_,h2⟩|⟨g,c,D7,hv,_⟩
 ·omega
 ·injection hv with e1 e2 e3;subst e1 e3;obtain⟨k1,k2⟩:=Oj qs i hi;refine⟨g,0,rfl,?_,?_⟩
  ·rw[gL,gJ h (i*2) (by omega),k1]
  ·rw[gL,gJ h (i*2+1) (by omega),k2]
structure Lo where
 a:Option dE
 cap:Nat
 qs:List Po
instance:Inhabited Lo:=⟨⟨none,0,[]⟩⟩
def IR(W:aE)(a:Option dE)(ls:List Lo):Prop:=
 ∀i,i<ls.length→∃b off,a=some ⟨b,off,none⟩∧W.cell? ⟨b,off+i,none⟩=some (aB (ls.getD i default).a (ls.getD i default).qs.length (ls.getD i default).cap)∧PM W (ls.getD i default).a (ls.getD i default).qs
theorem IR.below{w w':aE}{a:Option dE}{ls:List Lo}(h:IR w a ls)(hb:aJ w.heap.size w w'):IR w' a ls:=by
 intro i hi;obtain⟨b,off,rfl,h1,h2⟩:=h i hi;exact⟨b,off,rfl,(hb.cell (p:=⟨b,off+i,none⟩) (bF w _ h1)).trans h1,h2.below hb⟩
def jD(fs:List Fr)(at':List (List UInt8))(ls:List Lp):List (List Po):=ls.map fun l=>l.ps.map fun p=>iH fs at' p
theorem zx:(Tryz.prog.info? 56).map (fun i=>(i.zero,i.size,i.bytes))=some (some (dM #[aA ⟨#[]⟩,aA ⟨#[]⟩]),2,32):=by kernel_rfl
theorem zy:(Tryz.prog.info? 54).map (fun i=>(i.zero,i.size,i.bytes))=some (some (aB none 0 0),1,24):=by kernel_rfl
theorem lu{w:aE}{fA:Array A8}{rest:List A8}{o:A8}{a:Act}{Q:Exit→Act→aE→Prop}(FD:o.guard=none)(s x:Operand)
 (ho:o.op=.call {callee:=.builtin .append,args:= #[s,x],argTypes:= #[54,54]})(base:Nat)
 (v:bB)(n:Nat)(xs:List bB)(hs:a.eval s=v)(hown:w.ownsRow base 56 2 v n xs)
 (y z:ByteArray)(hx:a.eval x=aB (some ⟨w.heap.size,0,none⟩) 1 1)
 (QI:n+1≤2147483648)(lK:base≤w.heap.size)
 (h:∀g cap w',w'.ownsRow base 56 2 (aB (some ⟨g,0,none⟩) (n+1) cap) (n+1) (xs++[aA y,aA z])→base≤g→w.grownBy w' v.ownBlock→
  Dm aC fA Q rest (a.put o.dst (aB (some ⟨g,0,none⟩) (n+1) cap)) w'):
 Dm aC fA Q (o::rest) a (w.alloc (aL #[aA y,aA z] 56)):=by
 obtain⟨i0,hi,D8,uY,hz2⟩:=OG zx;exact sI FD s x 54 ho base 56 i0 (dM #[aA ⟨#[]⟩,aA ⟨#[]⟩]) 2 32 underlying54 hi D8 uY hz2 rfl (by decide) v n xs hs hown [aA y,aA z] hx rfl (by simp[Nw]) QI (by decide) lK h
theorem lv{w:aE}{fA:Array A8}{rest:List A8}{o:A8}{a:Act}{Q:Exit→Act→aE→Prop}(FD:o.guard=none)(s x:Operand)
 (ho:o.op=.call {callee:=.builtin .append,args:= #[s,x],argTypes:= #[28,28]})(base:Nat)
 (v:bB)(n:Nat)(xs:List bB)(hs:a.eval s=v)(hown:w.ownsRow base 54 1 v n xs)
 (ad:Option dE)(m c:Nat)(hx:a.eval x=aB (some ⟨w.heap.size,0,none⟩) 1 1)
 (QI:n+1≤2147483648)(lK:base≤w.heap.size)
 (h:∀g cap w',w'.ownsRow base 54 1 (aB (some ⟨g,0,none⟩) (n+1) cap) (n+1) (xs++[aB ad m c])→base≤g→w.grownBy w' v.ownBlock→
  Dm aC fA Q rest (a.put o.dst (aB (some ⟨g,0,none⟩) (n+1) cap)) w'):
 Dm aC fA Q (o::rest) a (w.alloc (aL #[aB ad m c] 54)):=by
 obtain⟨i0,hi,D8,uY,hz2⟩:=OG zy;exact sI FD s x 28 ho base 54 i0 (aB none 0 0) 1 24 underlying28 hi D8 uY hz2 rfl (by decide) v n xs hs hown [aB ad m c] hx rfl (by simp[Nw]) QI (by decide) lK h
theorem DY{w:aE}{b1 b2 e1 e2 s1 s2 n1 n2:Nat}{v1 v2:bB}{xs ys:List bB}(h1:w.ownsRow b1 e1 s1 v1 n1 xs)(h2:w.ownsRow b2 e2 s2 v2 n2 ys)(lE:e1≠e2):v1.ownBlock=none∨v1.ownBlock≠v2.ownBlock:=by
 rcases h1.2 with⟨h,_⟩|⟨g1,c1,cur1,h,_,k1,_⟩
 ·left;rw[h];rfl
 ·right;rw[h];rcases h2.2 with⟨h',_⟩|⟨g2,c2,cur2,h',_,k2,_⟩
  ·rw[h'];simp[zQ]
  ·rw[h'];simp only[zQ,ne_eq,uH];rintro rfl;rw[k1]at k2;injection k2 with k2;injection k2 with _ k3;exact lE k3
def loV(l:Lo):bB:=aB l.a l.qs.length l.cap
def uV(B:Nat)(W:aE)(v:bB)(iJ:List Lo):Prop:=
 W.ownsRow B 54 1 v iJ.length (iJ.map loV)∧∀l∈iJ,W.ownsRow B 56 2 (loV l) l.qs.length (mX l.qs)
theorem uV.below{B:Nat}{W W':aE}{v:bB}{iJ:List Lo}(h:uV B W v iJ)(hb:aJ W.heap.size W W'):uV B W' v iJ:=
 ⟨cT h.1 hb,fun l hl=>cT (h.2 l hl) hb⟩
theorem uV.grow{B:Nat}{W W':aE}{v:bB}{iJ:List Lo}{l:Lo}{g cap:Nat}(h:uV B W v iJ)(hl:W.ownsRow B 56 2 (loV l) l.qs.length (mX l.qs))
 (hg:W.grownBy W' v.ownBlock)(hown:W'.ownsRow B 54 1 (aB (some ⟨g,0,none⟩) (iJ.length+1) cap) (iJ.length+1) (iJ.map loV++[loV l])):
 uV B W' (aB (some ⟨g,0,none⟩) (iJ.length+1) cap) (iJ++[l]):=by
 refine⟨by rw[cU,qO];exact hown,fun x hx=>?_⟩;rcases List.mem_append.1 hx with hx|hx
 ·exact(h.2 x hx).kept hg (DY (h.2 x hx) h.1 (by decide))
 ·rw[List.mem_singleton.1 hx];exact hl.kept hg (DY hl h.1 (by decide))
theorem uV.reads{B:Nat}{W:aE}{a:Option dE}{n cap:Nat}{iJ:List Lo}(h:uV B W (aB a n cap) iJ):IR W a iJ:=by
 intro i hi;have hl:=cP hi (default:Lo);have h2:=h.2 _ hl;rcases h.1.2 with⟨_,h3⟩|⟨g,c,D7,hv,_⟩
 ·omega
 ·injection hv with e1 e2 e3;subst e1 e2 e3;refine⟨g,0,rfl,?_,PM.own h2⟩;rw[gL,gJ h.1 i (by omega)];simp[aN,hi,loV]
def Mi(w:aE)(PN:List (List Po))(err:Int)(e:Ending)(w':aE):Prop:=
 (∃a cap,∃iJ:List Lo,e=aO (bO #[aB a PN.length cap,aF aG err])∧iJ.map Lo.qs=PN∧IR w' a iJ)∧aJ w.heap.size w w'
def fR(fs:List Fr)(ls:List Lp)(z:List UInt8):Int:=if fH fs [z] ls≠0 then fH fs [z] ls else if mL fs (iP fs z) ls false=true then 0 else 1
def gT(fs:List Fr)(ls:List Lp)(z:List UInt8):List (List Po):=if fR fs ls z=0 then jD fs (iP fs z) ls else[]
theorem DZ{fs:List Fr}{zs:List (List UInt8)}{ls:List Lp}(h:fH fs zs ls=0):(∀f∈fs,xN f=0)∧(∀z∈zs,dR z=0)∧ls.length≤24:=by
 unfold fH at h;by_cases h1:Ac fs=true
 ·rw[ip h1]at h;cases h
 rw[iN h1]at h;by_cases h2:GR zs zs.length=0
 ·rw[iN (by rw[h2];decide)]at h;by_cases h3:wE ls=true
  ·rw[ip h3]at h;cases h
  refine⟨fun f hf=>?_,fun z hz=>?_,?_⟩
  ·obtain⟨i,hi,rfl⟩:=fV hf;have h1:Ac fs=false:=by simpa using h1
   unfold Ac at h1;rw[fM]at h1;have:=lU.1 h1.2 i hi;unfold Fh at this;rw[show fs.getD i default=fs[i] by simp[aN,hi]]at this;simpa using this
  ·obtain⟨i,hi,rfl⟩:=fV hz;have:=sQ h2 i hi;rwa[show zs.getD i []=zs[i] by simp[aN,hi]]at this
  ·have h3:wE ls=false:=by simpa using h3
   unfold wE at h3;rw[fM,decide_eq_false_iff_not]at h3;omega
 ·rw[ip h2]at h;exact absurd h h2
theorem D3{fs:List Fr}{at':List (List UInt8)}{ls:List Lp}{right:Bool}(h:mL fs at' ls right =true){i j:Nat}(hi:i<ls.length)(hj:j<(ls.getD i default).ps.length):∃s:Nat,((ls.getD i default).ps.getD j default).side=s∧s<fs.length:=by
 unfold mL at h;have h1:=lU.1 (by simpa using h) i hi;unfold Kl at h1;have h2:fG fs at' (ls.getD i default).ps right =true:=by simpa using h1
 unfold fG at h2;simp only[Bool.and_eq_true]at h2;exact Fj (IP (by simpa using h2.1.2) hj)
theorem Mj (a b:Option dE) (nf n ca cb:Nat) (fs:List Fr) (ls:List Lp) (z:List UInt8) (w:aE) (hE:eZ w)
 (hf:fs.length=nf) (hl:ls.length=n) (FK:nf≤1000000) (hn:n≤1000000) (pK:∀ f∈fs,f.sp.length≤30∧f.st.length≤30) (sW:Fk ls) (hz:z.length≤8000000)
 (rf:wP w a fs) (rl:zP w b ls) :
 aQ aC 8 #[aB a nf ca,aB b n cb,aA (bs z)] w (Mi w (gT fs ls z) (fR fs ls z)):=by
 have fP:=(aI w.heap.size w).alloc (aD _) (aL #[aA (bs z)] 24);have rz:xO (w.alloc (aL #[aA (bs z)] 24)) (some ⟨w.heap.size,0,none⟩) [z]:=by
  intro i hi;have hi:i < 1:=hi;obtain rfl:i=0:=by omega
  exact⟨_,_,rfl,(bZ.new w #[aA (bs z)] 24).cell 0⟩
 have HC:=zq (IJ a b (some ⟨w.heap.size,0,none⟩) nf n 1 ca cb 1 fs ls [z] _ (hE.below fP) hf hl rfl FK hn (by decide) (fun f h=> by have:=pK f h;omega) (fun x hx=> by rw [List.mem_singleton] at hx;subst hx;exact hz) (fun l h=> (sW l h).1) (rf.below fP) (rl.below fP) rz);have UA:fH fs [z] ls=0→(∀ f∈fs,f.Ok)∧dR z=0:=fun h=> by
  obtain⟨h1,h2, -⟩:=DZ h;exact⟨fun f hm=> ⟨h1 f hm,(pK f hm).1,(pK f hm).2⟩,h2 z (List.mem_singleton.2 rfl)⟩
 have uP:aY (fH fs [z] ls=0→∀ W,aJ w.heap.size w W→aQ aC 27 #[aB a nf ca,aB b n cb,aA (bs z),aM false] W (Rt (aM (mL fs (iP fs z) ls false)) W)):=fun h W hW=> by
  obtain⟨h1,h2⟩:=UA h;exact XE a b nf n ca cb fs ls z false W (hE.below hW) hf hl FK hn h1 sW h2 (rf.below hW) (rl.below hW)
 have IS:aY (fH fs [z] ls=0→∀ W,aJ w.heap.size w W→aQ aC 28 #[aB a nf ca,aA (bs z)] W (zj W.heap.size W (iP fs z))):=fun h W hW=> by
  obtain⟨h1,h2⟩:=UA h;exact Ar a nf ca fs z W (hE.below hW) hf FK h1 h2 (rf.below hW)
 have VD:aY (mL fs (iP fs z) ls false=true→∀ i,i < n→∀ j,j < (ls.getD i default).ps.length→∀ g cap W,aJ w.heap.size w W→xO W (some ⟨g,0,none⟩) (iP fs z)→
  aQ aC 29 #[aB a nf ca,aB (some ⟨g,0,none⟩) nf cap,((ls.getD i default).ps.getD j default).v] W (Rt ((iH fs (iP fs z) ((ls.getD i default).ps.getD j default)).v) W)):=fun h i hi j hj g cap W hW ha=> by
  obtain⟨s,h1,h2⟩:=D3 h (by rw [hl];exact hi) hj;exact VB a (some ⟨g,0,none⟩) nf ca cap fs (iP fs z) _ s W h1 (by omega) hf (by rw [rR];exact hf) (rf.below hW) ha
 have R1:aY (fH fs [z] ls≠0→fR fs ls z=fH fs [z] ls):=fun h=> by unfold fR;rw [ip h]
 have R2:aY (fH fs [z] ls=0→mL fs (iP fs z) ls false=false→fR fs ls z=1):=fun h h2=> by unfold fR;rw [iN (by rw [h];decide),iN (by rw [h2];decide)]
 have R3:aY (fH fs [z] ls=0→mL fs (iP fs z) ls false=true→fR fs ls z=0∧gT fs ls z=jD fs (iP fs z) ls):=fun h h2=> by
  have:fR fs ls z=0:=by unfold fR;rw [iN (by rw [h];decide),ip h2]
  exact⟨this,by unfold gT;rw [ip this]⟩
 have R4:aY (∀ c,fR fs ls z=c→c≠0→gT fs ls z= []):=fun c h h2=> by unfold gT;rw [h,iN h2]
 have JK:aY (∀ c:Int,fR fs ls z=c→c≠0→∀ W g,aJ w.heap.size w W→Mi w (gT fs ls z) (fR fs ls z) (aO (bO #[aB (some ⟨g,0,none⟩) 0 0,aF aG c])) W):=fun c h h2 W g hB=>
  ⟨⟨_,0, [],by rw [R4.out c h h2,h];rfl,by rw [R4.out c h h2];rfl,fun i hi=> absurd hi (by simp)⟩,hB⟩
 have SS:aY (∀ i,i < n→(ls.getD i default).ps.length≤1000000):=fun i hi=> (sW _ (cP (by rw [hl];exact hi) default)).1;have HN:aY ((iP fs z).length=nf):=by show _=_;rw [rR];exact hf
 have Hl:=zq hl;have Rl:=zq rl;have mE:=zq fP;clear hE hf hl pK sW hz rf rl rz fP UA R4;generalize hPV:gT fs ls z=PV at *;generalize fR fs ls z=PE at *;generalize hL:iP fs z=L at *;generalize bs z=Z at *;clear hPV hL;by_cases h0:fH fs [z] ls=0
 ·rw [h0] at HC;have uP:=zq (uP.out h0);have IS:=zq (IS.out h0);have R2:=zq (R2.out h0);have R3:=zq (R3.out h0);clear h0 R1;generalize hAL:mL fs L ls false=AL at *;have HAL:=zq hAL;clear hAL;go_enter func8,ntmps8;go_wp2_with fail
  refine HC.out.mono ?_;rintro e W1 ⟨rfl,hb1⟩;have fK:=zq (aT mE.out hb1);go_wp2_with fail
  refine(uP.out _ fK.out).mono ?_;rintro e W2 ⟨rfl,hb2⟩;have gD:=zq (aT fK.out hb2);clear hb1 hb2 uP HC mE;cases AL with
  | false=>
   have e1:=zq (R2.out rfl);go_wp2;go_ret2;exact JK.out 1 e1.out (by decide) _ _ (gD.out.alloc gD.out.size _)
  | true=>
   obtain⟨e1,e2⟩:=R3.out rfl;have lw:=zq (VD.out rfl);have E1:=zq e1;have E2:=zq e2;clear e1 e2 R2 R3 JK VD fK;go_wp2_with fail
   refine(IS.out _ gD.out).mono ?_;rintro e W3 ⟨g,cap,rfl, -,ha,hb3⟩;rw [HN.out];have HB3:=zq (aT gD.out hb3);have Ha:=zq ha;clear ha hb3 IS HN gD;have O0:aY (uV W3.heap.size (W3.alloc (aL #[] 54)) (aB (some ⟨W3.heap.size,0,none⟩) 0 0) []):=⟨jJ W3 #[] 0 (aD _) (bR _) rfl,fun l hl=> absurd hl (by simp)⟩;have BA:=zq ((aI W3.heap.size W3).alloc (aD _) (aL #[] 54));go_wp2;go_loopw [10,11] (fun o i wr=> ∃ (ad:Option dE) (co:Nat) (iJ:List Lo),i=aF aG (iJ.length:Nat)∧iJ.length≤n∧o=aB ad iJ.length co∧aY (iJ.map Lo.qs=(jD fs L ls).take iJ.length)∧aY (uV W3.heap.size wr (aB ad iJ.length co) iJ)∧aY (aJ W3.heap.size W3 wr)) (fun _ i _=> n - (aK i).toNat);case atStart=> exact⟨_,0, [],rfl,bR _,rfl,rfl,O0.out,BA.out⟩
   case round=>
    clear O0 BA;obtain⟨ad,co,iJ,rfl,hk,rfl,Hq,HO,HB⟩:=hrel;have rO:=zq (aT HB3.out HB.out);obtain⟨k,wO⟩:∃ k,iJ.length=k:=⟨_,rfl⟩;rw [wO] at hk Hq HO ⊢;by_cases hlt:k < n
    ·obtain⟨lb,lo,rfl,c0,rp⟩:=(Rl.out.below rO.out).at (i:=k) (by rw [Hl.out];exact hlt) rfl;have Rp:=zq rp;have Cm:=zq (lw.out k hlt);have Hpt:aY ((jD fs L ls).take (k + 1)=(jD fs L ls).take k ++ [(ls.getD k default).ps.map fun p=> iH fs L p]):=by
      show _=_;unfold jD;rw [dQ (by rw [cG,Hl.out];exact hlt)];simp [aN,Hl.out,hlt]
     have SW:=zq wO;have zW:=SS.out k hlt;generalize ls.getD k default=l at *;obtain⟨qs,bw⟩:∃ qs,l.ps.map (fun p=> iH fs L p)=qs:=⟨_,rfl⟩;rw [bw] at Hpt;have Hqs:aY (∀ j,j < l.ps.length→qs.take (j + 1)=qs.take j ++ [iH fs L (l.ps.getD j default)]):=fun j hj=> by
      rw [← bw,dQ (by rw [cG];exact hj)];simp [aN,hj]
     have cd:aY (qs.length=l.ps.length):=by show _=_;rw [← bw,cG]
     clear bw rp wO;rename aE=> wo;have I0:=zq (jJ wo (base:=wo.heap.size) (e:=56) (size:=2) #[] 0 (aD _) (bR _) rfl);have BI:=zq ((aI wo.heap.size wo).alloc (aD _) (aL #[] 56));obtain⟨m,hm⟩:∃ m,l.ps.length=m:=⟨_,rfl⟩;rw [hm] at Cm Hqs cd c0 zW;have Hm:=zq hm;clear hm;go_wp2;go_loopw [12,13] (fun o i wr=> ∃ (j:Nat) (al:Option dE) (cl:Nat),i=aF aG j∧j≤m∧o=aB al j cl∧aY (wr.ownsRow wo.heap.size 56 2 (aB al j cl) j (mX (qs.take j)))∧aY (aJ wo.heap.size wo wr)) (fun _ i _=> m - (aK i).toNat);case atStart=> exact⟨0,_,0,rfl,bR _,rfl,I0.out,BI.out⟩
     case round=>
      clear I0 BI;obtain⟨j,al,cl,rfl,hj,rfl,mV,yZ⟩:=hrel;have Pq:=bV yZ.out c0;by_cases hjm:j < m
      ·obtain⟨pb,po,epa,d0,d1,d2⟩:=(Rp.out.below yZ.out).at (i:=j) (by rw [Hm.out];exact hjm) rfl;rw [epa] at Pq;have ma:=zq (Cm.out j hjm g cap _ (aT rO.out yZ.out) ((Ha.out.below HB.out).below yZ.out));have Hqj:=zq (Hqs.out j hjm);unfold Pt.v Pt.cells at ma;generalize l.ps.getD j default=p at *;generalize iH fs L p=C at *;unfold Po.v Po.cells at ma;obtain⟨ps,pf,pe⟩:=p;obtain⟨cx,cy⟩:=C;simp only [] at *;generalize bs pf=PF at *;generalize bs pe=PEn at *;obtain⟨CX,hCX⟩:∃ s,bs cx=s:=⟨_,rfl⟩;obtain⟨CY,hCY⟩:∃ s,bs cy=s:=⟨_,rfl⟩;rw [hCX,hCY] at ma;have HCX:=zq hCX;have HCY:=zq hCY;clear hCX hCY;go_wp2_with fail
       refine ma.out.mono ?_;rintro e W5 ⟨rfl,hb5⟩;have wV:=zq (aT yZ.out hb5);have qT:=cT mV.out hb5;clear hb5 ma mV yZ;go_wp2_with (at_builtin;refine lu rfl _ _ rfl wo.heap.size (aB al j cl) j _ rfl qT _ _ rfl (by omega) wV.out.size ?_;intro g6 SX w6 wY hg6 Ck)
       have pF:=zq (dB wV.out Ck qT (aD _) wV.out.size);have e6:mX (qs.take j) ++ [aA CX,aA CY]=mX (qs.take (j + 1)):=by
        rw [Hqj.out,JM,HCX.out,HCY.out]
       rw [e6] at wY;have SY:=zq wY;clear e6 qT wY Ck wV;go_wp2;go_roundw;case rel=> exact⟨j + 1,_,SX,by go_num,by omega,rfl,SY.out,pF.out⟩
       case measure=> simp only [aK];omega
      ·obtain rfl:m=j:=by omega
       have hqt:qs.take m=qs:=dH (by rw [cd.out];exact aD _);rw [hqt] at mV;have HBo:=zq (aT HB.out yZ.out);have Bq:=zq (HO.out.below yZ.out);have hl2:=gN mV.out HB.out.size;have QR:=zq hl2;clear hqt hl2 mV yZ HO;have cg:aY ((iJ ++ [(⟨al,cl,qs⟩:Lo)]).map Lo.qs=(jD fs L ls).take (k + 1)):=by
        show _=_;rw [qO,Hq.out,Hpt.out];rfl
       have uE:=Bq.out.1;rw [SW.out] at uE;have JN:(iJ ++ [(⟨al,cl,qs⟩:Lo)]).length=k + 1:=by rw [cU,SW.out];rfl
       have wH:=zq JN;clear JN;go_wp2_with (at_builtin;refine lv rfl _ _ rfl W3.heap.size (aB ad k co) k _ rfl uE al m cl rfl (by omega) HBo.out.size ?_;intro g8 Fl w8 De hg8 Fm)
       have VE:=zq (dB HBo.out Fm uE (aD _) HBo.out.size);have HO8:aY (uV W3.heap.size w8 (aB (some ⟨g8,0,none⟩) (k + 1) Fl) (iJ ++ [⟨al,cl,qs⟩])):=by
        have:=uV.grow (l:=⟨al,cl,qs⟩) (g:=g8) (cap:=Fl) Bq.out (by
         have:=QR.out;show B3 _ _ _ _ (aB al qs.length cl) qs.length (mX qs);rw [cd.out];exact this) Fm (by
         rw [SW.out];show B3 _ _ _ _ _ _ (_ ++ [aB al qs.length cl]);rw [cd.out];exact De)
        rwa [SW.out] at this
       clear uE De Fm Bq QR;go_wp2;go_roundw;case rel=> exact⟨_,Fl,iJ ++ [⟨al,cl,qs⟩],by rw [wH.out];go_num,by rw [wH.out];omega,by rw [wH.out],by rw [wH.out];exact cg.out,by rw [wH.out];exact HO8.out,VE.out⟩
       case measure=> simp only [aK];omega
    ·obtain rfl:n=k:=by omega
     have UX:(jD fs L ls).take n=jD fs L ls:=dH (by unfold jD;rw [cG,Hl.out];exact aD _);rw [UX] at Hq;have R:aY (Mi w PV PE (aO (bO #[aB ad n co,aF aG 0])) wr):=by
      have kN:PV.length=n:=by rw [E2.out];unfold jD;rw [cG,Hl.out]
      refine⟨⟨ad,co,iJ,by rw [kN,E1.out],by rw [E2.out];exact Hq.out,uV.reads HO.out⟩,rO.out⟩
     clear UX wO;go_wp2;go_ret2;exact R.out
 ·have e1:=zq (R1.out h0);have e2:=zq (JK.out _ (R1.out h0) h0);have h' :(fH fs [z] ls !=0)=true:=by rw [bne_iff_ne];exact h0
  generalize fH fs [z] ls=c at *;clear h0 R1 R2 R3 uP IS VD JK;go_enter func8,ntmps8;go_wp2_with fail
  refine HC.out.mono ?_;rintro e W1 ⟨rfl,hb1⟩;have fK:=zq (aT mE.out hb1);go_wp2;go_ret2;exact e2.out _ _ (fK.out.alloc fK.out.size _)
end
end Go.Proofs.YtcimoodjlopdaaaGreatDoor
