import Derived.Test.YtcimoodjlopdaaaGreatDoorZ0
import Derived.Test.YtcimoodjlopdaaaGreatDoorZ15
namespace Go.Proofs.YtcimoodjlopdaaaGreatDoor
set_option maxRecDepth 100000
set_option maxHeartbeats 8000000
set_option linter.all false
open Go.Proofs.Tryz
open Bool renaming true_or->rP,or_true->Dr
open Go renaming World->aE,Calls->aQ,Value->bB,Addr->dE,undef->iZ,Oper->A8,callFunc->BY,wpList->Dm,FuncId->Kq,info_parts->OG
open Go.Ending renaming returned->aO
open Go.IntKind renaming i64->aG
open Go.Obj renaming cells->aL
open Go.Proofs.Tryz renaming prog->aC,underlying47->Kx,ntmps159->QH,func159->Un
open Go.RowKit renaming Below->aJ,intOf->aK,Hid->aY
open Go.RowKit.Below renaming refl->aI
open Go.Value renaming string->aA,slice->aB,int->aF,bool->aM,tuple->bO
open Go.World renaming block_lt_of_cell?->bF
open Go.World.ownsRow renaming cellAt->gJ
open List renaming getD_eq_getElem?_getD->aN,length_append->cU,getElem?_eq_getElem->cZ,mem_singleton->gF
open Nat renaming le_refl->aD,zero_le->bR,mul_one->nC
open Rat renaming le_of_lt->jV
open Trans renaming trans->cL
section
open Go Go.RowKit Go.Lib
theorem jy{x:Rat}(hx:HQ 36 x):long36 (aV x)=false:=by
 have hc:cQ (aV x)=0:=sJ hx (by decide);unfold long36;rw[E8 hc,E7 hc,kT,oM,iT,Bool.or_eq_false_iff,decide_eq_false_iff_not,decide_eq_false_iff_not];have e1:=(cJ x.num.natAbs 36 (by decide)).2 hx.1;have e2:=(cJ x.den 36 (by decide)).2 hx.2;omega
theorem jz{x:Rat}(hx:HQ 36 x):dR (aV x)=0:=by
 rw[dR,ip (sJ hx (by decide)),iN (by rw[jy hx];decide)]
theorem zc(q:FQ)(z:Rat)(h:¬z≤q.t)(hd:q.dir=1∨q.dir= -1):q.pos z=if q.dir<0 then(q.co:Rat)-q.v*(z-q.t)else(q.co:Rat)+q.v*(z-q.t):=by
 unfold FQ.pos;rw[iN h];rcases hd with e|e
 ·rw[e,iN (by decide),show((1:Int):Rat)=1 from rfl,Rat.one_mul]
 ·rw[e,ip (by decide),show((-1:Int):Rat)= -1 from rfl,Rat.neg_mul,Rat.one_mul,Rat.neg_mul,←Rat.sub_eq_add_neg]
theorem BO(q:FQ)(hq:q.Good)(z:Rat)(k:Nat)(hz:HQ k z)(hk:k≤200)(w:aE)(hE:eZ w):
 aQ aC 135 #[q.fr.v,aA (bs (aV z))] w (Rt (aA (bs (aV (q.pos z)))) w):=by
 have HC:=zq (fun(W:aE)(h:aJ w.heap.size w W)=>tZ hz hq.t (by omega) W (hE.below h));have HW:=zq (fun(W:aE)(h:aJ w.heap.size w W)=>jv q.co W (hE.below h) (by have:=hq.co0;have:=hq.co1;omega));have HS:=zq (fun(W:aE)(h:aJ w.heap.size w W)=>C8 hz hq.t (by omega) W (hE.below h));have HM:=zq (fun(W:aE)(h:aJ w.heap.size w W)=>SF hq.v (hz.sub hq.t) (by omega) W (hE.below h));have HA:=zq (fun(W:aE)(h:aJ w.heap.size w W)=>jw hq.hco (hq.v.mul (hz.sub hq.t)) (by omega) W (hE.below h));have WP:=zq (fun(W:aE)(h:aJ w.heap.size w W)=>C8 hq.hco (hq.v.mul (hz.sub hq.t)) (by omega) W (hE.below h));have R1:z≤q.t→aY (q.pos z=(q.co:Rat)):=fun h=>ip h;have R2:¬z≤q.t→aY (q.pos z=if q.dir<0 then(q.co:Rat)-q.v*(z-q.t)else(q.co:Rat)+q.v*(z-q.t)):=fun h=>zc q z h hq.dir;have hcm:=Xx z q.t;generalize mJ z q.t=cm at *;have hp1:z≤q.t→cm≤0:=fun h=>of_decide_eq_true (by rw[hcm];exact decide_eq_true h);have Up:¬z≤q.t→¬cm≤0:=fun h=>of_decide_eq_false (by rw[hcm];exact decide_eq_false h);clear hE hq hz hk hcm;by_cases hzt:z≤q.t
 ·have R:=R1 hzt;have hp:=hp1 hzt;clear R1 R2 hp1 Up hzt HS HM HA WP;obtain⟨up,co,dir,v,t⟩:=q;unfold Fr.v Fr.cells FQ.fr;simp only[]at *;generalize bs (aV v)=SP at *;generalize bs (aV t)=ST at *;generalize bs (aV z)=ZT at *;go_enter func135,ntmps135;go_wp2_with fail
  have hb:=bZ.new w #[aM up,aF aG co,aF aG dir,aA SP,aA ST] 44;have hB:=(aI _ w).alloc (aD _) (aL #[aM up,aF aG co,aF aG dir,aA SP,aA ST] 44);refine(HC.out _ hB).mono ?_;rintro e W1⟨rfl,hb1⟩;have hb:=hb.below hb1 hb.lt;have hB:=aH hB hb1 hB.size;have c1:=hb.ce 1;have lt:=hb.lt;clear hb hb1;go_wp2_with fail
  refine ka (HW.out _ hB) fun W2 hb2=>?_;go_wp2;go_ret;exact⟨by rw[R.out];rfl,aH hB hb2 hB.size⟩
 ·have R:=R2 hzt;have hp:=Up hzt;clear R1 R2 hp1 Up hzt;obtain⟨up,co,dir,v,t⟩:=q;unfold Fr.v Fr.cells FQ.fr at *;simp only[]at *;generalize bs (aV v)=SP at *;generalize bs (aV t)=ST at *;generalize bs (aV (co:Rat))=CT at *;generalize bs (aV z)=ZT at *;generalize bs (aV (z-t))=DT at *;generalize bs (aV (v*(z-t)))=MT at *;go_enter func135,ntmps135;go_wp2_with fail
  have hb:=bZ.new w #[aM up,aF aG co,aF aG dir,aA SP,aA ST] 44;have hB:=(aI _ w).alloc (aD _) (aL #[aM up,aF aG co,aF aG dir,aA SP,aA ST] 44);refine(HC.out _ hB).mono ?_;rintro e W⟨rfl,hb1⟩;have hb:=hb.below hb1 hb.lt;have hB:=aH hB hb1 hB.size;have d3:=hb.ce 3;have d4:=hb.ce 4;have d1:=hb.ce 1;have d2:=hb.ce 2;have lt:=hb.lt;have HB:=zq hB;clear hb hB hb1;go_wp2_with fail
  go_region_held3 (fun w'=>w'.cell? ⟨w.heap.size,1,none⟩=some (aF aG co)∧w'.cell? ⟨w.heap.size,2,none⟩=some (aF aG dir)∧w'.cell? ⟨w.heap.size,3,none⟩=some (aA SP)∧w'.cell? ⟨w.heap.size,4,none⟩=some (aA ST)) (go_keep)
   (first
    |(go_at_call 162;refine(HS.out _ (HB.out.drew)).mono ?_;rintro e w1 ⟨rfl,hb1⟩;have gG:=aH HB.out.drew hb1 HB.out.size;have:=ck hb1 w.heap.size 1 (aF aG co);have:=ck hb1 w.heap.size 2 (aF aG dir);have:=ck hb1 w.heap.size 3 (aA SP);have:=ck hb1 w.heap.size 4 (aA ST))
    |(go_at_call 192;refine(HM.out _ gG).mono ?_;rintro e w2 ⟨rfl,hb2⟩;have eQ:=aH gG hb2 gG.size;have:=ck hb2 w.heap.size 1 (aF aG co);have:=ck hb2 w.heap.size 2 (aF aG dir);have:=ck hb2 w.heap.size 3 (aA SP);have:=ck hb2 w.heap.size 4 (aA ST)))
  rename_i hS;obtain⟨e1,e2,-,-⟩:=hS;have lt2:w.heap.size<w2.heap.size:=Nat.lt_of_lt_of_le lt (Nat.le_trans hb1.size hb2.size);by_cases hd:dir<0
  ·rw[ip hd]at R;go_wp2_with fail
   refine ka (HW.out _ eQ) fun W3 hb3=>?_;have fN:=aH eQ hb3 eQ.size;go_wp2_with fail
   refine ka (WP.out _ fN) fun W4 hb4=>?_;go_wp2;go_ret;exact⟨by rw[R.out];rfl,aH fN hb4 fN.size⟩
  ·rw[iN hd]at R;go_wp2_with fail
   refine ka (HW.out _ eQ) fun W3 hb3=>?_;have fN:=aH eQ hb3 eQ.size;go_wp2_with fail
   refine ka (HA.out _ fN) fun W4 hb4=>?_;go_wp2;go_ret;exact⟨by rw[R.out];rfl,aH fN hb4 fN.size⟩
theorem FQ.Good.lens{q:FQ}(h:q.Good):q.fr.sp.length≤8000000∧q.fr.st.length≤8000000:=by
 have h1:=mS h.v (by decide);have h2:=mS h.t (by decide);rw[bU]at h1 h2;exact⟨h1,h2⟩
theorem yV(q:FQ)(hq:q.Good)(w:aE)(hE:eZ w):
 aQ aC 69 #[q.fr.v] w (Rt (aF aG 0) w):=by
 have:=Oc q.fr w hE hq.lens.1 hq.lens.2;rwa[hq.chk]at this
theorem rM(q:FQ)(hq:q.Good)(w:aE)(hE:eZ w):
 aQ aC 63 #[q.fr.v] w (Rt (aF aG 0) w):=by
 have:=SD q.fr w hE hq.lens.1 hq.lens.2;rwa[hq.chk]at this
theorem bZ.front{W:aE}{b:Nat}{a0 a1 a2 a3 a4:bB}{T:TypeId}(h:bZ W b #[a0,a1,a2,a3,a4] T):
 W.cell? ⟨b,0,none⟩=some a0∧W.cell? ⟨b,1,none⟩=some a1∧W.cell? ⟨b,2,none⟩=some a2∧W.cell? ⟨b,3,none⟩=some a3∧W.cell? ⟨b,4,none⟩=some a4:=
 ⟨h.cell 0,h.cell 1,h.cell 2,h.cell 3,h.cell 4⟩
theorem Zk(q:FQ)(hq:q.Good)(z:Rat)(hz:HQ 36 z)(w:aE)(hE:eZ w):
 aQ aC 134 #[q.fr.v,aA (bs (aV z))] w (Rt (aF aG 0) w):=by
 have HC:=zq (fun(W:aE)(h:aJ w.heap.size w W)=>yV q hq W (hE.below h));have HN:=zq (fun(W:aE)(h:aJ w.heap.size w W)=>Vw (bs (aV z)) W (hE.below h) (mS hz (by decide)));rw[aX,jz hz]at HN;clear hE hq hz;unfold Fr.v Fr.cells at *;generalize bs q.fr.sp=SP at *;generalize bs q.fr.st=ST at *;generalize bs (aV z)=ZT at *;go_enter func134,ntmps134;go_wp2_with fail
 have hB:=(aI _ w).alloc (aD _) (aL #[aM q.fr.up,aF aG q.fr.co,aF aG q.fr.dir,aA SP,aA ST] 44);refine(HC.out _ hB).mono ?_;rintro e W1⟨rfl,hb1⟩;have gG:=aH hB hb1 hB.size;go_wp2_with fail
 refine(HN.out _ gG).mono ?_;rintro e W2⟨rfl,hb2⟩;go_wp2;go_ret;exact⟨rfl,aH gG hb2 gG.size⟩
theorem kd(q:FQ)(hq:q.Good)(a:Option dE)(n cap:Nat)(zs:List Rat)(hn:zs.length=n)(hn2:n≤1000)(hz:∀z∈zs,HQ 36 z)(w:aE)(hE:eZ w)(hc:rW w a (strs (zs.map aV))):
 aQ aC 113 #[q.fr.v,aB a n cap] w (Rt (aF aG 0) w):=by
 have HC:=zq (fun(W:aE)(h:aJ w.heap.size w W)=>rM q hq W (hE.below h));have HN:aY (∀(k:Nat),k<n→∀W,aJ w.heap.size w W→aQ aC 121 #[aA (bs ((zs.map aV).getD k []))] W (Rt (aF aG 0) W)):=by
  intro k hk W h;have Q7:k<zs.length:=by omega
  have e:(zs.map aV).getD k []=aV zs[k]:=by simp[aN,Q7]
  have hzk:=hz _ (List.getElem_mem Q7);rw[e];have:=Oa (bs (aV zs[k])) W (hE.below h) (mS hzk (by decide));rwa[aX,jz hzk]at this
 have Hc:=zq hc;have Hn:aY ((zs.map aV).length=n):=by show _=_;rw[List.length_map];exact hn
 clear hE hq hz hc hn;unfold Fr.v Fr.cells at *;generalize zs.map aV=ls at *;generalize bs q.fr.sp=SP at *;generalize bs q.fr.st=ST at *;go_enter func113,ntmps113;go_wp2_with fail
 have hB:=(aI _ w).alloc (aD _) (aL #[aM q.fr.up,aF aG q.fr.co,aF aG q.fr.dir,aA SP,aA ST] 44);refine(HC.out _ hB).mono ?_;rintro e W1⟨rfl,hb1⟩;have gG:=aH hB hb1 hB.size;clear hb1 hB HC;go_wp2;go_loopw[13] (fun i wr=>∃k:Nat,i=aF aG k∧k≤n∧aJ w.heap.size w wr) (fun i _=>n-(aK i).toNat);case atStart=>exact⟨0,rfl,bR _,gG⟩
 case round=>
  obtain⟨k,rfl,hk,hB⟩:=hrel;by_cases hlt:k<n
  ·obtain⟨b,off,rfl,zK⟩:=Hc.out k (by rw[lS,Hn.out];exact hlt);rw[mR ls (by rw[Hn.out];exact hlt)]at zK;have YR:=(hB.cell (p:=⟨b,off+k,none⟩) (bF w _ zK)).trans zK;have HNk:=zq (HN.out k hlt);clear zK;generalize bs (ls.getD k [])=X at *;go_wp2_with fail
   refine(HNk.out _ hB).mono ?_;rintro e W2⟨rfl,hb2⟩;go_wp2;go_roundw;case rel=>exact⟨k+1,by go_num,by omega,aH hB hb2 hB.size⟩
   case measure=>simp only[aK];omega
  ·obtain rfl:n=k:=by omega
   go_wp2;go_ret;exact⟨rfl,hB⟩
theorem PD(q:FQ)(hq:q.Good)(z:Rat)(hz:HQ 36 z)(w:aE)(hE:eZ w):
 aQ aC 72 #[q.fr.v,aA (bs (aV z))] w (Rt (bO #[aA (bs (aV (q.pos z))),aF aG 0]) w):=by
 have HC:=zq (fun(W:aE)(h:aJ w.heap.size w W)=>Zk q hq z hz W (hE.below h));have HP:=zq (fun(W:aE)(h:aJ w.heap.size w W)=>BO q hq z 36 hz (by decide) W (hE.below h));clear hE hq hz;unfold Fr.v Fr.cells at *;generalize bs q.fr.sp=SP at *;generalize bs q.fr.st=ST at *;generalize bs (aV z)=ZT at *;generalize bs (aV (q.pos z))=PT at *;go_enter func72,ntmps72;go_wp2_with fail
 have hb:=bZ.new w #[aM q.fr.up,aF aG q.fr.co,aF aG q.fr.dir,aA SP,aA ST] 44;have hB:=(aI _ w).alloc (aD _) (aL #[aM q.fr.up,aF aG q.fr.co,aF aG q.fr.dir,aA SP,aA ST] 44);refine(HC.out _ hB).mono ?_;rintro e W1⟨rfl,hb1⟩;have hb:=hb.below hb1 hb.lt;have hB:=aH hB hb1 hB.size;obtain⟨d0,d1,d2,d3,d4⟩:=hb.front;have lt:=hb.lt;clear hb hb1;go_wp2_with fail
 refine(HP.out _ hB).mono ?_;rintro e W2⟨rfl,hb2⟩;go_wp2;go_ret2;exact⟨rfl,aH hB hb2 hB.size⟩
theorem SG(q:FQ)(hq:q.Good)(z:Rat)(hz:HQ 36 z)(w:aE)(hE:eZ w):
 aQ aC 66 #[q.fr.v,aA (bs (aV z))] w (Rt (bO #[aA (bs (aV (q.pos z))),aF aG 0]) w):=by
 have HC:=zq (fun(W:aE)(h:aJ w.heap.size w W)(a:Option dE)(hc:rW W a (strs ([z].map aV)))=>kd q hq a 1 1 [z] rfl (by decide) (by intro x hx;rw[gF]at hx;subst hx;exact hz) W (hE.below h) hc);have HP:=zq (fun(W:aE)(h:aJ w.heap.size w W)=>C9 q hq z 36 hz (by decide) W (hE.below h));have HR:aY (∀(W:aE)(T:TypeId),rW (W.alloc (aL #[aA (bs (aV z))] T)) (some ⟨W.heap.size,0,none⟩) (strs ([z].map aV))):=by
  intro W T i hi;have hi:i<1:=hi;obtain rfl:i=0:=by omega
  exact⟨_,_,rfl,(bZ.new W #[aA (bs (aV z))] T).cell 0⟩
 clear hE hq hz;unfold Fr.v Fr.cells at *;generalize bs q.fr.sp=SP at *;generalize bs q.fr.st=ST at *;generalize bs (aV z)=ZT at *;generalize bs (aV (q.pos z))=PT at *;go_enter func66,ntmps66;go_wp2_with fail
 have hb:=(bZ.new w #[aM q.fr.up,aF aG q.fr.co,aF aG q.fr.dir,aA SP,aA ST] 44).alloc (aL #[aA ZT] 24);have hB:=((aI _ w).alloc (aD _) (aL #[aM q.fr.up,aF aG q.fr.co,aF aG q.fr.dir,aA SP,aA ST] 44)).alloc (by simp) (aL #[aA ZT] 24);have hr:=HR.out (w.alloc (aL #[aM q.fr.up,aF aG q.fr.co,aF aG q.fr.dir,aA SP,aA ST] 44)) 24;rw[World.size_alloc]at hr;refine(HC.out _ hB _ hr).mono ?_;rintro e W1⟨rfl,hb1⟩;have hb:=hb.below hb1 hb.lt;have hB:=aH hB hb1 hB.size;obtain⟨d0,d1,d2,d3,d4⟩:=hb.front;have lt:=hb.lt;clear hb hb1 hr;go_wp2_with fail
 refine(HP.out _ hB).mono ?_;rintro e W2⟨rfl,hb2⟩;go_wp2;go_ret2;exact⟨rfl,aH hB hb2 hB.size⟩
end
section
open Go
def FQ.low(q:FQ)(z:Rat):Rat:=if z≤q.t then 0 else q.vel
def FQ.high(q:FQ)(z:Rat):Rat:=if z<q.t then 0 else q.vel
def eU(f g:FQ)(z:Rat):Prop:=f.pos z=g.pos z∧(f.low z≠g.low z∨f.high z≠g.high z)
theorem PH{q:FQ}{z:Rat}(h:z≤q.t):q.pos z=q.co:=ip h
theorem II{q:FQ}{z:Rat}(h:q.t<z):q.pos z=q.co+q.vel*(z-q.t):=iN (Rat.not_le.2 h)
def zO(f g:FQ):Rat:=(g.co:Rat)-(f.co:Rat)
def jB(f g:FQ):List Rat:=
 [f.t,g.t]++(if f.vel≠0 then[f.t+zO f g/f.vel]else[])++(if g.vel≠0 then[g.t-zO f g/g.vel]else[])++
  (if f.vel≠g.vel then[(zO f g+(f.vel*f.t-g.vel*g.t))/(f.vel-g.vel)]else[])
theorem Od{f g:FQ}{z:Rat}(h:eU f g z):z∈jB f g:=by
 obtain⟨h1,h2⟩:=h;unfold jB;simp only[List.mem_append,List.mem_cons,List.not_mem_nil,or_false];by_cases e1:z=f.t
 ·exact .inl (.inl (.inl (.inl e1)))
 by_cases e2:z=g.t
 ·exact .inl (.inl (.inl (.inr e2)))
 rcases(by grind:z<f.t∨f.t<z)with a|a<;>rcases(by grind:z<g.t∨g.t<z)with b|b
 ·have l1:f.low z=0:=ip (jV a);have l2:g.low z=0:=ip (jV b);have u1:f.high z=0:=ip a;have u2:g.high z=0:=ip b;rw[l1,l2,u1,u2]at h2;grind
 ·rw[PH (jV a),II b]at h1;have hw:g.vel≠0:=by
   intro e;have l1:f.low z=0:=ip (jV a);have l2:g.low z=g.vel:=iN (Rat.not_le.2 b);have u1:f.high z=0:=ip a;have u2:g.high z=g.vel:=iN (by grind);grind
  refine .inl (.inr ?_);rw[ip hw,gF];unfold zO;grind
 ·rw[PH (jV b),II a]at h1;have hw:f.vel≠0:=by
   intro e;have l1:g.low z=0:=ip (jV b);have l2:f.low z=f.vel:=iN (Rat.not_le.2 a);have u1:g.high z=0:=ip b;have u2:f.high z=f.vel:=iN (by grind);grind
  refine .inl (.inl (.inr ?_));rw[ip hw,gF];unfold zO;grind
 ·rw[II a,II b]at h1;have hw:f.vel≠g.vel:=by
   intro e;have l1:g.low z=g.vel:=iN (Rat.not_le.2 b);have l2:f.low z=f.vel:=iN (Rat.not_le.2 a);have u1:g.high z=g.vel:=iN (by grind);have u2:f.high z=f.vel:=iN (by grind);grind
  refine .inr ?_;rw[ip hw,gF];unfold zO;grind
def uA(f g:FQ)(z:Rat):Rat:=z-(f.pos z-g.pos z)/(f.high z-g.high z)
def mW(f g:FQ):Rat:=if g.t<f.t then g.t else f.t
def kP(f g:FQ):Rat:=if g.t<f.t then f.t else g.t
def okR(f g:FQ)(z:Rat):Prop:=f.high z-g.high z≠0∧z<uA f g z
def candR(f g:FQ)(z:Rat):Prop:=
 z=f.t∨z=g.t∨(okR f g (mW f g)∧z=uA f g (mW f g)∧z<kP f g)∨(okR f g (kP f g)∧z=uA f g (kP f g))
theorem SH{q:FQ}{a z:Rat}(h:a≤z)(h2:q.t≤a∨z≤q.t):q.pos z=q.pos a+q.high a*(z-a):=by
 unfold FQ.pos FQ.high;rcases h2 with h2|h2
 ·by_cases e:q.t=a
  ·by_cases e2:z=a
   ·subst e2;grind
   ·rw[iN (by grind),ip (by grind),iN (by grind)];unfold FQ.vel;grind
  ·rw[iN (by grind),iN (by grind),iN (by grind)];unfold FQ.vel;grind
 ·by_cases e:q.t=a
  ·have:z=a:=by grind
   subst this;grind
  ·rw[ip (by grind),ip (by grind),ip (by grind)];grind
theorem SI{q:FQ}{a z:Rat}(h:a<z)(h2:q.t≤a∨z<q.t):q.high z=q.high a∧q.low z=q.high a:=by
 unfold FQ.high FQ.low;rcases h2 with h2|h2
 ·rw[iN (by grind),iN (by grind),iN (by grind)];exact⟨rfl,rfl⟩
 ·rw[ip (by grind),ip (by grind),ip (by grind)];exact⟨rfl,rfl⟩
theorem Oe{f g:FQ}{a z:Rat}(h:eU f g z)(ha:a<z)(hf:f.t≤a∨z<f.t)(hg:g.t≤a∨z<g.t):okR f g a∧z=uA f g a:=by
 obtain⟨h1,h2⟩:=h;obtain⟨f1,f2⟩:=SI ha hf;obtain⟨g1,g2⟩:=SI ha hg;rw[f1,f2,g1,g2]at h2;rw[SH (jV ha) (hf.imp id jV),SH (q:=g) (jV ha) (hg.imp id jV)]at h1;have lE:f.high a-g.high a≠0:=by grind
 have hz:z=uA f g a:=by unfold uA;grind
 exact⟨⟨lE,by rw[←hz];exact ha⟩,hz⟩
theorem Zl{f g:FQ}{z:Rat}(h:eU f g z):candR f g z:=by
 unfold candR;by_cases e1:z=f.t
 ·exact .inl e1
 by_cases e2:z=g.t
 ·exact .inr (.inl e2)
 refine .inr (.inr ?_);have WK:mW f g≤f.t∧mW f g≤g.t∧f.t≤kP f g∧g.t≤kP f g∧(mW f g=f.t∨mW f g=g.t)∧(kP f g=f.t∨kP f g=g.t):=by
  unfold mW kP;split <;>grind
 obtain⟨a1,a2,b1,b2,c1,c2⟩:=WK;generalize hF:mW f g=F at *;generalize hL:kP f g=L at *;by_cases hz:L<z
 ·exact .inr (Oe h hz (.inl b1) (.inl b2))
 ·by_cases hz2:F<z
  ·have hzl:z<L:=by grind
   have hf:f.t≤F∨z<f.t:=by
    have hx:mW f g=F:=hF;have hy:kP f g=L:=hL;unfold mW at hx;unfold kP at hy;split at hx<;>split at hy<;>grind
   have hg:g.t≤F∨z<g.t:=by
    have hx:mW f g=F:=hF;have hy:kP f g=L:=hL;unfold mW at hx;unfold kP at hy;split at hx<;>split at hy<;>grind
   obtain⟨k1,k2⟩:=Oe h hz2 hf hg;exact .inl ⟨k1,k2,hzl⟩
  ·exfalso;obtain⟨-,h2⟩:=h;have l1:f.low z=0:=ip (by grind);have l2:g.low z=0:=ip (by grind);have u1:f.high z=0:=ip (by grind);have u2:g.high z=0:=ip (by grind);rw[l1,l2,u1,u2]at h2;grind
end
section
open Go Go.RowKit Go.Lib
theorem rY(x y:Rat):(x<y∧mJ x y= -1)∨(x=y∧mJ x y=0)∨(y<x∧mJ x y=1):=by
 unfold mJ;by_cases h:x<y
 ·exact .inl ⟨h,ip h⟩
 ·by_cases k:y<x
  ·exact .inr (.inr ⟨k,by rw[iN h,ip k]⟩)
  ·exact .inr (.inl ⟨by grind,by rw[iN h,iN k]⟩)
theorem Ez(q:FQ)(hq:q.Good)(z:Rat)(k:Nat)(hz:HQ k z)(hk:k≤200)(w:aE)(hE:eZ w):
 aQ aC 159 #[q.fr.v,aA (bs (aV z))] w (Rt (bO #[aA (bs (aV (q.low z))),aA (bs (aV (q.high z)))]) w):=by
 have HC:=zq (fun(W:aE)(h:aJ w.heap.size w W)=>JJ hz hq.t (by omega) W (hE.below h));have HV:=zq (fun(W:aE)(h:aJ w.heap.size w W)=>Ab q hq W (hE.below h));have z0:bs (aV 0)={data:= #[48]}:=by rw[sL];rfl
 clear hE hq hz hk;unfold Fr.v Fr.cells at *;generalize hSP:bs q.fr.sp=SP at *;generalize hST:bs (aV q.t)=ST at *;rw[show bs q.fr.st=ST from hST]at *;clear hSP hST;have hcm:=rY z q.t;generalize mJ z q.t=cm at *;have R:aY (∀a b,q.low z=a→q.high z=b→(aO (bO #[aA (bs (aV (q.low z))),aA (bs (aV (q.high z)))])=aO (bO #[aA (bs (aV a)),aA (bs (aV b))]))):=by
  intro a b h1 h2;rw[h1,h2]
 have hb:=bZ.new w #[aM q.fr.up,aF aG q.fr.co,aF aG q.fr.dir,aA SP,aA ST] 44;have hB:=(aI _ w).alloc (aD _) (aL #[aM q.fr.up,aF aG q.fr.co,aF aG q.fr.dir,aA SP,aA ST] 44);rcases hcm with⟨h,rfl⟩|⟨h,rfl⟩|⟨h,rfl⟩
 ·have RR:=zq (R.out 0 0 (ip (jV h)) (ip h));rw[z0]at RR;clear R h z0 HV;generalize bs (aV z)=ZT at *;go_enter Un,QH;go_wp2_with fail
  refine(HC.out _ hB).mono ?_;rintro e W⟨rfl,hb1⟩;go_wp2;go_ret2;exact⟨RR.out.symm,aH hB hb1 hB.size⟩
 ·have RR:=zq (R.out 0 q.vel (ip (by grind)) (iN (by grind)));rw[z0]at RR;clear R h z0;generalize bs (aV z)=ZT at *;generalize bs (aV q.vel)=VT at *;go_enter Un,QH;go_wp2_with fail
  refine(HC.out _ hB).mono ?_;rintro e W⟨rfl,hb1⟩;have hb:=hb.below hb1 hb.lt;have hB:=aH hB hb1 hB.size;obtain⟨d0,d1,d2,d3,d4⟩:=hb.front;have lt:=hb.lt;clear hb hb1;go_wp2_with fail
  refine(HV.out _ hB).mono ?_;rintro e W2⟨rfl,hb2⟩;go_wp2;go_ret2;exact⟨RR.out.symm,aH hB hb2 hB.size⟩
 ·have RR:=zq (R.out q.vel q.vel (iN (by grind)) (iN (by grind)));clear R h z0;generalize bs (aV z)=ZT at *;generalize bs (aV q.vel)=VT at *;go_enter Un,QH;go_wp2_with fail
  refine(HC.out _ hB).mono ?_;rintro e W⟨rfl,hb1⟩;have hb:=hb.below hb1 hb.lt;have hB:=aH hB hb1 hB.size;obtain⟨d0,d1,d2,d3,d4⟩:=hb.front;have lt:=hb.lt;have HB:=zq hB;clear hb hb1 hB;go_wp2_with fail
  go_region_held3 (fun w'=>w'.cell? ⟨w.heap.size,0,none⟩=some (aM q.fr.up)∧w'.cell? ⟨w.heap.size,1,none⟩=some (aF aG q.fr.co)∧w'.cell? ⟨w.heap.size,2,none⟩=some (aF aG q.fr.dir)∧w'.cell? ⟨w.heap.size,3,none⟩=some (aA SP)∧w'.cell? ⟨w.heap.size,4,none⟩=some (aA ST)) (go_keep)
   (first
    |(go_at_call 183;have tok:=HB.out;refine(HV.out _ HB.out.drew).mono ?_;rintro e w1 ⟨rfl,hb1⟩;have gG:=aH HB.out.drew hb1 HB.out.size;have:=ck hb1 w.heap.size 0 (aM q.fr.up);have:=ck hb1 w.heap.size 1 (aF aG q.fr.co);have:=ck hb1 w.heap.size 2 (aF aG q.fr.dir);have:=ck hb1 w.heap.size 3 (aA SP);have:=ck hb1 w.heap.size 4 (aA ST))
    |(go_at_call 183;refine(HV.out _ gG).mono ?_;rintro e w2 ⟨rfl,hb2⟩;have eQ:=aH gG hb2 gG.size;have:=ck hb2 w.heap.size 0 (aM q.fr.up);have:=ck hb2 w.heap.size 1 (aF aG q.fr.co);have:=ck hb2 w.heap.size 2 (aF aG q.fr.dir);have:=ck hb2 w.heap.size 3 (aA SP);have:=ck hb2 w.heap.size 4 (aA ST)))
  go_wp2;go_ret2;exact⟨RR.out.symm,eQ⟩
def FQ.drift(q:FQ)(z:Rat)(Ce:Bool):Rat:=if Ce=true then q.high z else q.low z
theorem Of(q:FQ)(hq:q.Good)(z:Rat)(k:Nat)(Ce:Bool)(hz:HQ k z)(hk:k≤200)(w:aE)(hE:eZ w):
 aQ aC 163 #[q.fr.v,aA (bs (aV z)),aM Ce] w (Rt (aA (bs (aV (q.drift z Ce)))) w):=by
 have HC:=zq (fun(W:aE)(h:aJ w.heap.size w W)=>tZ hz hq.t (by omega) W (hE.below h));have HW:=zq (fun(W:aE)(h:aJ w.heap.size w W)=>jv q.dir W (hE.below h) (by have:=hq.dir;omega));have HM:=zq (fun(W:aE)(h:aJ w.heap.size w W)=>SF hq.hdir hq.v (by decide) W (hE.below h));have HR:aY (q.vel=(q.dir:Rat)*q.v):=rfl;rw[←HR.out]at HM;have z0:bs (aV 0)={data:= #[48]}:=by rw[sL];rfl
 clear hE hq hz hk;have hcm:=rY z q.t;generalize mJ z q.t=cm at *;have ev:q.fr.v=.agg #[aM q.up,aF aG q.co,aF aG q.dir,aA (bs (aV q.v)),aA (bs (aV q.t))]:=rfl;have hb:=bZ.new w #[aM q.up,aF aG q.co,aF aG q.dir,aA (bs (aV q.v)),aA (bs (aV q.t))] 44;have hB:=(aI _ w).alloc (aD _) (aL #[aM q.up,aF aG q.co,aF aG q.dir,aA (bs (aV q.v)),aA (bs (aV q.t))] 44);rw[ev];clear ev;generalize bs (aV q.v)=SP at *;generalize bs (aV q.t)=ST at *;generalize bs (aV (q.dir:Rat))=DT at *;by_cases hzero:(cm= -1∨(cm=0∧Ce=false))
 ·have R:aY (q.drift z Ce=0):=by
   show _=_;unfold FQ.drift FQ.high FQ.low;rcases hzero with rfl|⟨rfl,rfl⟩
   ·have h:z<q.t:=by rcases hcm with⟨h,-⟩|⟨-,h⟩|⟨-,h⟩;exact h;cases h;cases h
    rw[ip h,ip (jV h)];split <;>rfl
   ·have h:z=q.t:=by rcases hcm with⟨-,h⟩|⟨h,-⟩|⟨-,h⟩;cases h;exact h;cases h
    rw[iN (by decide),ip (by grind)]
  clear hcm HW HM HR;generalize bs (aV z)=ZT at *;rcases hzero with rfl|⟨rfl,rfl⟩;all_goals
   go_enter func163,ntmps163;go_wp2_with fail
   refine(HC.out _ hB).mono ?_;rintro e W⟨rfl,hb1⟩;go_wp2;go_ret;exact⟨by rw[R.out,z0];rfl,aH hB hb1 hB.size⟩
 ·have R:aY (q.drift z Ce=q.vel):=by
   show _=_;unfold FQ.drift FQ.high FQ.low;rcases hcm with⟨h,rfl⟩|⟨h,rfl⟩|⟨h,rfl⟩
   ·exact absurd (.inl rfl) hzero
   ·have ha:Ce=true:=by cases Ce;exact absurd (.inr ⟨rfl,rfl⟩) hzero;rfl
    rw[ip ha,iN (by grind)]
   ·have a1:¬z<q.t:=by grind
    have a2:¬z≤q.t:=by grind
    rw[iN a1,iN a2];split <;>rfl
  have hc:(cm=0∧Ce=true)∨cm=1:=by
   rcases hcm with⟨h,rfl⟩|⟨h,rfl⟩|⟨h,rfl⟩
   ·exact absurd (.inl rfl) hzero
   ·left;cases Ce
    ·exact absurd (.inr ⟨rfl,rfl⟩) hzero
    ·exact⟨rfl,rfl⟩
   ·exact .inr rfl
  clear hcm hzero z0 HR;generalize q.drift z Ce=DR at *;obtain rfl:DR=q.vel:=R.out;generalize bs (aV z)=ZT at *;generalize bs (aV q.vel)=VT at *;rcases hc with⟨rfl,rfl⟩|rfl;all_goals
   go_enter func163,ntmps163;go_wp2_with fail
   refine(HC.out _ hB).mono ?_;rintro e W⟨rfl,hb1⟩;have hb:=hb.below hb1 hb.lt;have hB:=aH hB hb1 hB.size;obtain⟨d0,d1,d2,d3,d4⟩:=hb.front;have lt:=hb.lt;have HB:=zq hB;clear hb hb1 hB;go_wp2_with fail
   go_region_held3 (fun w'=>w'.cell? ⟨w.heap.size,2,none⟩=some (aF aG q.dir)∧w'.cell? ⟨w.heap.size,3,none⟩=some (aA SP)) (go_keep)
    (first
     |(go_at_call 191;refine(HW.out _ HB.out.drew).mono ?_;rintro e w1 ⟨rfl,hb1⟩;have gG:=aH HB.out.drew hb1 HB.out.size;have:=ck hb1 w.heap.size 2 (aF aG q.dir);have:=ck hb1 w.heap.size 3 (aA SP))
     |(go_at_call 192;refine(HM.out _ gG).mono ?_;rintro e w2 ⟨rfl,hb2⟩;have eQ:=aH gG hb2 gG.size;have:=ck hb2 w.heap.size 2 (aF aG q.dir);have:=ck hb2 w.heap.size 3 (aA SP)))
   go_wp2;go_ret;exact⟨rfl,eQ⟩
theorem GQ:(Tryz.prog.info? 24).map (fun i=>(i.zero,i.size,i.bytes))=some (some (aA ⟨#[]⟩),1,16):=by kernel_rfl
theorem rW.own{w:aE}{base e:Nat}{a:Option dE}{n cap:Nat}{xs:List bB}(h:w.ownsRow base e 1 (aB a n cap) n xs):rW w a xs:=by
 intro i hi;have hl:=h.1;simp only[nC]at hl;rcases h.2 with⟨_,h2⟩|⟨g,c,D7,hv,_⟩
 ·omega
 ·injection hv with e1 e2 e3;subst e1 e3;refine⟨g,0,rfl,?_⟩;have:=gJ h i (by omega);rw[Nat.zero_add,this];simp[aN,cZ hi]
theorem rW.lt{w:aE}{b off:Nat}{vs:List bB}(h:rW w (some ⟨b,off,none⟩) vs)(hp:0<vs.length):b<w.heap.size:=by
 obtain⟨b',fm,e,hc⟩:=h 0 hp;injection e with e;injection e with e1 e2;subst e1 e2;exact bF w ⟨b,off+0,none⟩ hc
theorem rW.cell{w:aE}{b off:Nat}{vs:List bB}(h:rW w (some ⟨b,off,none⟩) vs){i:Nat}(hi:i<vs.length):w.cell? ⟨b,off+i,none⟩=some (vs.getD i iZ):=by
 obtain⟨b',fm,e,hc⟩:=h i hi;injection e with e;injection e with e1 e2;subst e1 e2;exact hc
theorem Ni{vs us:List bB}{i:Nat}(hi:i<vs.length):(vs++us).getD i iZ=vs.getD i iZ:=by
 simp[aN,List.getElem?_append_left hi]
theorem Nj{vs us:List bB}{i:Nat}:(vs++us).getD (vs.length+i) iZ=us.getD i iZ:=by
 simp[aN,List.getElem?_append_right]
theorem rW.front{w:aE}{a:Option dE}{vs us:List bB}(h:rW w a (vs++us)):rW w a vs:=by
 intro i hi;obtain⟨b,off,e,hc⟩:=h i (by rw[cU];omega);exact⟨b,off,e,by rw[hc,Ni hi]⟩
theorem rW.back{w:aE}{b off:Nat}{vs us:List bB}(h:rW w (some ⟨b,off,none⟩) (vs++us)):rW w (some ⟨b,off+vs.length,none⟩) us:=by
 intro i hi;refine⟨b,off+vs.length,rfl,?_⟩;rw[Nat.add_assoc,h.cell (i:=vs.length+i) (by rw[cU];omega),Nj]
theorem DS{w:aE}{fA:Array A8}{rest:List A8}{o:A8}{a:Act}{Q:Exit→Act→aE→Prop}(FD:o.guard=none)(s x:Operand)
 (ho:o.op=.call {callee:=.builtin .append,args:= #[s,x],argTypes:= #[47,47]})(base:Nat)
 (v:bB)(n:Nat)(xs:List bB)(hs:a.eval s=v)(hown:w.ownsRow base 24 1 v n xs)
 (y:ByteArray)(hx:a.eval x=aB (some ⟨w.heap.size,0,none⟩) 1 1)
 (QI:n+1≤2147483648)(lK:base≤w.heap.size)
 (h:∀g cap w',w'.ownsRow base 24 1 (aB (some ⟨g,0,none⟩) (n+1) cap) (n+1) (xs++[aA y])→base≤g→w.grownBy w' v.ownBlock→
  Dm aC fA Q rest (a.put o.dst (aB (some ⟨g,0,none⟩) (n+1) cap)) w'):
 Dm aC fA Q (o::rest) a (w.alloc (aL #[aA y] 24)):=by
 obtain⟨i0,hi,D8,uY,hz2⟩:=OG GQ;exact sI FD s x 47 ho base 24 i0 (aA ⟨#[]⟩) 1 16 Kx hi D8 uY hz2 rfl (by decide) v n xs hs hown [aA y] hx rfl (by simp[Value.oneCell']) QI (by decide) lK h
theorem SJ{w:aE}{fA:Array A8}{rest:List A8}{o:A8}{a:Act}{Q:Exit→Act→aE→Prop}(FD:o.guard=none)(s x:Operand)
 (ho:o.op=.call {callee:=.builtin .append,args:= #[s,x],argTypes:= #[47,47]})(base:Nat)
 (gv cv n:Nat)(xs:List bB)(hs:a.eval s=aB (some ⟨gv,0,none⟩) n cv)(hown:w.ownsRow base 24 1 (aB (some ⟨gv,0,none⟩) n cv) n xs)
 (b off m c:Nat)(xC:List (List UInt8))(hx:a.eval x=aB (some ⟨b,off,none⟩) m c)(hl:xC.length=m)(hr:rW w (some ⟨b,off,none⟩) (strs xC))
 (QI:n+m≤2147483648)(lK:base≤w.heap.size)
 (h:∀g cap w',w'.ownsRow base 24 1 (aB (some ⟨g,0,none⟩) (n+m) cap) (n+m) (xs++strs xC)→base≤g→w.grownBy w' (some gv)→
  Dm aC fA Q rest (a.put o.dst (aB (some ⟨g,0,none⟩) (n+m) cap)) w'):
 Dm aC fA Q (o::rest) a w:=by
 obtain⟨i0,hi,D8,uY,hz2⟩:=OG GQ;refine wpList_append_own _ FD s x 47 ho base 24 i0 (aA ⟨#[]⟩) 1 16 Kx hi D8 uY hz2 rfl (by decide) _ n xs hs hown ⟨b,off,none⟩ m c (strs xC) hx (by rw[lS,hl,nC]) ?_ ?_
  (by simp only[maxLen];omega) (by omega) lK ?_
 ·intro j u hu;have hj:j<(strs xC).length:=by
   rcases Nat.lt_or_ge j (strs xC).length with h|h
   ·exact h
   ·rw[List.getElem?_eq_none h]at hu;simp at hu
  have hc:=hr.cell hj;have ha:(⟨b,off,none⟩:dE).add j=⟨b,off+j,none⟩:=by unfold Addr.add;split <;>simp_all
  rw[ha,hc,←hu];simp[aN,cZ hj]
 ·intro u hu;unfold strs at hu;obtain⟨y,_,rfl⟩:=List.mem_map.1 hu;rfl
 ·intro v' w' vR hg KY;rcases vR.2 with⟨h1,h2⟩|⟨g,cap,D7,hv,hb,_⟩
  ·obtain⟨h3,-⟩:=KY.1 (by rw[h1]);cases h3
  ·subst hv;exact h g cap w' vR hb hg
theorem aT{a w w':aE}(h:aJ a.heap.size a w)(k:aJ w.heap.size w w'):aJ a.heap.size a w':=aH h k h.size
instance:Inhabited Fr:=⟨⟨false,0,0,[],[]⟩⟩
structure Pt where
 side:Int
 fr:List UInt8
 en:List UInt8
abbrev Pt.cells(p:Pt):Array bB:= #[aF aG p.side,aA (bs p.fr),aA (bs p.en)]
abbrev Pt.v(p:Pt):bB:=.agg p.cells
instance:Inhabited Pt:=⟨⟨0,[],[]⟩⟩
structure Lp where
 a:Option dE
 cap:Nat
 ps:List Pt
def Lp.v(l:Lp):bB:=aB l.a l.ps.length l.cap
instance:Inhabited Lp:=⟨⟨none,0,[]⟩⟩
def wP(W:aE)(a:Option dE)(fs:List Fr):Prop:=
 ∀i,i<fs.length→∃b off,a=some ⟨b,off,none⟩∧∀j,j<5→W.cell? ⟨b,off+i*5+j,none⟩=some ((fs.getD i default).cells.getD j iZ)
def Fg(W:aE)(a:Option dE)(ps:List Pt):Prop:=
 ∀i,i<ps.length→∃b off,a=some ⟨b,off,none⟩∧∀j,j<3→W.cell? ⟨b,off+i*3+j,none⟩=some ((ps.getD i default).cells.getD j iZ)
def zP(W:aE)(a:Option dE)(ls:List Lp):Prop:=
 ∀i,i<ls.length→∃b off,a=some ⟨b,off,none⟩∧W.cell? ⟨b,off+i,none⟩=some (ls.getD i default).v∧Fg W (ls.getD i default).a (ls.getD i default).ps
def xO(W:aE)(a:Option dE)(xs:List (List UInt8)):Prop:=
 ∀i,i<xs.length→∃b off,a=some ⟨b,off,none⟩∧W.cell? ⟨b,off+i,none⟩=some (aA (bs (xs.getD i [])))
theorem wP.below{w w':aE}{a:Option dE}{fs:List Fr}(h:wP w a fs)(hb:aJ w.heap.size w w'):wP w' a fs:=by
 intro i hi;obtain⟨b,off,rfl,hc⟩:=h i hi;exact⟨b,off,rfl,fun j hj=>(hb.cell (p:=⟨b,off+i*5+j,none⟩) (bF w _ (hc j hj))).trans (hc j hj)⟩
theorem Fg.below{w w':aE}{a:Option dE}{ps:List Pt}(h:Fg w a ps)(hb:aJ w.heap.size w w'):Fg w' a ps:=by
 intro i hi;obtain⟨b,off,rfl,hc⟩:=h i hi;exact⟨b,off,rfl,fun j hj=>(hb.cell (p:=⟨b,off+i*3+j,none⟩) (bF w _ (hc j hj))).trans (hc j hj)⟩
theorem zP.below{w w':aE}{a:Option dE}{ls:List Lp}(h:zP w a ls)(hb:aJ w.heap.size w w'):zP w' a ls:=by
 intro i hi;obtain⟨b,off,rfl,hc,hp⟩:=h i hi;exact⟨b,off,rfl,(hb.cell (p:=⟨b,off+i,none⟩) (bF w _ hc)).trans hc,hp.below hb⟩
theorem xO.below{w w':aE}{a:Option dE}{xs:List (List UInt8)}(h:xO w a xs)(hb:aJ w.heap.size w w'):xO w' a xs:=by
 intro i hi;obtain⟨b,off,rfl,hc⟩:=h i hi;exact⟨b,off,rfl,(hb.cell (p:=⟨b,off+i,none⟩) (bF w _ hc)).trans hc⟩
theorem xO.strs{w:aE}{a:Option dE}{xs:List (List UInt8)}(h:xO w a xs):rW w a (strs xs):=by
 intro i hi;rw[lS]at hi;rw[mR xs hi];exact h i hi
theorem rdN_of{w:aE}{a:Option dE}{xs:List (List UInt8)}(h:rW w a (strs xs)):xO w a xs:=by
 intro i hi;have:=h i (by rw[lS];exact hi);rwa[mR xs hi]at this
theorem wP.at{w:aE}{a:Option dE}{fs:List Fr}(h:wP w a fs){i:Nat}(hi:i<fs.length){f:Fr}(hf:fs.getD i default=f):∃b off,a=some ⟨b,off,none⟩∧
 w.cell? ⟨b,off+i*5,none⟩=some (aM f.up)∧w.cell? ⟨b,off+i*5+1,none⟩=some (aF aG f.co)∧w.cell? ⟨b,off+i*5+2,none⟩=some (aF aG f.dir)∧
 w.cell? ⟨b,off+i*5+3,none⟩=some (aA (bs f.sp))∧w.cell? ⟨b,off+i*5+4,none⟩=some (aA (bs f.st)):=by
 obtain⟨b,off,rfl,hc⟩:=h i hi;subst hf;exact⟨b,off,rfl,hc 0 (by decide),hc 1 (by decide),hc 2 (by decide),hc 3 (by decide),hc 4 (by decide)⟩
theorem Fg.at{w:aE}{a:Option dE}{ps:List Pt}(h:Fg w a ps){i:Nat}(hi:i<ps.length){p:Pt}(hp:ps.getD i default=p):∃b off,a=some ⟨b,off,none⟩∧
 w.cell? ⟨b,off+i*3,none⟩=some (aF aG p.side)∧w.cell? ⟨b,off+i*3+1,none⟩=some (aA (bs p.fr))∧w.cell? ⟨b,off+i*3+2,none⟩=some (aA (bs p.en)):=by
 obtain⟨b,off,rfl,hc⟩:=h i hi;subst hp;exact⟨b,off,rfl,hc 0 (by decide),hc 1 (by decide),hc 2 (by decide)⟩
theorem zP.at{w:aE}{a:Option dE}{ls:List Lp}(h:zP w a ls){i:Nat}(hi:i<ls.length){l:Lp}(hl:ls.getD i default=l):∃b off,a=some ⟨b,off,none⟩∧
 w.cell? ⟨b,off+i,none⟩=some (aB l.a l.ps.length l.cap)∧Fg w l.a l.ps:=by
 obtain⟨b,off,rfl,hc,hp⟩:=h i hi;subst hl;exact⟨b,off,rfl,hc,hp⟩
def oQ(p:Nat→Bool):Nat→Int
 |0=> -1
 |n+1=>if oQ p n= -1 then(if p n=true then(n:Int)else -1)else oQ p n
def anyN(p:Nat→Bool):Nat→Bool
 |0=>false
 |n+1=>anyN p n||p n
theorem DU{p:Nat→Bool}{k:Nat}(h:oQ p k= -1)(hp:p k=false):oQ p (k+1)= -1:=by rw[oQ,ip h,hp];rfl
theorem Da{p:Nat→Bool}{k:Nat}(h:oQ p k= -1)(hp:p k=true):∀{n:Nat},k<n→oQ p n=k
 |0,hn=>by omega
 |n+1,hn=>by
  rcases Nat.lt_succ_iff_lt_or_eq.1 hn with h1|rfl
  ·rw[oQ,Da h hp h1,iN (by omega)]
  ·rw[oQ,ip h,ip hp]
theorem Xy(p:Nat→Bool):∀n,oQ p n= -1∨0≤oQ p n
 |0=>.inl rfl
 |n+1=>by
  rw[oQ]
  split
  ·split
   ·right;omega
   ·exact .inl rfl
  ·rcases Xy p n with h|h
   ·contradiction
   ·exact .inr h
theorem Db(p:Nat→Bool):∀n,anyN p n=decide (0≤oQ p n)
 |0=>rfl
 |n+1=>by
  rw[anyN,oQ,Db p n]
  rcases Xy p n with h|h
  ·rw[ip h,h]
   cases p n
   ·rfl
   ·simp
  ·rw[iN (by omega),decide_eq_true h,rP]
theorem kA{p:Nat→Bool}:∀{n:Nat},anyN p n=true↔∃k,k<n∧p k=true
 |0=>⟨fun h=>(by cases h),fun⟨k,h,_⟩=>by omega⟩
 |n+1=>by
  rw[anyN,Bool.or_eq_true,kA]
  constructor
  ·rintro(⟨k,h1,h2⟩|h)
   ·exact⟨k,by omega,h2⟩
   ·exact⟨n,by omega,h⟩
  ·rintro⟨k,h1,h2⟩
   rcases Nat.lt_succ_iff_lt_or_eq.1 h1 with h|rfl
   ·exact .inl ⟨k,h,h2⟩
   ·exact .inr h2
theorem lU{p:Nat→Bool}{n:Nat}:anyN p n=false↔∀k,k<n→p k=false:=by
 rw[←Bool.not_eq_true,kA];constructor
 ·intro h k hk;cases e:p k
  ·rfl
  ·exact absurd ⟨k,hk,e⟩ h
 ·rintro h⟨k,hk,e⟩;rw[h k hk]at e;cases e
theorem Zm (g:Kq) (lb:Array bB) (eg:∀ args w,(BY g args).run aC w= .ok (.enter g args) w) (a:Option dE) (n cap:Nat) (xs:List Fr) (p:Nat→Bool) (w:aE)
 (hn:xs.length=n) (hbig:n≤9223372036854775807) (hc:wP w a xs)
 (hp:∀ i,i < n→∀ W,aJ w.heap.size w W→aQ aC g (#[(xs.getD i default).v] ++ lb) W (Rt (aM (p i)) W)) :
 aQ aC 120 #[aB a n cap, .func (.func g) #[] lb] w (Rt (aF aG (oQ p n)) w):=by
 have Hc:=zq hc;have Hn:=zq hn;have Hp:=zq hp;clear hc hn hp;go_enter func120,ntmps120;go_wp2;go_loopw [5,8] (fun _ i wr=> ∃ k:Nat,i=aF aG k∧k≤n∧aJ w.heap.size w wr∧aY (oQ p k= -1)) (fun _ i _=> n - (aK i).toNat);case atStart=> exact⟨0,rfl,bR _,aI _ w,rfl⟩
 case round=>
  obtain⟨k,rfl,hk,hB,hz⟩:=hrel;by_cases hlt:k < n
  ·obtain⟨b,off,rfl,c0,c1,c2,c3,c4⟩:=(Hc.out.below hB).at (i:=k) (by rw [Hn.out];exact hlt) rfl;have KH:=zq (Hp.out k hlt);unfold Fr.v Fr.cells at KH;generalize xs.getD k default=x at *;cases hq:p k with
   | true=>
    rw [hq] at KH;have R:aY (oQ p n=k):=Da hz.out hq hlt;clear hq;go_wp2_with fail
    refine(KH.out _ hB).mono ?_;rintro e W1 ⟨rfl,hb1⟩;go_wp2;go_ret;exact⟨by rw [R.out] <;> rfl,aH hB hb1 hB.size⟩
   | false=>
    rw [hq] at KH;have hz2:aY (oQ p (k + 1)= -1):=DU hz.out hq;clear hq;go_wp2_with fail
    refine(KH.out _ hB).mono ?_;rintro e W1 ⟨rfl,hb1⟩;go_wp2;go_roundw;case rel=> exact⟨k + 1,by go_num,by omega,aH hB hb1 hB.size,hz2⟩
    case measure=> simp only [aK];omega
  ·obtain rfl:n=k:=by omega
   go_wp2;go_ret;exact⟨by rw [hz.out] <;> rfl,hB⟩
theorem Zn(g:Kq)(lb:Array bB)(eg:∀args w,(BY g args).run aC w=.ok (.enter g args) w)(a:Option dE)(n cap:Nat)(xs:List Fr)(p:Nat→Bool)(w:aE)
 (hn:xs.length=n)(hbig:n≤9223372036854775807)(hc:wP w a xs)
 (hp:∀i,i<n→∀W,aJ w.heap.size w W→aQ aC g (#[(xs.getD i default).v]++lb) W (Rt (aM (p i)) W)):
 aQ aC 61 #[aB a n cap,.func (.func g) #[] lb] w (Rt (aM (anyN p n)) w):=by
 have HI:=zq (Zm g lb eg a n cap xs p w hn hbig hc hp);have R:aY (∀c,oQ p n=c→anyN p n=decide (0≤c)):=fun c h=>by rw[←h];exact Db p n
 clear hp hc hn;generalize oQ p n=c at *;have R:=zq (R.out c rfl);go_enter func61,ntmps61;go_wp2_with fail
 refine HI.out.mono ?_;rintro e W1⟨rfl,hb1⟩;go_wp2;go_ret;exact⟨by rw[R.out]<;>rfl,hb1⟩
theorem ke (g:Kq) (lb:Array bB) (eg:∀ args w,(BY g args).run aC w= .ok (.enter g args) w) (a:Option dE) (n cap:Nat) (xs:List Pt) (p:Nat→Bool) (w:aE)
 (hn:xs.length=n) (hbig:n≤9223372036854775807) (hc:Fg w a xs)
 (hp:∀ i,i < n→∀ W,aJ w.heap.size w W→aQ aC g (#[(xs.getD i default).v] ++ lb) W (Rt (aM (p i)) W)) :
 aQ aC 98 #[aB a n cap, .func (.func g) #[] lb] w (Rt (aF aG (oQ p n)) w):=by
 have Hc:=zq hc;have Hn:=zq hn;have Hp:=zq hp;clear hc hn hp;go_enter func98,ntmps98;go_wp2;go_loopw [5,8] (fun _ i wr=> ∃ k:Nat,i=aF aG k∧k≤n∧aJ w.heap.size w wr∧aY (oQ p k= -1)) (fun _ i _=> n - (aK i).toNat);case atStart=> exact⟨0,rfl,bR _,aI _ w,rfl⟩
 case round=>
  obtain⟨k,rfl,hk,hB,hz⟩:=hrel;by_cases hlt:k < n
  ·obtain⟨b,off,rfl,c0,c1,c2⟩:=(Hc.out.below hB).at (i:=k) (by rw [Hn.out];exact hlt) rfl;have KH:=zq (Hp.out k hlt);unfold Pt.v Pt.cells at KH;generalize xs.getD k default=x at *;cases hq:p k with
   | true=>
    rw [hq] at KH;have R:aY (oQ p n=k):=Da hz.out hq hlt;clear hq;go_wp2_with fail
    refine(KH.out _ hB).mono ?_;rintro e W1 ⟨rfl,hb1⟩;go_wp2;go_ret;exact⟨by rw [R.out] <;> rfl,aH hB hb1 hB.size⟩
   | false=>
    rw [hq] at KH;have hz2:aY (oQ p (k + 1)= -1):=DU hz.out hq;clear hq;go_wp2_with fail
    refine(KH.out _ hB).mono ?_;rintro e W1 ⟨rfl,hb1⟩;go_wp2;go_roundw;case rel=> exact⟨k + 1,by go_num,by omega,aH hB hb1 hB.size,hz2⟩
    case measure=> simp only [aK];omega
  ·obtain rfl:n=k:=by omega
   go_wp2;go_ret;exact⟨by rw [hz.out] <;> rfl,hB⟩
theorem SK(g:Kq)(lb:Array bB)(eg:∀args w,(BY g args).run aC w=.ok (.enter g args) w)(a:Option dE)(n cap:Nat)(xs:List Pt)(p:Nat→Bool)(w:aE)
 (hn:xs.length=n)(hbig:n≤9223372036854775807)(hc:Fg w a xs)
 (hp:∀i,i<n→∀W,aJ w.heap.size w W→aQ aC g (#[(xs.getD i default).v]++lb) W (Rt (aM (p i)) W)):
 aQ aC 42 #[aB a n cap,.func (.func g) #[] lb] w (Rt (aM (anyN p n)) w):=by
 have HI:=zq (ke g lb eg a n cap xs p w hn hbig hc hp);have R:aY (∀c,oQ p n=c→anyN p n=decide (0≤c)):=fun c h=>by rw[←h];exact Db p n
 clear hp hc hn;generalize oQ p n=c at *;have R:=zq (R.out c rfl);go_enter func42,ntmps42;go_wp2_with fail
 refine HI.out.mono ?_;rintro e W1⟨rfl,hb1⟩;go_wp2;go_ret;exact⟨by rw[R.out]<;>rfl,hb1⟩
theorem kg (g:Kq) (lb:Array bB) (eg:∀ args w,(BY g args).run aC w= .ok (.enter g args) w) (a:Option dE) (n cap:Nat) (xs:List Lp) (p:Nat→Bool) (w:aE)
 (hn:xs.length=n) (hbig:n≤9223372036854775807) (hc:zP w a xs)
 (hp:∀ i,i < n→∀ W,aJ w.heap.size w W→aQ aC g (#[aB (xs.getD i default).a (xs.getD i default).ps.length (xs.getD i default).cap] ++ lb) W (Rt (aM (p i)) W)) :
 aQ aC 123 #[aB a n cap, .func (.func g) #[] lb] w (Rt (aF aG (oQ p n)) w):=by
 have Hc:=zq hc;have Hn:=zq hn;have Hp:=zq hp;clear hc hn hp;go_enter func123,ntmps123;go_wp2;go_loopw [5,8] (fun _ i wr=> ∃ k:Nat,i=aF aG k∧k≤n∧aJ w.heap.size w wr∧aY (oQ p k= -1)) (fun _ i _=> n - (aK i).toNat);case atStart=> exact⟨0,rfl,bR _,aI _ w,rfl⟩
 case round=>
  obtain⟨k,rfl,hk,hB,hz⟩:=hrel;by_cases hlt:k < n
  ·obtain⟨b,off,rfl,c0,_⟩:=(Hc.out.below hB).at (i:=k) (by rw [Hn.out];exact hlt) rfl;have KH:=zq (Hp.out k hlt);generalize xs.getD k default=x at *;cases hq:p k with
   | true=>
    rw [hq] at KH;have R:aY (oQ p n=k):=Da hz.out hq hlt;clear hq;go_wp2_with fail
    refine(KH.out _ hB).mono ?_;rintro e W1 ⟨rfl,hb1⟩;go_wp2;go_ret;exact⟨by rw [R.out] <;> rfl,aH hB hb1 hB.size⟩
   | false=>
    rw [hq] at KH;have hz2:aY (oQ p (k + 1)= -1):=DU hz.out hq;clear hq;go_wp2_with fail
    refine(KH.out _ hB).mono ?_;rintro e W1 ⟨rfl,hb1⟩;go_wp2;go_roundw;case rel=> exact⟨k + 1,by go_num,by omega,aH hB hb1 hB.size,hz2⟩
    case measure=> simp only [aK];omega
  ·obtain rfl:n=k:=by omega
   go_wp2;go_ret;exact⟨by rw [hz.out] <;> rfl,hB⟩
theorem SL(g:Kq)(lb:Array bB)(eg:∀args w,(BY g args).run aC w=.ok (.enter g args) w)(a:Option dE)(n cap:Nat)(xs:List Lp)(p:Nat→Bool)(w:aE)
 (hn:xs.length=n)(hbig:n≤9223372036854775807)(hc:zP w a xs)
 (hp:∀i,i<n→∀W,aJ w.heap.size w W→aQ aC g (#[aB (xs.getD i default).a (xs.getD i default).ps.length (xs.getD i default).cap]++lb) W (Rt (aM (p i)) W)):
 aQ aC 64 #[aB a n cap,.func (.func g) #[] lb] w (Rt (aM (anyN p n)) w):=by
 have HI:=zq (kg g lb eg a n cap xs p w hn hbig hc hp);have R:aY (∀c,oQ p n=c→anyN p n=decide (0≤c)):=fun c h=>by rw[←h];exact Db p n
 clear hp hc hn;generalize oQ p n=c at *;have R:=zq (R.out c rfl);go_enter func64,ntmps64;go_wp2_with fail
 refine HI.out.mono ?_;rintro e W1⟨rfl,hb1⟩;go_wp2;go_ret;exact⟨by rw[R.out]<;>rfl,hb1⟩
theorem zd(g:Kq)(lb:Array bB)(eg:∀args w,(BY g args).run aC w=.ok (.enter g args) w)(a:Option dE)(n cap:Nat)(xs:List (List UInt8))(p:Nat→Bool)(w:aE)
 (hn:xs.length=n)(hbig:n≤9223372036854775807)(hc:xO w a xs)
 (hp:∀i,i<n→∀W,aJ w.heap.size w W→aQ aC g (#[aA (bs (xs.getD i []))]++lb) W (Rt (aM (p i)) W)):
 aQ aC 56 #[aB a n cap,.func (.func g) #[] lb] w (Rt (aF aG (oQ p n)) w):=by
 have Hc:=zq hc;have Hn:=zq hn;have Hp:=zq hp;clear hc hn hp;go_enter func56,ntmps56;go_wp2;go_loopw[5,8] (fun _ i wr=>∃k:Nat,i=aF aG k∧k≤n∧aJ w.heap.size w wr∧aY (oQ p k= -1)) (fun _ i _=>n-(aK i).toNat);case atStart=>exact⟨0,rfl,bR _,aI _ w,rfl⟩
 case round=>
  obtain⟨k,rfl,hk,hB,hz⟩:=hrel;by_cases hlt:k<n
  ·obtain⟨b,off,rfl,c0⟩:=(Hc.out.below hB) k (by rw[Hn.out];exact hlt);have KH:=zq (Hp.out k hlt);generalize xs.getD k []=x at *;cases hq:p k with
   |true=>
    rw[hq]at KH;have R:aY (oQ p n=k):=Da hz.out hq hlt;clear hq;go_wp2_with fail
    refine(KH.out _ hB).mono ?_;rintro e W1⟨rfl,hb1⟩;go_wp2;go_ret;exact⟨by rw[R.out]<;>rfl,aH hB hb1 hB.size⟩
   |false=>
    rw[hq]at KH;have hz2:aY (oQ p (k+1)= -1):=DU hz.out hq;clear hq;go_wp2_with fail
    refine(KH.out _ hB).mono ?_;rintro e W1⟨rfl,hb1⟩;go_wp2;go_roundw;case rel=>exact⟨k+1,by go_num,by omega,aH hB hb1 hB.size,hz2⟩
    case measure=>simp only[aK];omega
  ·obtain rfl:n=k:=by omega
   go_wp2;go_ret;exact⟨by rw[hz.out]<;>rfl,hB⟩
theorem ze(g:Kq)(lb:Array bB)(eg:∀args w,(BY g args).run aC w=.ok (.enter g args) w)(a:Option dE)(n cap:Nat)(xs:List (List UInt8))(p:Nat→Bool)(w:aE)
 (hn:xs.length=n)(hbig:n≤9223372036854775807)(hc:xO w a xs)
 (hp:∀i,i<n→∀W,aJ w.heap.size w W→aQ aC g (#[aA (bs (xs.getD i []))]++lb) W (Rt (aM (p i)) W)):
 aQ aC 18 #[aB a n cap,.func (.func g) #[] lb] w (Rt (aM (anyN p n)) w):=by
 have HI:=zq (zd g lb eg a n cap xs p w hn hbig hc hp);have R:aY (∀c,oQ p n=c→anyN p n=decide (0≤c)):=fun c h=>by rw[←h];exact Db p n
 clear hp hc hn;generalize oQ p n=c at *;have R:=zq (R.out c rfl);go_enter func18,ntmps18;go_wp2_with fail
 refine HI.out.mono ?_;rintro e W1⟨rfl,hb1⟩;go_wp2;go_ret;exact⟨by rw[R.out]<;>rfl,hb1⟩
def nD(f:Fr):Int:=if f.up=true then(if 0<f.dir then 3 else 1)else(if 0<f.dir then 0 else 2)
def yW(f:Fr):Int:=if f.up=true then -f.dir else f.dir
def kh(d:Int):Int:=if d<2 then 1 else -1
theorem Xz{f:Fr}(h:f.dir=1∨f.dir= -1):kh (nD f)=yW f:=by
 unfold kh nD yW;cases f.up<;>rcases h with e|e<;>rw[e]<;>decide
theorem qL(f:Fr)(w:aE):
 aQ aC 45 #[f.v] w (Rt (aF aG (nD f)) w):=by
 obtain⟨up,co,dir,sp,st⟩:=f;have R:aY (nD ⟨up,co,dir,sp,st⟩=if up=true then(if 0<dir then 3 else 1)else(if 0<dir then 0 else 2)):=rfl;unfold Fr.v Fr.cells;simp only[];have hB:=zq ((aI _ w).alloc (aD _) (aL #[aM up,aF aG co,aF aG dir,aA (bs sp),aA (bs st)] 44));generalize bs sp=SP at *;generalize bs st=ST at *;cases up;case' false=>have R2:aY (nD ⟨false,co,dir,sp,st⟩=if 0<dir then 0 else 2):=R;clear R;have R:=R2;clear R2
 case' true=>have R2:aY (nD ⟨true,co,dir,sp,st⟩=if 0<dir then 3 else 1):=R;clear R;have R:=R2;clear R2
 all_goals
  by_cases hd:0<dir;case' pos=>rw[ip hd]at R
  case' neg=>rw[iN hd]at R
  all_goals
   go_enter func45,ntmps45;go_wp2;go_ret;exact⟨by rw[R.out]<;>rfl,hB.out⟩
theorem Og(d:Int)(w:aE):
 aQ aC 44 #[aF aG d] w fun e w'=>e=aO (aF aG (kh d))∧w=w':=by
 by_cases h:d<2;case' pos=>have R:aY (kh d=1):=ip h
 case' neg=>have R:aY (kh d= -1):=iN h
 all_goals
  go_enter func44,ntmps44;go_wp2;go_ret;exact⟨by rw[R.out]<;>rfl,rfl⟩
theorem Dc(f:Fr)(hd:f.dir=1∨f.dir= -1)(w:aE):
 aQ aC 51 #[f.v] w (Rt (aF aG (yW f)) w):=by
 obtain⟨up,co,dir,sp,st⟩:=f;have hB:=zq ((aI _ w).alloc (aD _) (aL #[aM up,aF aG co,aF aG dir,aA (bs sp),aA (bs st)] 44));have hd:dir=1∨dir= -1:=hd;have R:aY (∀x,(if up=true then -dir else dir)=x→yW ⟨up,co,dir,sp,st⟩=x):=fun x h=>h;unfold Fr.v Fr.cells;simp only[];generalize bs sp=SP at *;generalize bs st=ST at *;rcases hd with rfl|rfl;all_goals
  cases up;all_goals
   go_enter func51,ntmps51;go_wp2;go_ret;exact⟨by rw[R.out _ rfl];rfl,hB.out⟩
theorem Nk(f:Fr)(hd:f.dir=1∨f.dir= -1)(w:aE):
 aQ aC 55 #[f.v] w (Rt (aF aG (nD f)) w):=by
 have HF:=zq (fun W=>Dc f hd W);have R0:aY (nD f=if f.up=true then(if yW f<0 then 3 else 1)else(if yW f<0 then 2 else 0)):=by
  show _=_;unfold nD yW;cases f.up<;>rcases hd with e|e<;>rw[e]<;>decide
 generalize yW f=d at *;generalize nD f=r at *;obtain⟨up,co,dir,sp,st⟩:=f;have R:aY (r=if up=true then(if d<0 then 3 else 1)else(if d<0 then 2 else 0)):=R0;clear R0;have hB:=zq ((aI _ w).alloc (aD _) (aL #[aM up,aF aG co,aF aG dir,aA (bs sp),aA (bs st)] 44));have hb:=(bZ.new w #[aM up,aF aG co,aF aG dir,aA (bs sp),aA (bs st)] 44);clear hd;unfold Fr.v Fr.cells at *;simp only[]at *;generalize bs sp=SP at *;generalize bs st=ST at *;have Hb:=zq hb;clear hb;cases up;case' false=>have R2:aY (r=if d<0 then 2 else 0):=R;clear R;have R:=zq R2.out;clear R2
 case' true=>have R2:aY (r=if d<0 then 3 else 1):=R;clear R;have R:=zq R2.out;clear R2
 all_goals
  by_cases hd:d<0;case' pos=>rw[ip hd]at R
  case' neg=>rw[iN hd]at R
  all_goals
   go_enter func55,ntmps55;go_wp2_with fail
   refine(HF.out _).mono ?_;rintro e W1⟨rfl,hb1⟩;have gG:=aH hB.out hb1 hB.out.size;go_wp2;go_ret;exact⟨by rw[R.out]<;>rfl,gG⟩
def Fh(fs:List Fr):Nat→Bool:=fun i=>xN (fs.getD i default) !=0
def Mc(ls:List Lp):Nat→Bool:=fun i=>decide (96<(ls.getD i default).ps.length)
def Ac(fs:List Fr):Bool:=decide (24<fs.length)||anyN (Fh fs) fs.length
def wE(ls:List Lp):Bool:=decide (24<ls.length)||anyN (Mc ls) ls.length
def GR(zs:List (List UInt8))(n:Nat):Int:=qK (fun j=>dR (zs.getD j [])) n
def fH(fs:List Fr)(zs:List (List UInt8))(ls:List Lp):Int:=
 if Ac fs=true then 1 else if GR zs zs.length≠0 then GR zs zs.length else if wE ls=true then 4 else 0
theorem PI{fs:List Fr}{zs:List (List UInt8)}{ls:List Lp}(h:24<fs.length):fH fs zs ls=1:=by
 rw[fH,ip];unfold Ac;rw[decide_eq_true h,rP]
theorem XA{fs:List Fr}{zs:List (List UInt8)}{ls:List Lp}{i:Nat}(hi:i<fs.length)(h:Fh fs i=true):fH fs zs ls=1:=by
 rw[fH,ip];unfold Ac;rw[kA.2 ⟨i,hi,h⟩,Dr]
theorem Oh{fs:List Fr}(h:¬24<fs.length)(h2:anyN (Fh fs) fs.length=false):Ac fs=false:=by
 unfold Ac;rw[decide_eq_false h,h2];rfl
theorem kj{fs:List Fr}{zs:List (List UInt8)}{ls:List Lp}(hf:Ac fs=false){i:Nat}(hi:i<zs.length)(hz:GR zs i=0)(h:dR (zs.getD i [])≠0):fH fs zs ls=dR (zs.getD i []):=by
 have e:GR zs zs.length=dR (zs.getD i []):=wD hz h _ hi;rw[fH,iN (by rw[hf];decide),e,ip h]
theorem ko{fs:List Fr}{zs:List (List UInt8)}{ls:List Lp}(hf:Ac fs=false)(hz:GR zs zs.length=0):fH fs zs ls=if wE ls=true then 4 else 0:=by
 rw[fH,iN (by rw[hf];decide),iN (by rw[hz];decide)]
theorem XB{ls:List Lp}(h:24<ls.length):wE ls=true:=by unfold wE;rw[decide_eq_true h,rP]
theorem XC{ls:List Lp}{i:Nat}(hi:i<ls.length)(h:Mc ls i=true):wE ls=true:=by unfold wE;rw[kA.2 ⟨i,hi,h⟩,Dr]
theorem Oi{ls:List Lp}(h:¬24<ls.length)(h2:anyN (Mc ls) ls.length=false):wE ls=false:=by
 unfold wE;rw[decide_eq_false h,h2];rfl
theorem oZ{p:Nat→Bool}{k:Nat}(h:anyN p k=false)(hp:p k=false):anyN p (k+1)=false:=by rw[anyN,h,hp];rfl
theorem cP{α:Type}{xs:List α}{i:Nat}(h:i<xs.length)(d:α):xs.getD i d∈xs:=by simp[aN,h]
theorem IJ (a b c:Option dE) (n m k ca cb cc:Nat) (fs:List Fr) (ls:List Lp) (zs:List (List UInt8)) (w:aE) (hE:eZ w)
 (hf:fs.length=n) (hl:ls.length=m) (hz:zs.length=k) (hn:n≤1000000) (hm:m≤1000000) (hk:k≤1000000)
 (pK:∀ f∈fs,f.sp.length≤8000000∧f.st.length≤8000000) (sq:∀ z∈zs,z.length≤8000000) (sW:∀ l∈ls,l.ps.length≤1000000)
 (rf:wP w a fs) (rl:zP w b ls) (rz:xO w c zs) :
 aQ aC 26 #[aB a n ca,aB b m cb,aB c k cc] w (Rt (aF aG (fH fs zs ls)) w):=by
 have HF:aY (∀ i,i < n→∀ W,aJ w.heap.size w W→aQ aC 69 #[(fs.getD i default).v] W (Rt (aF aG (xN (fs.getD i default))) W)):=fun i hi W h=> by
  have:=pK _ (cP (by rw [hf];exact hi) default);exact Oc _ W (hE.below h) this.1 this.2
 have HZ:aY (∀ i,i < k→∀ W,aJ w.heap.size w W→aQ aC 70 #[aA (bs (zs.getD i []))] W (Rt (aF aG (cQ (zs.getD i []))) W)):=fun i hi W h=> by
  have h1:=sq _ (cP (by rw [hz];exact hi) []);have:=sK (bs (zs.getD i [])) W (hE.below h) (jH (by rw [bU];exact h1));rwa [aX] at this
 have HS:aY (∀ i,i < k→∀ W,aJ w.heap.size w W→aQ aC 52 #[aA (bs (zs.getD i []))] W (Rt (aM (decide (dR (zs.getD i [])=0))) W)):=fun i hi W h=> by
  have h1:=sq _ (cP (by rw [hz];exact hi) []);have:=IH (bs (zs.getD i [])) W (hE.below h) (by rw [bU];exact h1);rwa [aX] at this
 have Hf:=zq hf;have Hl:=zq hl;have Hz:=zq hz;have Rf:=zq rf;have Rl:=zq rl;have Rz:=zq rz;have R1:aY (24 < n→fH fs zs ls=1):=fun h=> PI (by rw [hf];exact h);have R2:aY (∀ i,i < n→Fh fs i=true→fH fs zs ls=1):=fun i hi h=> XA (by rw [hf];exact hi) h;have hls' :aY (∀ i,i < m→(ls.getD i default).ps.length≤1000000):=fun i hi=> sW _ (cP (by rw [hl];exact hi) default);clear hE hf hl hz pK sq sW rf rl rz;by_cases h24:24 < n
 ·have R:=zq (R1.out h24);go_enter func26,ntmps26;go_wp2;go_ret;exact⟨by rw [R.out] <;> rfl,aI _ w⟩
 ·go_enter func26,ntmps26;go_wp2;go_loopw [7] (fun i wr=> ∃ j:Nat,i=aF aG j∧j≤n∧aJ w.heap.size w wr∧aY (anyN (Fh fs) j=false)) (fun i _=> n - (aK i).toNat);case atStart=> exact⟨0,rfl,bR _,aI _ w,rfl⟩
  case round=>
   obtain⟨j,rfl,hj,hB,hA⟩:=hrel;by_cases hlt:j < n
   ·obtain⟨p,off,rfl,c0,c1,c2,c3,c4⟩:=(Rf.out.below hB).at (i:=j) (by rw [Hf.out];exact hlt) rfl;have HFj:=zq (HF.out j hlt);have Hb:aY (Fh fs j=(xN (fs.getD j default) !=0)):=rfl;unfold Fr.v Fr.cells at HFj;generalize fs.getD j default=f at *;cases hq:Fh fs j with
    | true=>
     have R:=zq (R2.out j hlt hq);rw [hq] at Hb;have h' :=Hb.out.symm;clear hq;generalize xN f=cf at *;go_wp2_with fail
     refine(HFj.out _ hB).mono ?_;rintro e W1 ⟨rfl,hb1⟩;go_wp2;go_ret;exact⟨by rw [R.out] <;> rfl,aH hB hb1 hB.size⟩
    | false=>
     have QN:=zq (oZ hA.out hq);rw [hq] at Hb;have e0:xN f=0:=by have:=Hb.out.symm;simpa using this
     rw [e0] at HFj;clear hq e0 Hb;go_wp2_with fail
     refine(HFj.out _ hB).mono ?_;rintro e W1 ⟨rfl,hb1⟩;go_wp2;go_roundw;case rel=> exact⟨j + 1,by go_num,by omega,aH hB hb1 hB.size,QN⟩
     case measure=> simp only [aK];omega
   ·obtain rfl:n=j:=by omega
    have hbf:aY (Ac fs=false):=Oh (by rw [Hf.out];exact h24) (by rw [Hf.out];exact hA.out);clear HF R1 R2 hA Rf;rename aE=> wA;go_wp2;go_loopw [8] (fun i wr=> ∃ j:Nat,i=aF aG j∧j≤k∧aJ w.heap.size w wr∧aY (GR zs j=0)) (fun i _=> k - (aK i).toNat);case atStart=> exact⟨0,rfl,bR _,hB,rfl⟩
    case round=>
     clear hB;obtain⟨j,rfl,hj,hB,hA⟩:=hrel;by_cases hlt:j < k
     ·obtain⟨p,off,rfl,c0⟩:=(Rz.out.below hB) j (by rw [Hz.out];exact hlt);have zg:=zq (HZ.out j hlt);have HSj:=zq (HS.out j hlt);have RZ:aY (dR (zs.getD j [])≠0→fH fs zs ls=dR (zs.getD j [])):=fun h=> kj hbf.out (by rw [Hz.out];exact hlt) hA.out h;have RN:aY (dR (zs.getD j [])=0→GR zs (j + 1)=0):=fun h=> sP hA.out h;have RC:aY (cQ (zs.getD j [])≠0→dR (zs.getD j [])=cQ (zs.getD j [])):=fun h=> by rw [dR,iN h]
      have RC2:aY (cQ (zs.getD j [])=0→dR (zs.getD j [])≠0→dR (zs.getD j [])=4):=fun h h2=> by
       rw [dR,ip h] at h2 ⊢;split
       ·rfl
       ·rename_i h3;rw [iN h3] at h2;exact absurd rfl h2
      generalize zs.getD j []=z at *;by_cases hq:cQ z=0
      ·by_cases hs:dR z=0
       ·have e:=zq (RN.out hs);rw [hs,decide_eq_true rfl] at HSj;rw [hq] at zg;clear hq hs RZ RN RC RC2;generalize bs z=Z at *;go_wp2_with fail
        refine(zg.out _ hB).mono ?_;rintro e W1 ⟨rfl,hb1⟩;have gG:=aH hB hb1 hB.size;have c1:=bV hb1 c0;go_wp2_with fail
        refine(HSj.out _ gG).mono ?_;rintro e W2 ⟨rfl,hb2⟩;go_wp2;go_roundw;case rel=> exact⟨j + 1,by go_num,by omega,aH gG hb2 gG.size,e⟩
        case measure=> simp only [aK];omega
       ·have e:=zq ((RZ.out hs).trans (RC2.out hq hs));rw [decide_eq_false hs] at HSj;rw [hq] at zg;clear hq hs RZ RN RC RC2;generalize bs z=Z at *;go_wp2_with fail
        refine(zg.out _ hB).mono ?_;rintro e W1 ⟨rfl,hb1⟩;have gG:=aH hB hb1 hB.size;have c1:=bV hb1 c0;go_wp2_with fail
        refine(HSj.out _ gG).mono ?_;rintro e W2 ⟨rfl,hb2⟩;go_wp2;go_ret;exact⟨by rw [e.out] <;> rfl,aH gG hb2 gG.size⟩
      ·have e:=zq ((RZ.out (by rw [RC.out hq];exact hq)).trans (RC.out hq));have h' :(cQ z !=0)=true:=by rw [bne_iff_ne];exact hq
       clear hq RZ RN RC RC2 HSj;generalize cQ z=cz at *;generalize bs z=Z at *;go_wp2_with fail
       refine(zg.out _ hB).mono ?_;rintro e W1 ⟨rfl,hb1⟩;go_wp2;go_ret;exact⟨by rw [e.out] <;> rfl,aH hB hb1 hB.size⟩
     ·obtain rfl:k=j:=by omega
      have RL:=zq (ko (ls:=ls) hbf.out (by rw [Hz.out];exact hA.out));clear HZ HS hA Rz hbf;rename aE=> wB;by_cases h24l:24 < m
      ·have e:=zq (RL.out.trans (ip (XB (by rw [Hl.out];exact h24l))));go_wp2;go_ret;exact⟨by rw [e.out] <;> rfl,hB⟩
      ·go_wp2;go_loopw [10] (fun i wr=> ∃ j:Nat,i=aF aG j∧j≤m∧wB=wr∧aY (anyN (Mc ls) j=false)) (fun i _=> m - (aK i).toNat);case atStart=> exact⟨0,rfl,bR _,(by first | exact rfl | exact trivial),rfl⟩
       case round=>
        obtain⟨j,rfl,hj,rfl,hA⟩:=hrel;by_cases hlt:j < m
        ·obtain⟨p,off,rfl,c0,_⟩:=(Rl.out.below hB).at (i:=j) (by rw [Hl.out];exact hlt) rfl;have hx:=hls'.out j hlt;have Hb:aY (Mc ls j=decide (96 < (ls.getD j default).ps.length)):=rfl;generalize ls.getD j default=l at *;generalize l.ps.length=q at *;by_cases h96:96 < q
         ·rw [decide_eq_true h96] at Hb;have e:=zq (RL.out.trans (ip (XC (by rw [Hl.out];exact hlt) Hb.out)));go_wp2;go_ret;exact⟨by rw [e.out] <;> rfl,hB⟩
         ·rw [decide_eq_false h96] at Hb;have QN:=zq (oZ hA.out Hb.out);go_wp2;go_roundw;case rel=> exact⟨j + 1,by go_num,by omega,(by first | exact rfl | exact trivial),QN⟩
          case measure=> simp only [aK];omega
        ·obtain rfl:m=j:=by omega
         have e:=zq (RL.out.trans (iN (by rw [Oi (by rw [Hl.out];exact h24l) (by rw [Hl.out];exact hA.out)];decide)));go_wp2;go_ret;exact⟨by rw [e.out] <;> rfl,hB⟩
theorem zh(f:Fr)(w:aE)(hE:eZ w)(h1:f.sp.length≤8000000)(h2:f.st.length≤8000000):
 aQ aC 62 #[f.v] w (Rt (aM (xN f !=0)) w):=by
 have HC:=zq (fun(W:aE)(h:aJ w.heap.size w W)=>SD f W (hE.below h) h1 h2);have hB:=(aI _ w).alloc (aD _) (aL f.cells 44);clear hE h1 h2;have WL:aY (∀c,xN f=c→(xN f !=0)=(c !=0)):=fun c h=>by rw[h]
 generalize xN f=c at *;obtain⟨up,co,dir,sp,st⟩:=f;unfold Fr.v Fr.cells at *;simp only[]at *;generalize bs sp=SP at *;generalize bs st=ST at *;go_enter func62,ntmps62;go_wp2_with fail
 refine(HC.out _ hB).mono ?_;rintro e W1⟨rfl,hb1⟩;go_wp2;go_ret;exact⟨rfl,aH hB hb1 hB.size⟩
theorem zi(a:Option dE)(n cap:Nat)(hn:n≤1000000)(w:aE):
 aQ aC 65 #[aB a n cap] w fun e w'=>e=aO (aM (decide (96<n)))∧w=w':=by
 by_cases h:(96:Int)<(n:Int);case' pos=>have R:aY (decide (96<n)=true):=decide_eq_true (by omega)
 case' neg=>have R:aY (decide (96<n)=false):=decide_eq_false (by omega)
 all_goals
  go_enter func65,ntmps65;go_wp2;go_ret;exact⟨by rw[R.out]<;>rfl,rfl⟩
end
end Go.Proofs.YtcimoodjlopdaaaGreatDoor
