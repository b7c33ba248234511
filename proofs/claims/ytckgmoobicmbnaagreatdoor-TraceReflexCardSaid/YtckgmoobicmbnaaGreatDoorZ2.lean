import Derived.Deep.RegionHeld3
import Derived.Below
import Derived.RegionTactic
import Derived.WalkKit
import Derived.KernelRfl
import Derived.OrdersIn
import Derived.Test.YtckgmoobicmbnaaGreatDoorZ0
namespace Go.Proofs.YtckgmoobicmbnaaGreatDoor
set_option maxRecDepth 100000
set_option maxHeartbeats 8000000
set_option linter.all false
open Go.Proofs.Tryz
open _root_.Go renaming World->aF,Oper->gL,wpAnyIn->vO,yielded->wC
open Go.AllReadyIn renaming cons->eF
open Go.Lib renaming contains->BO
open Go.Region renaming ready->cV,wanted->eT,noSelect->rE,free->rW
section
open Go Go.RowKit
section
variable{P:Program}{cR:Array gL}{Q:Exit→Act→aF→Prop}{md:Region.Mode}{S:aF→Prop}
theorem tH(i:Nat){oi:gL}{v:Value}{fuel:Nat}{jE:Array Bool}{a:Act}{w:aF}(hi:cR[i]? =some oi)
 (h:wpAnyH P md cR Q S fuel (jE.setIfInBounds i true) (a.put oi.dst v) w)
 (hs:rE cR=true:=by kernel_rfl)(hf:rW md cR jE i=true:=by kernel_rfl)(hr:(cV md cR jE).contains i=true:=by kernel_rfl)
 (hQ:∀c a w,Q (.panic c) (a.put oi.dst v) w→Q (.panic c) a w:=by exact fun _ _ _ h=>h)(hw:eT oi (wC cR a.tmps)=true:=by kernel_rfl)
 (hy:∀w,S w→(execOp a.eval oi).run P w=.ok (.value v) w:=by(intro w Bd;(try dsimp only at Bd);go_simp;(first |done|with_reducible rfl)))(hS:S w:=by assumption):wpAnyH P md cR Q S (fuel+1) jE a w:=
 wpAnyH_take hi hs hf hr hQ (.inl ⟨hw,hy⟩) hS h
theorem sH(i:Nat){oi:gL}{fuel:Nat}{jE:Array Bool}{a:Act}{w:aF}(hi:cR[i]? =some oi)
 (h:wpAnyH P md cR Q S fuel (jE.setIfInBounds i true) (a.put oi.dst undef) w)
 (hs:rE cR=true:=by kernel_rfl)(hf:rW md cR jE i=true:=by kernel_rfl)(hr:(cV md cR jE).contains i=true:=by kernel_rfl)
 (hQ:∀c a w,Q (.panic c) (a.put oi.dst undef) w→Q (.panic c) a w:=by exact fun _ _ _ h=>h)(hw:eT oi (wC cR a.tmps)=false:=by kernel_rfl)(hS:S w:=by assumption):wpAnyH P md cR Q S (fuel+1) jE a w:=
 wpAnyH_take hi hs hf hr hQ (.inr ⟨hw,rfl⟩) hS h
variable{F:Fence}{n:Nat}
theorem tI(i:Nat){oi:gL}{v:Value}{fuel:Nat}{jE:Array Bool}{a:Act}{w:aF}(hi:cR[i]? =some oi)
 (h:vO F n P md cR Q fuel (jE.setIfInBounds i true) (a.put oi.dst v) w)(Ia:F.round=none:=by rfl)
 (hs:rE cR=true:=by kernel_rfl)(hf:rW md cR jE i=true:=by kernel_rfl)(hr:(cV md cR jE).contains i=true:=by kernel_rfl)
 (hQ:∀c a w,Q (.panic c) (a.put oi.dst v) w→Q (.panic c) a w:=by exact fun _ _ _ h=>h)(hw:eT oi (wC cR a.tmps)=true:=by rfl)
 (hy:∀w,(execOp a.eval oi).run P w=.ok (.value v) w:=by(intro w;go_simp;(first |done|with_reducible rfl)))(hb:∀w,oi.about P w a.eval=none:=by exact fun _=>rfl):vO F n P md cR Q (fuel+1) jE a w:=
 wpAnyIn_take Ia hi hs hf hr hQ ⟨.inl ⟨hw,hy⟩,hb⟩ h
theorem eI(i:Nat)(rs:List Nat){fuel:Nat}{jE:Array Bool}{a:Act}{w:aF}{o:gL}(ho:cR[i]? =some o)
 (h:∀K':Act→aF→Prop,(∀a w,vO F n P md cR Q fuel (jE.setIfInBounds i true) a w→K' a w)→if eT o (wC cR a.tmps)=true then Oper.wpIn F n P o a w K' Q else(∀f,o.about P w a.eval=some f→F.fn f)∧K' (a.put o.dst undef) w)
 (hs:AllReadyIn F n P md cR Q fuel jE a w rs)(hr:cV md cR jE=i::rs:=by kernel_rfl):vO F n P md cR Q (fuel+1) jE a w:=
 wpAnyIn_ready hr (by simp) (eF ho h hs)
end
end
end Go.Proofs.YtckgmoobicmbnaaGreatDoor
