/-
 EACH ABSTRACT FUNCTION IS THE SEAT's OWN: checked by the kernel,function by function (written by program,ag.py).
-/
import Derived.Test.YtbkpfpcnjpggaaaChecked
import Derived.KernelRfl
import Derived.Test.YtbkpfpcnjpggaaaLibF
namespace Go.Proofs.Ytbkpfpcnjpggaaa
open Go.Ag
theorem follows:Try.prog.follows .mixedOrders=true:=by kernel_rfl
theorem aW:AZ Try.prog 6 GO.S:=lF follows Try.func6 (by kernel_rfl) (obs:=[]) (by kernel_rfl) trivial
theorem k_spec_l1New:Ew Try.prog Try.f48 Hx.er.er=true:=by kernel_rfl
theorem o_spec_l1New:Ev Try.prog Try.f48 Hx.er.er=[]:=by kernel_rfl
theorem Zx:AZ Try.prog 48 JH:=by unfold JH;exact FV follows Try.func48 k_spec_l1New o_spec_l1New trivial
theorem k_spec_l24New:Ew Try.prog Try.f22 Hr.er.er=true:=by kernel_rfl
theorem o_spec_l24New:Ev Try.prog Try.f22 Hr.er.er=[(48,JH)]:=by kernel_rfl
theorem TD:AZ Try.prog 22 Hw:=by unfold Hw;exact FV follows Try.func22 k_spec_l24New o_spec_l24New ⟨Zx,trivial⟩
theorem k_spec_l1Byte:Ew Try.prog Try.f49 Hu.er.er=true:=by kernel_rfl
theorem o_spec_l1Byte:Ev Try.prog Try.f49 Hu.er.er=[]:=by kernel_rfl
theorem KX:AZ Try.prog 49 DX:=by unfold DX;exact FV follows Try.func49 k_spec_l1Byte o_spec_l1Byte trivial
theorem k_spec_l1Below:Ew Try.prog Try.f23 Hq.er.er=true:=by kernel_rfl
theorem o_spec_l1Below:Ev Try.prog Try.f23 Hq.er.er=[(49,DX),(49,DX),(49,DX),(49,DX),(49,DX)]:=by kernel_rfl
theorem DF:AZ Try.prog 23 Bp:=by unfold Bp;exact FV follows Try.func23 k_spec_l1Below o_spec_l1Below ⟨KX,KX,KX,KX,KX,trivial⟩
theorem k_spec_l1Once:Ew Try.prog Try.f53 Hv.er.er=true:=by kernel_rfl
theorem o_spec_l1Once:Ev Try.prog Try.f53 Hv.er.er=[(23,Bp)]:=by kernel_rfl
theorem TF:AZ Try.prog 53 Hy:=by unfold Hy;exact FV follows Try.func53 k_spec_l1Once o_spec_l1Once ⟨DF,trivial⟩
theorem k_spec_l5Draw:Ew Try.prog Try.f77 Ht.er.er=true:=by kernel_rfl
theorem o_spec_l5Draw:Ev Try.prog Try.f77 Ht.er.er=[(23,Bp),(23,Bp),(53,Hy),(23,Bp),(23,Bp),(23,Bp),(23,Bp),(23,Bp)]:=by kernel_rfl
theorem Zf:AZ Try.prog 77 JF:=by unfold JF;exact FV follows Try.func77 k_spec_l5Draw o_spec_l5Draw ⟨DF,DF,TF,DF,DF,DF,DF,DF,trivial⟩
theorem k_spec_l6Draw:Ew Try.prog Try.f46 Hs.er.er=true:=by kernel_rfl
theorem o_spec_l6Draw:Ev Try.prog Try.f46 Hs.er.er=[(23,Bp),(77,JF),(53,Hy)]:=by kernel_rfl
theorem Y0:AZ Try.prog 46 JD:=by unfold JD;exact FV follows Try.func46 k_spec_l6Draw o_spec_l6Draw ⟨DF,Zf,TF,trivial⟩
theorem k_spec_l1PickInt:Ew Try.prog Try.f47 Ho.er.er=true:=by kernel_rfl
theorem o_spec_l1PickInt:Ev Try.prog Try.f47 Ho.er.er=[(23,Bp)]:=by kernel_rfl
theorem XR:AZ Try.prog 47 Jt:=by unfold Jt;exact FV follows Try.func47 k_spec_l1PickInt o_spec_l1PickInt ⟨DF,trivial⟩
theorem k_spec_l18Draw:Ew Try.prog Try.f21 Hp.er.er=true:=by kernel_rfl
theorem o_spec_l18Draw:Ev Try.prog Try.f21 Hp.er.er=[(46,JD),(23,Bp),(23,Bp),(23,Bp),(47,Jt),(23,Bp)]:=by kernel_rfl
theorem Yv:AZ Try.prog 21 Jv:=by unfold Jv;exact FV follows Try.func21 k_spec_l18Draw o_spec_l18Draw ⟨Y0,DF,DF,DF,XR,DF,trivial⟩
theorem XL:AZ Try.prog 7 Gz.S:=lF follows Try.func7 (by kernel_rfl) (obs:=[(22,Hw),(21,Jv)]) (by kernel_rfl) ⟨TD,Yv,trivial⟩
theorem S7:AZ Try.prog 8 Ff.S:=lF follows Try.func8 (by kernel_rfl) (obs:=[(22,Hw),(23,Bp)]) (by kernel_rfl) ⟨TD,DF,trivial⟩
theorem PZ:AZ Try.prog 78 DG.S:=lF follows Try.func78 (by kernel_rfl) (obs:=[]) (by kernel_rfl) trivial
theorem P1:AZ Try.prog 79 CF.S:=lF follows Try.func79 (by kernel_rfl) (obs:=[]) (by kernel_rfl) trivial
theorem Tv:AZ Try.prog 80 DE.S:=lF follows Try.func80 (by kernel_rfl) (obs:=[]) (by kernel_rfl) trivial
theorem Ym:AZ Try.prog 50 GD.S:=lF follows Try.func50 (by kernel_rfl) (obs:=[(78,DG.S),(79,CF.S),(80,DE.S),(78,DG.S),(79,CF.S),(78,DG.S),(80,DE.S),(79,CF.S)]) (by kernel_rfl) ⟨PZ,P1,Tv,PZ,P1,PZ,Tv,P1,trivial⟩
theorem Yl:AZ Try.prog 24 GB.S:=lF follows Try.func24 (by kernel_rfl) (obs:=[(50,GD.S)]) (by kernel_rfl) ⟨Ym,trivial⟩
theorem ak:AZ Try.prog 51 GL.S:=lF follows Try.func51 (by kernel_rfl) (obs:=[]) (by kernel_rfl) trivial
theorem YL:AZ Try.prog 25 GG.S:=lF follows Try.func25 (by kernel_rfl) (obs:=[(51,GL.S)]) (by kernel_rfl) ⟨ak,trivial⟩
theorem To:AZ Try.prog 9 Fh.S:=lF follows Try.func9 (by kernel_rfl) (obs:=[(24,GB.S),(25,GG.S)]) (by kernel_rfl) ⟨Yl,YL,trivial⟩
theorem Yo:AZ Try.prog 10 GC.S:=lF follows Try.func10 (by kernel_rfl) (obs:=[(9,Fh.S)]) (by kernel_rfl) ⟨To,trivial⟩
theorem Yb:AZ Try.prog 3 EP.S:=lF follows Try.func3 (by kernel_rfl) (obs:=[(6,GO.S),(7,Gz.S),(8,Ff.S),(8,Ff.S),(9,Fh.S),(10,GC.S)]) (by kernel_rfl) ⟨aW,XL,S7,S7,To,Yo,trivial⟩
end Go.Proofs.Ytbkpfpcnjpggaaa
