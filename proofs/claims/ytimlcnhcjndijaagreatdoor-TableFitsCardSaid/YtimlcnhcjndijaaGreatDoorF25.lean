/- Parts of a proof. No condition. -/
import Derived.Test.YtimlcnhcjndijaaGreatDoorF19
import Derived.Test.YtimlcnhcjndijaaGreatDoorF24
set_option linter.all false
set_option maxRecDepth 100000
set_option maxHeartbeats 1600000
namespace Go.Proofs.YtimlcnhcjndijaaGreatDoor
section
open Go.RowKit Go.Maps Go.Lib
def F0 (vs:List au) (j:Jb):Pl.Ask:=⟨j.id,none,0,0,Dc vs j.sp.part,j.sp.nodes,j.sp.cq,j.sp.wall+8,j.start,none,0,0,j.ak⟩
def Jd (h:List Int×V4×Int):Pl.Ay:=⟨none,0,0,h.1,h.2.1,h.2.2⟩
def En (vs:List au) (js:List Jb):List Pl.Ask:=(Lb (D4 vs ByteArray.empty) (Du js) (Br js)).map fun i=>F0 vs (Fx js (A6 (Br js) i).id)
open Classical in
noncomputable def Oi (ax:List V4) (now:Int) (bs:List Bool) (hs:List Pl.Ay) (asks:List Pl.Ask):List (Int×Int×List Int):=
 if h:∃ slots,Pl.Lj ax now bs hs asks slots then h.choose.map Pl.Az.key else []
def Ah3 {c:List V4} {now:Int} {d:List Bool} {e:List Pl.Ay} {b:List Pl.Ask} {a:List Pl.Az} (h:Pl.Lj c now d (e) b a):Oi c now d (e.map Pl.Ay.er) (b.map Pl.Ask.er)=a.map Pl.Az.key:=by
 have f:=Pl.Ah2 h;have g:∃ a,Pl.Lj c now d (e.map Pl.Ay.er) (b.map Pl.Ask.er) a:=⟨_,f⟩;unfold Oi;rw [dif_pos g,Pl.Atu g.choose_spec f];simp [Pl.Az.key,Pl.Az.er,Ik]
def Aty {c:List V4} {now r:Int} {d:List Bool} {e:List Pl.Ay} (a:List Pl.Ask) (h:Pl.Jc c d.length now e r []) (i:r≠0):Oi c now d (e.map Pl.Ay.er) a=[]:=by
 unfold Oi;rw [dif_neg];rintro ⟨b,g⟩;obtain ⟨j,k,l,st,rd,f,_⟩:=g.go;exact i (Pl.Atn (Pl.Abe h) f)
def Cs (tick:Int) (js:List Jb):List Jb:=Gk (js.map (G9 tick))
noncomputable def J3 (vs:List au) (tick:Int) (bs:List Bool) (js:List Jb):List (Int×Int×List Int):=Oi (vs.map au.cap) tick bs ((Dy js).map Jd) (En vs js)
noncomputable def Mn (vs:List au) (tick:Int) (bs:List Bool) (js:List Jb):List Jb:=Ia tick (J3 vs tick bs js) (js.map Ff)
noncomputable def So (vs:List au) (t:du) (tick:Int):du:={ t with tick:=tick,ab:=Mn vs tick (r6 { t with tick:=tick }) (Cs tick t.ab) }
