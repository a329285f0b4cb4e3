/- Parts of a proof. No condition. -/
import Derived.Test.YtimlcnhcjndijaaGreatDoorH18
import Derived.Test.YtimlcnhcjndijaaGreatDoorH23
set_option linter.all false
set_option maxRecDepth 100000
set_option maxHeartbeats 1600000
namespace Go.Proofs.YtimlcnhcjndijaaGreatDoor
open Option renaming none->I
section
open Go.RowKit Go.Maps Go.Lib
def Fr (vs:List ay) (j:Jb):Pl.Ask:=⟨j.id,I,0,0,Cj vs j.sp.part,j.sp.nodes,j.sp.df,j.sp.wall+8,j.start,I,0,0,j.aj⟩
def Mo (h:List Int×V4×Int):Pl.Au:=⟨I,0,0,h.1,h.2.1,h.2.2⟩
def Ez (vs:List ay) (js:List Jb):List Pl.Ask:=(K8 (Dx vs ByteArray.empty) (Dq js) (Bq js)).map λi=>Fr vs (Fn js (A4 (Bq js) i).id)
open Classical in
noncomputable def Ok (az:List V4) (now:Int) (bs:List Bool) (hs:List Pl.Au) (asks:List Pl.Ask):List (Int×Int×List Int):=
 if h:∃slots,Pl.Li az now bs hs asks slots then h.choose.map Pl.Ax.key else[]
def Ai4 {d:List V4} {c:Int} {e:List Bool} {f:List Pl.Au} {b:List Pl.Ask} {a:List Pl.Ax} (h:Pl.Li d c e (f) b a):Ok d c e (f.map Pl.Au.er) (b.map Pl.Ask.er)=a.map Pl.Ax.key:=by
 have g:=Pl.Ai3 h;have i:∃a,Pl.Li d c e (f.map Pl.Au.er) (b.map Pl.Ask.er) a:=⟨_,g⟩;unfold Ok;rw[M7 i,Pl.Au2 i.choose_spec g];simp[Pl.Ax.key,Pl.Ax.er,Ia]
def Au6 {d:List V4} {b r:Int} {e:List Bool} {f:List Pl.Au} (a:List Pl.Ask) (h:Pl.Je d e.length b f r []) (j:r≠0):Ok d b e (f.map Pl.Au.er) a=[]:=by
 unfold Ok;rw[dif_neg];rintro⟨c,i⟩;obtain⟨k,l,m,st,rd,g,_⟩:=i.go;exact j (Pl.Auv (Pl.Ab8 h) g)
def Da (tick:Int) (js:List Jb):List Jb:=I7 (js.map (Ih tick))
noncomputable def Kn (vs:List ay) (tick:Int) (bs:List Bool) (js:List Jb):List (Int×Int×List Int):=Ok (vs.map ay.cap) tick bs ((Gz js).map Mo) (Ez vs js)
noncomputable def Q3 (vs:List ay) (tick:Int) (bs:List Bool) (js:List Jb):List Jb:=Jc tick (Kn vs tick bs js) (js.map Ii)
noncomputable def S4 (vs:List ay) (t:dv) (tick:Int):dv:={ t with tick:=tick,ab:=Q3 vs tick (ui { t with tick:=tick }) (Da tick t.ab) }
