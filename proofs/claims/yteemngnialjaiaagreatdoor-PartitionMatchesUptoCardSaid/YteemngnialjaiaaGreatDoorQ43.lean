/- Part. -/
import Derived.Test.YteemngnialjaiaaGreatDoorQ42
import Derived.Test.YteemngnialjaiaaGreatDoorQ26
set_option maxRecDepth 100000
set_option maxHeartbeats 16000000
set_option linter.unusedVariables false
set_option linter.unusedSimpArgs false
namespace Go.Proofs.YteemngnialjaiaaGreatDoor
open Go.Proofs.Tryz Go.RowKit
variable {w:World}{m:Int}{r:Tr}{T L:List (FuncId×List Tr×Tr)}{F:Nat->Nat}{g:Nat}{cs:List Value}{f:Nat->List Value}
def Nw(k:Nat):Bool:=decide (k=0\/k=5\/k=7)
def Tbl(w:World):Prop:=∀k:Nat,k<8->w.cell? ⟨1,k*2,none⟩=some (.bool (!decide (k=2\/k=4)))/\w.cell? ⟨1,k*2+1,none⟩=some (.bool (Nw k))
theorem Tbl.stays{W:World}(h:Tbl w)(I:OD w W):Tbl W:=fun k hk=>⟨aa I (h k hk).1,aa I (h k hk).2⟩
def tblV(k:Nat):List Value:=[.bool (!decide (k=2\/k=4)),.bool (Nw k)]
def glv(m:Int):Nat->Option (List Tr)
 | 0=>some (((List.range 11).flatMap lA).map .at)
 | 1=>some (((List.range 8).flatMap tblV).map .at)
 | 2=>some [.at (OB m)]
 | _=>none
def lkT:List (FuncId × List Tr × Tr)->FuncId->List Tr->Option Tr
 | [],_,_=>none
 | e::T,f,ts=>match Nat.beq e.1 f&&Tr.sames ts e.2.1 with
  | true=>some e.2.2
  | false=>lkT T f ts
def ctn(a b:ByteArray):Option Tr:=if a.data.toList.length<4294967281 then some (.at (.bool (Lib.contains a.data.toList b.data.toList))) else none
def orT(T:List (FuncId × List Tr × Tr))(f:FuncId)(ts:List Tr):Option Tr :=
 match Nat.beq f 265 with
 | true=>match ts with|[.at (.string a),.at (.string b)]=>ctn a b|_=>none
 | false=>lkT T f ts
def hnt(f:FuncId):Bool:=[248,307,198,170,43,22,254,317,349,377].contains f
def isR:Option Tr->Tr->Bool
 | some x,y=>Tr.same x y
 | none,_=>false
def gy(m:Int)(T:List (FuncId × List Tr × Tr)):Prop:=∀e∈T,PuC prog (glv m) e.1 e.2.1 e.2.2
theorem Dj{f:FuncId}{ts:List Tr}{r:Tr}:∀{T:List (FuncId × List Tr × Tr)},lkT T f ts=some r->(f,ts,r)∈T
 | [],h=>by cases h
 | e::T,h=>by
  rw[lkT]at h
  split at h
  ·rename_i I
   rw[ON]at I
   cases h
   have h1:=R4 I.1;have J:=Tr.sames_ok _ _ I.2;rw[<-h1,J];exact OR
  ·exact OS _ (Dj h)
theorem Mp{a b:ByteArray}(h:ctn a b=some r):PuC prog (glv m) 265 [.at (.string a),.at (.string b)] r:=by
 unfold ctn at h
 split at h
 ·rename_i hl
  cases h
  intro F w vs Z hG;obtain⟨J,I⟩:=Z
  match vs,J,I with
  | [x,y],_,I =>
   cases I 0 _ _ rfl rfl
   cases I 1 _ _ rfl rfl
   have hm:=hG 2 _ rfl
   cases hm with
   | elp _ _ _ g _ hc hr =>
    have h0:=(hc 0 jS).1;have h1:=hr 0 _ rfl;generalize g 0=u at h0 h1
    cases h1
    refine (Any.strings_Contains { Tryz.laysM144 with } a b m w (jQ hl) h0).mono ?_;rintro e w' ⟨rfl,rfl⟩;exact⟨_,F,rfl,OK _ _,fun _ _=>rfl,.at _⟩
 ·cases h
theorem MC(I:gy m T):gp prog (glv m) (orT T):=by
 intro f ts r h;unfold orT at h
 split at h
 ·rename_i hf
  obtain rfl:=R4 hf
  split at h
  ·exact Mp h
  ·cases h
 ·exact I _ (Dj h)
theorem eS(J:gy m T)(h:(L.all fun e=>isR (evF prog (glv m) (orT T) hnt 600 e.1 e.2.1) e.2.2)=true):gy m (L++T):=by
 intro e he;rcases List.mem_append.1 he with he|he
 ·have h:=List.all_eq_true.1 h e he
  cases I:evF prog (glv m) (orT T) hnt 600 e.1 e.2.1 with
  | none=>rw[I]at h;cases h
  | some x =>
   rw[I]at h;rw[<-Tr.same_ok _ _ h];exact J8 kr (MC J) I
 ·exact J e he
def xI(n:Int):Tr:=.at (OB n)
def xB(b:Bool):Tr:=.at (.bool b)
def xS(l:List UInt8):Tr:=.at (.string ⟨⟨l⟩⟩)
def xN:Tr:=.at (.slice none 0 0)
def aw1:Tr:=.agg [xI 0,xN,xI 0,xI 0,xI 0,xI 1,xI 1,xS []]
def aw2:Tr:=.agg [xI 0,xN,xI 0,xI 1,xI 0,xI 0,xI 0,xN,xI 0,xI 0,xI 0,xI 1,xI 1,xS []]
def aw3:Tr:=.lst true [.agg [xI 0,xN,xI 0,xI 0,xI 0,xI 0,xI 0,xN,xI 0,xI 0,xI 0,xI 1,xI 1,xS []],aw2]
def aw4:Tr:=.agg [xI 1,aw3,xI 0,xI 0,xI 0,xI 0,xI 0,xN,xI 0,xI 0,xI 0,xI 0,xI 0,xS []]
def aw5:Tr:=.agg [xI 0,xI 1,xS []]
def aw6:Tr:=.agg [xI 0,xI 5,xS []]
def aw7:Tr:=.agg [xI 0,xI 0,xI 0,xI 1,.lst false [aw5,aw6]]
def aw8:Tr:=.agg [xI 0,xI 2,xS []]
def aw9:Tr:=.agg [xI 0,xI 6,xS []]
def aw10:Tr:=.agg [xI 0,xI 1,xI 0,xI 2,.lst false [aw8,aw9]]
def aw11:Tr:=.agg [xI 0,xI 7,xS []]
def aw12:Tr:=.agg [xI 0,xI 2,xI 0,xI 3,.lst false [aw5,aw11]]
def aw13:Tr:=.agg [xI 0,xI 8,xS []]
def aw14:Tr:=.agg [xI 0,xI 3,xI 0,xI 4,.lst false [aw8,aw13]]
def aw15:Tr:=.lst false [aw7,aw10,aw12,aw14]
def nF:Tr:=.elp [aw15,xB false]
def xR:Tr:=.lst false [.agg [xI 0,xI 0]]
def Nc:Tr:=.lst true [.agg [xI 1,xI 1]]
def aw19:Tr:=.lst true [.agg [xI 1,xI 2]]
def Ng:Tr:=.lst true [.agg [xI 1,xI 3]]
def Mr:Tr:=.lst false [.agg [xI 0,xI 1]]
def aw22:Tr:=.lst false [aw7,aw12]
def Jf:Tr:=.elp [aw22,xB false]
def aw24:Tr:=.lst false [aw10,aw14]
def Lm:Tr:=.elp [aw24,xB false]
def aw26:Tr:=.lst false [.agg [xI 0,xI 2]]
def MZ:Tr:=.lst true [.agg [xS [116],.lst true [.agg [xS [107],xI 0],.agg [xS [120],xI 0]]]]
def MN:Tr:=.lst true [.agg [xS [97],xI 0],.agg [xS [98],xI 0]]
def aw29:Tr:=.lst true [.agg [xI 6,.lst true [.agg [xI 1,xN,xI 1,xI 1,xI 0,xI 0,xI 0,xS []],.agg [xI 1,xN,xI 0,xI 1,xI 0,xI 0,xI 0,xS []]],xI 0,xI 0,xI 0,xI 0,xI 0,xS []]]
def HA:Tr:=.agg [xS [113],MN,.lst true [xI 0],xI 1,aw3,xI 0,xI 0,xI 0,xI 0,xI 0,xN,xI 0,xI 0,xI 0,xI 0,xI 0,xS [],aw29]
def MI:Tr:=.agg [xI 0,xI 1,xI 0,xI 0]
def aw32:Tr:=.agg [xI 1,xI 3,xI 0,xI 2]
def Ge:Tr:=.lst false [MI,aw32]
def aw34:Tr:=.agg [xI 0,xI 2,xI 0,xI 1]
def MD:Tr:=.agg [xI 1,xI 4,xI 0,xI 3]
def IY:Tr:=.lst false [aw34,MD]
def Hj:Tr:=.lst false [.agg [xI 0,xI 0,xI 0,xI 1,.lst true [aw5,aw6]],.agg [xI 0,xI 1,xI 0,xI 2,.lst true [aw8,aw9]],.agg [xI 0,xI 2,xI 0,xI 3,.lst true [aw5,aw11]],.agg [xI 0,xI 3,xI 0,xI 4,.lst true [aw8,aw13]]]
def aw38:Tr:=.tup [.lst false [aw8],xI 0]
def aw39:Tr:=.tup [.lst false [.agg [.lst false [MI,.agg [xI 1,xI 2,xI 0,xI 1]]],.agg [Ge],.agg [.lst false [MI,MD]],.agg [.lst false [aw34,aw32]],.agg [IY],.agg [.lst false [.agg [xI 0,xI 3,xI 0,xI 2],MD]]],xI 0]
def tn0:List (FuncId × List Tr × Tr):=[]
theorem M6(m:Int):gy m tn0:=fun _ h=>by cases h
def tb1:List (FuncId × List Tr × Tr):=[(42,[aw1],xI 0),(52,[aw4],xI 0)]
def tn1:List (FuncId × List Tr × Tr):=tb1++tn0
theorem Mo(m:Int):gy m tn1:=eS (M6 m) kr
def tb2:List (FuncId × List Tr × Tr):=[(107,[nF,aw2,xR,xI 1],.lst false [Nc,aw19,Ng]),(107,[nF,aw2,Mr,xI 2],.lst false [aw19,Ng]),(107,[Jf,aw2,xR,xI 1],.lst false [Nc]),(107,[Lm,aw2,xR,xI 1],.lst false [Nc]),(107,[nF,aw2,aw26,xI 3],.lst false [Ng]),(306,[Jf,aw1,xN,xI 0,xI 0],xB true),(306,[Jf,aw1,xN,xI 0,xI 1],xB true),(306,[Lm,aw1,xN,xI 0,xI 0],xB true),(306,[Lm,aw1,xN,xI 0,xI 1],xB true),(306,[nF,aw1,xN,xI 0,xI 0],xB true),(306,[nF,aw1,xN,xI 0,xI 1],xB true),(306,[nF,aw1,xN,xI 0,xI 2],xB true),(306,[nF,aw1,xN,xI 0,xI 3],xB true),(306,[Jf,aw1,xR,xI 1,xI 1],xB true),(306,[Lm,aw1,xR,xI 1,xI 1],xB true),(306,[nF,aw1,xR,xI 1,xI 1],xB true),(306,[nF,aw1,xR,xI 1,xI 2],xB true),(306,[nF,aw1,xR,xI 1,xI 3],xB true),(306,[nF,aw1,Mr,xI 1,xI 2],xB true),(306,[nF,aw1,Mr,xI 1,xI 3],xB true),(306,[nF,aw1,aw26,xI 1,xI 3],xB true)]
def tn2:List (FuncId × List Tr × Tr):=tb2++tn1
theorem Ov(m:Int):gy m tn2:=eS (Mo m) kr
def tb3:List (FuncId × List Tr × Tr):=[(140,[MZ,MN,aw4],.tup [xI 0,xI 0])]
def tn3:List (FuncId × List Tr × Tr):=tb3++tn2
theorem Mq(m:Int):gy m tn3:=eS (Ov m) kr
def tb4:List (FuncId × List Tr × Tr):=[(68,[MZ,HA],xI 0)]
def tn4:List (FuncId × List Tr × Tr):=tb4++tn3
theorem NE(m:Int):gy m tn4:=eS (Mq m) kr
def tb5:List (FuncId × List Tr × Tr):=[(23,[aw4,aw22],.tup [.lst false [.agg [Ge]],xI 0]),(23,[aw4,aw24],.tup [.lst false [.agg [IY]],xI 0])]
def tn5:List (FuncId × List Tr × Tr):=tb5++tn4
theorem Ny(m:Int):gy m tn5:=eS (NE m) kr
def tb6:List (FuncId × List Tr × Tr):=[(8,[HA,Hj],.tup [.lst false [.agg [Ge],.agg [IY]],xI 0])]
def tn6:List (FuncId × List Tr × Tr):=tb6++tn5
theorem Oe(m:Int):gy m tn6:=eS (Ny m) kr
def tb7:List (FuncId × List Tr × Tr):=[(33,[Hj,HA,.agg [Ge]],aw38)]
def tn7:List (FuncId × List Tr × Tr):=tb7++tn6
theorem Nz(m:Int):gy m tn7:=eS (Oe m) kr
def tb8:List (FuncId × List Tr × Tr):=[(33,[Hj,HA,.agg [IY]],aw38)]
def tn8:List (FuncId × List Tr × Tr):=tb8++tn7
theorem MH(m:Int):gy m tn8:=eS (Nz m) kr
def tb9:List (FuncId × List Tr × Tr):=[(12,[.agg [MZ,.lst true [HA]],Hj],.tup [.lst false [.agg [xI 0,Ge,.lst false [aw8]],.agg [xI 0,IY,.lst false [aw8]]],xI 0])]
def tn9:List (FuncId × List Tr × Tr):=tb9++tn8
theorem MB(m:Int):gy m tn9:=eS (MH m) kr
def tb10:List (FuncId × List Tr × Tr):=[(23,[aw4,aw15],aw39)]
def tn10:List (FuncId × List Tr × Tr):=tb10++tn9
theorem JC(m:Int):gy m tn10:=eS (MB m) kr
def tb11:List (FuncId × List Tr × Tr):=[(8,[.agg [xS [113],MN,xN,xI 1,aw3,xI 0,xI 0,xI 0,xI 0,xI 0,xN,xI 0,xI 0,xI 0,xI 0,xI 0,xS [],aw29],Hj],aw39)]
def tn11:List (FuncId × List Tr × Tr):=tb11++tn10
theorem JE(m:Int):gy m tn11:=eS (JC m) kr
def tb12:List (FuncId × List Tr × Tr):=[(7,[],xB true)]
def tn12:List (FuncId × List Tr × Tr):=tb12++tn11
theorem Kh(m:Int):gy m tn12:=eS (JE m) kr
theorem pU{α:Type}{k:Nat}{f:Nat->List α}:∀(n s:Nat),(∀i,i<s+n->(f i).length=k)->∀i r,i<n->r<k->((List.range' s n).flatMap f)[i*k+r]?=(f (s+i))[r]?
 | 0,_,_,_,_,hi,_=>by omega
 | n+1,s,h,i,r,hi,hr=>by
  rw[List.range'_succ,O8];have I:=h s om
  cases i with
  | zero=>rw[Ph om];simp
  | succ i =>
   have e:(i+1)*k+r=k+(i*k+r):=by rw[Q8];omega
   rw[Pz om,e,I,Nat.add_sub_cancel_left,pU n (s+1) (fun j J=>h j om) i r om hr,show s+1+i=s+(i+1) by omega]
theorem zx(Z:∀v∈cs,v.oneCell'=true)(hF:cs.length<=F g)(h:∀j v,cs[j]?=some v->w.cell? ⟨g,j,none⟩=some v):Rp F w (.elp (cs.map .at)) (.pointer (some ⟨g,0,none⟩)):=by
 refine .elp _ g 0 (fun j=>(cs[j]?).getD undef) (fun t I=>?_) (fun j J=>?_) (fun j t I=>?_)
 ·obtain⟨v,hv,rfl⟩:=List.mem_map.1 I;exact Z v hv
 ·rw[OL]at J;rw[Pd,OH J];exact⟨h j _ (OH J),by omega⟩
 ·rw[OQ]at I
  cases J:cs[j]? with
  | none=>rw[J]at I;cases I
  | some v=>rw[J]at I;cases I;exact .at _
theorem tD{n k:Nat}(hk:0<k)(hl:∀i,i<n->(f i).length=k)(I:((List.range n).flatMap f).all (·.oneCell')=true)(hlen:((List.range n).flatMap f).length=n*k)(hF:n*k<=F g)(h:∀i,i<n->∀r v,(f i)[r]?=some v->w.cell? ⟨g,i*k+r,none⟩=some v):Rp F w (.elp (((List.range n).flatMap f).map .at)) (.pointer (some ⟨g,0,none⟩)):=by
 refine zx (fun v hv=>List.all_eq_true.1 I v hv) om fun j v Z=>?_
 have a':=(List.getElem?_eq_some_iff.1 Z).1;have hm:=Nat.mod_lt j hk;have J:j / k<n:=by rw[Nat.div_lt_iff_lt_mul hk];omega
 have e:j / k*k+j%k=j:=by rw[Nat.mul_comm];exact Nat.div_add_mod j k
 have h1:=pU (f:=f) (k:=k) n 0 (fun i hi=>hl i om) (j / k) (j%k) J hm;rw[e,<-List.range_eq_range',Z,Pd]at h1;have:=h (j / k) J (j%k) v h1.symm
 rwa [e]at this
theorem wK(w:World)(hS:Shp w)(hT:Tbl w)(hL:Lx w):OE 7 #[] w (.bool true):=by
 obtain⟨m,hm⟩:=hL.2;have a':=Kh m (7,[],xB true) (Rl _ OR);refine (a' (fun _=>66) w [] ⟨rfl,fun i t v h=>by simp at h⟩ ?_).mono ?_
 ·intro g cs J;unfold glv at J
  split at J
  ·cases J
   exact tD (n:=11) (k:=6) om dc (by decide +kernel) (by decide +kernel) om fun i Z r v I=>hS i Z r v I
  ·cases J
   refine tD (n:=8) (k:=2) om (fun _ _=>rfl) (by decide +kernel) (by decide +kernel) om fun i Z r v I=>?_
   match r,I with
   | 0,I=>cases I;exact (hT i Z).1
   | 1,I=>cases I;exact (hT i Z).2
  ·cases J
   exact zx (cs:=[OB m]) (by simp[Value.oneCell']) jS fun j v hj=>by
    match j,hj with
    | 0,hj=>cases hj;exact hm
  ·cases J
 ·rintro e W ⟨v,F',rfl,hb,-,hr⟩
  cases hr
  exact⟨rfl,hb⟩
end Go.Proofs.YteemngnialjaiaaGreatDoor
