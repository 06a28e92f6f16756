/- The typed machine: the abstract machine's steps over typed data, in the style of continuations, so that the kernel can compute what a function does with unknown arguments. Definitions alone. What the typed machine comes to, the abstract machine comes to: one operation. What the typed machine comes to, the abstract machine comes to: operations. What the typed machine comes to, the abstract machine comes to: every operation but calls. What the typed machine comes to, the abstract machine comes to: any operation that calls no function of the program's. What the typed machine comes to, the abstract machine comes to: calls, regions, code. The typed machine is sound: what it computes of a function, a call of it comes to on the abstract machine. Plain lemmas for reading what the typed machine computes: numbers, sets as bits, rounds over a list. -/
import Derived.Test.YtklhcnnpgkkjcaaGreatDoorMachC
namespace Go.Ab
inductive Leaf(TC:Type)(Ty:TC->Type)where|i(k:IntKind)(n:Int)|b(x:Bool)|s(l:List UInt8)|l(c:TC)(xs:List (Ty c))|o(v:Value)
structure Sig where
 TC:Type
 [dec:DecidableEq TC]Ty:TC->Type
 enc:(c:TC)->Ty c->D
 cells:(c:TC)->Ty c->List (Leaf TC Ty)ofCells:(c:TC)->List (Leaf TC Ty)->Option (Ty c)agg:TC->Bool
 size:TC->Nat
 elem:TypeId->Option TC
 lists:TypeId->List (Option TC)
attribute [instance] Sig.dec
variable (S : Sig)
inductive PD where|lf(x:Leaf S.TC S.Ty)|ag(cs:List (Leaf S.TC S.Ty))
inductive TL where|undef|skipped|d(x:PD S)|own(c:S.TC)(xs:List (S.Ty c))(lent:Bool)|loc(p:Place)|elt(p:Place)(i off:Nat)|seg(p:Place)(lo hi:Nat)|ptr(o off:Nat)|view(cs:List (Leaf S.TC S.Ty))|fn(f:Nat)(caps:List (Nat×Nat))|ref(o:Nat)
inductive TV where|fl(x:TL S)|agg(cs:List (TL S))|tup(vs:List (TL S))
abbrev TEnv:=List (Nat×TV S)
abbrev THeap:=List (List (TL S))
structure TSt where
 env:TEnv S
 heap:THeap S
variable {S}
def leafD:Leaf S.TC S.Ty->D|.i k n=>.v (.int k n)|.b x=>.v (.bool x)|.s l=>.v (.string ⟨⟨l⟩⟩)|.l c xs=>.list (xs.map (S.enc c))|.o v=>.v v
def PD.toD:PD S->D|.lf x=>leafD x|.ag cs=>.agg (cs.map leafD)
def TL.toA:TL S->AV|.undef=>.undef|.skipped=>.skipped|.d x=>.d x.toD|.own c xs l=>.own (xs.map (S.enc c)) l|.loc p=>.loc p|.elt p i off=>.elt p i off|.seg p i off=>.seg p i off|.ptr o off=>.ptr o off|.view cs=>.view (cs.map leafD)|.fn f caps=>.fn f caps|.ref o=>.ref o
def TV.toA:TV S->AV|.fl x=>x.toA|.agg cs=>.agg (cs.map TL.toA)|.tup vs=>.tup (vs.map TL.toA)
def envA(e:TEnv S):Env:=e.map fun(k,v)=>(k,v.toA)
def heapA(h:THeap S):Heap:=h.map fun cs=>cs.map TL.toA
def TSt.toS(s:TSt S):St:={env:=envA s.env,heap:=heapA s.heap}
def packT(g:Bool)(cs:List (Leaf S.TC S.Ty)):PD S:=if g then .ag cs else match cs with|x::_=>.lf x|[]=>.ag []
structure Sig.Ok(S:Sig)(P:Program):Prop where
 enc_eq:∀c x,S.enc c x=(packT (S:=S) (S.agg c) (S.cells c x)).toD
 of_eq:∀c cs x,S.ofCells c cs=some x->(S.cells c x).map (leafD (S:=S))=cs.map leafD
 inj:∀c x y,S.enc c x=S.enc c y->x=y
 len:∀c x,(S.cells c x).length=S.size c
 pos:∀c,0<S.size c
 one:∀c,S.agg c=false->S.size c=1
 elem:∀t c,S.elem t=some c->∃e,q1s P t=some e/\tyAgg P e=some (S.agg c)/\q0f P e=some (S.size c)
def getT:TEnv S->Nat->TV S|[],_=>.fl .undef|(k,v)::r,t=>if k=t then v else getT r t
def setT:TEnv S->Nat->TV S->TEnv S|[],t,v=>[(t,v)]|(k,u)::r,t,v=>if t<k then(t,v)::(k,u)::r else if t=k then(t,v)::r else(k,u)::setT r t v
def qcx:TEnv S->Nat->TEnv S|[],_=>[]|(k,u)::r,t=>if k=t then qcx r t else(k,u)::qcx r t
def q81(e:TEnv S):List Nat->TEnv S|[]=>e|t::r=>q81 (qcx e t) r
def replT:TEnv S->Nat->TV S->TEnv S|[],_,_=>[]|(k,u)::r,t,v=>if k=t then(k,v)::r else(k,u)::replT r t v
def TV.placed:TV S->Bool|.fl (.loc _)|.fl (.elt ..)|.fl (.seg ..)=>true|_=>false
def TV.isOwn:TV S->Bool|.fl (.own ..)=>true|_=>false
def TL.isOwn:TL S->Bool|.own .. =>true|_=>false
def killT:TEnv S->TEnv S|[]=>[]|(k,v)::r=>if v.placed then qcx (killT r) k else(k,v)::killT r
def TV.sitsAt(t:Nat):TV S->Bool|.fl (.loc (.slot u))=>u==t|.fl (.elt (.slot u) _ _)=>u==t|.fl (.seg (.slot u) _ _)=>u==t|_=>false
def qa9(t:Nat):TEnv S->TEnv S|[]=>[]|(k,v)::r=>if v.sitsAt t then qcx (qa9 t r) k else(k,v)::qa9 t r
def putT(e:TEnv S)(t:Nat)(v:TV S):TEnv S:=match v with|.fl .undef=>qcx (if(getT e t).isOwn then qa9 t e else e) t|.fl (.own c xs l)=>setT (qa9 t e) t (.fl (.own c xs l))|v=>setT (if(getT e t).isOwn then qa9 t e else e) t v
def TSt.put(s:TSt S)(dst:Option Nat)(v:TV S):TSt S:=match dst with|some t=>{s with env:=putT s.env t v}|none=>s
def TSt.del(s:TSt S):List Nat->TSt S|[]=>s|t::r=>TSt.del {s with env:=putT s.env t (.fl .undef)} r
def qf2(c:Option S.TC):Value->Option (TL S)
 |.slice none 0 0=>match c with|some c=>some (.own c [] false)|none=>none
 |.slice .. |.agg _|.tuple _|.func .. |.map (some _)|.chan (some _)|.iface .. |.pointer (some _)=>none|.int k n=>some (.d (.lf (.i k n)))|.bool x=>some (.d (.lf (.b x)))|.string ⟨⟨l⟩⟩=>some (.d (.lf (.s l)))|v=>some (.d (.lf (.o v)))
def qeq:List (Option S.TC)->List Value->Option (List (TL S))|_,[]=>some []|cs,v::r=>match qf2 (cs.headD none) v,qeq cs.tail r with|some x,some xs=>some (x::xs)|_,_=>none
def qhu(cs:List (Option S.TC)):Value->TV S
 |.agg vs=>match qeq cs vs.toList with|some xs=>.agg xs|none=>.fl .undef
 |v=>match qf2 (cs.headD none) v with|some x=>.fl x|none=>.fl .undef
def qdc(cs:List (Option S.TC)):Value->Option (List (TL S))|.agg vs=>qeq cs vs.toList|v=>match qf2 (cs.headD none) v with|some x=>some [x]|none=>none
def TV.cells:TV S->List (TL S)|.agg cs=>cs|.fl (.d (.ag cs))=>cs.map fun x=>.d (.lf x)|.fl x=>[x]|.tup _=>[]
def qr2:TL S->Option (Leaf S.TC S.Ty)|.d (.lf x)=>some x|.own c xs _=>some (.l c xs)|_=>none
def q4l:List (TL S)->Option (List (Leaf S.TC S.Ty))|[]=>some []|c::r=>match qr2 c,q4l r with|some x,some xs=>some (x::xs)|_,_=>none
def qny:TV S->Option (PD S)
 |.agg cs=>match q4l cs with|some ds=>some (.ag ds)|none=>none
 |.fl (.d x)=>some x|.fl (.own c xs _)=>some (.lf (.l c xs))|_=>none
def TL.noAg:TL S->Bool|.d (.ag _)=>false|_=>true
def keepT(fl:Flag)(v:TV S):Option (TV S):=match fl,v with
 |.view,.fl (.own c xs _)=>some (.fl (.d (.lf (.l c xs))))|.view,.agg cs=>match q4l cs with|some ds=>some (.fl (.d (.ag ds)))|none=>if cs.all TL.noAg then some (.agg cs)else none
 |_,v=>some v
def qgw:List (TL S)->Bool|[]=>true|.own _ _ l::r=>l&&qgw r|_::r=>qgw r
def cellT(h:THeap S)(o off:Nat):TL S:=match h[o]? with|some cs=>(cs[off]?).getD .undef|none=>.undef
def qdm(h:THeap S)(o off:Nat)(v:TL S):THeap S:=match h[o]? with|some cs=>h.set o (cs.set off v)|none=>h
def q28(s:TSt S):Place->TV S|.slot t=>getT s.env t|.cell o off=>.fl (cellT s.heap o off)
def qci(s:TSt S)(p:Place)(v:TL S):TSt S:=match p with|.slot t=>{s with env:=putT s.env t (.fl v)}|.cell o off=>{env:=killT s.env,heap:=qdm s.heap o off v}
def q5a(s:TSt S)(p:Place)(v:TL S):TSt S:=match p with|.slot t=>{s with env:=setT s.env t (.fl v)}|.cell o off=>{s with heap:=qdm s.heap o off v}
inductive LK(TC:Type)where|i(k:IntKind)|b|s|l(c:TC)
inductive OT(S:Sig)where|lf(k:LK S.TC)|own(c:S.TC)(lent:Bool)|ag(c:S.TC)|ptr(o off:Nat)|fn(f:Nat)(caps:List (Nat×Nat))|ref(o:Nat)|undef
structure OSpec(S:Sig)where res:List (OT S)heap:List (List (OT S))
structure TEn where
 E:Env0
 S:Sig
 res:FuncId->List (OT S)news:FuncId->List (List (OT S))cut:FuncId->Nat->Bool
 outs:FuncId->Option (List (List (OT S))):=fun _=>none
variable {T : TEn}
def evT(T:TEn)(s:TSt T.S)(t:TypeId):Operand->TV T.S|.tmp t=>getT s.env t|.const v=>qhu (T.S.lists t) v|.global _=>.fl .undef|.func f=>.fl (.fn f [])
def y1b:TV S->Option (PD S)|.fl (.d x)=>some x|_=>none
def q1t (T : TEn) (s : TSt T.S) (t : TypeId) (x : Operand) : Option (PD T.S) :=
 match x with
 | .const v => qny (qhu (T.S.lists t) v)
 | _ => y1b (evT T s t x)
def qfz (T : TEn) (s : TSt T.S) (t : TypeId) : List Operand -> Option (List (PD T.S))
 | [] => some []
 | x :: r => match q1t T s t x, qfz T s t r with
  | some a, some as => some (a :: as)
  | _, _ => none
def q6c:TV S->Option (TV S)|.fl .undef|.fl .skipped|.fl (.loc _)|.fl (.elt ..)|.fl (.seg ..)|.tup _=>none|v=>some v
def qls:TV S->Option (TV S)|.fl (.elt p i off)=>some (.fl (.elt p i off))|.fl (.seg p i off)=>some (.fl (.seg p i off))|v=>q6c v
def y3a(T:TEn)(s:TSt T.S)(ty:TypeId):Operand->Option (TV T.S)
 |.tmp t=>match getT s.env t with|.fl .undef=>some (.fl .undef)|v=>qls v
 |x=>qls (evT T s ty x)
def qd5(fl:Flag)(q:Bool)(s:TSt S)(p:Place):Option (TV S×TSt S):=match q28 s p with
 |.fl (.own c xs l)=>match fl with|.keep=>some (.fl (.loc p),s)|.view=>if l then some (.fl (.d (.lf (.l c xs))),s)else if q then none else some (.fl (.d (.lf (.l c xs))),q5a s p (.own c xs true))
 |.fl .undef|.fl .skipped|.fl (.loc _)|.agg _=>none|v=>some (v,s)
def qhm(s:TSt S)(o off:Nat):Nat->TSt S|0=>s|n+1=>qhm (match cellT s.heap o off with|.own c xs false=>q5a s (.cell o off) (.own c xs true)|_=>s) o (off+1) n
def nth{α β:Type}(xs:List α)(n:Int)(k:α->Option β):Option β:=if 0<=n then match xs[n.toNat]? with|some x=>k x|none=>none else none
def nthN{α β:Type}(xs:List α)(n:Nat)(k:α->Option β):Option β:=match xs[n]? with|some x=>k x|none=>none
def capOk{β:Type}(n:Nat)(k:Option β):Option β:=if n<=q0a then k else none
def hiK{β:Type}(len:Nat)(n:Int)(k:Nat->Option β):Option β:=if 0<=n/\n<=(len:Int)then k n.toNat else none
def chk{β:Type}(p:Prop) [Decidable p](k:Option β):Option β:=if p then k else none
variable {β : Type}
def loadT(T:TEn)(fl:Flag)(q:Bool)(t:TypeId)(a:TV T.S)(s:TSt T.S)(k:TV T.S->TSt T.S->Option β):Option β:=match tyAgg T.E.P t,q0f T.E.P t with
 |some false,_=>match a with
  |.fl (.ptr o off)=>match qd5 fl q s (.cell o off)with|some (v,s1)=>k v s1|none=>none
  |.fl (.view (c::_))=>k (.fl (.d (.lf c))) s|.fl (.elt p i off)=>match q28 s p with
   |.fl (.own c xs _)=>nthN xs i fun x=>match(T.S.cells c x).drop off with|y::_=>k (.fl (.d (.lf y))) s|[]=>none
   |_=>none
  |_=>none
 |some true,some n=>match a with
  |.fl (.ptr o off)=>match s.heap[o]? with|some cs=>if off+n<=cs.length then match q4l ((cs.drop off).take n)with|some ds=>if qgw ((cs.drop off).take n)then k (.fl (.d (.ag ds))) s else if q then none else k (.fl (.d (.ag ds))) (qhm s o off n)|none=>none else none|none=>none
  |.fl (.view cs)=>if n<=cs.length then k (.fl (.d (.ag (cs.take n)))) s else none|.fl (.elt p i off)=>match q28 s p with|.fl (.own c xs _)=>nthN xs i fun x=>if n<=((T.S.cells c x).drop off).length then k (.fl (.d (.ag (((T.S.cells c x).drop off).take n)))) s else none|_=>none
  |_=>none
 |_,_=>none
def y1o:TV S->Option Nat|.fl (.ptr o _)=>some o|.fl (.loc (.cell o _))=>some o|.fl (.elt (.cell o _) _ _)=>some o|.fl (.seg (.cell o _) _ _)=>some o|_=>none
def hitsT(objs:List Nat)(v:TV S):Bool:=v.placed&&(match y1o v with|some o=>objs.contains o|none=>false)
def q8y(objs:List Nat):TEnv S->TEnv S|[]=>[]|(k,v)::r=>if hitsT objs v then qcx (q8y objs r) k else(k,v)::q8y objs r
def qee(a:TV T.S)(vs:List (TL T.S))(s:TSt T.S)(k:TSt T.S->Option β):Option β:=match a with
 |.fl (.ptr o off)=>match s.heap[o]? with|some cs=>if off+vs.length<=cs.length then k {env:=if((cs.drop off).take vs.length++vs).any TL.isOwn then q8y [o] s.env else s.env,heap:=s.heap.set o (cs.take off++vs++cs.drop (off+vs.length))}else none|none=>none
 |.fl (.elt p i off)=>match q28 s p,q4l vs with|.fl (.own c xs false),some ds=>nthN xs i fun x=>if off+ds.length<=(T.S.cells c x).length/\0<ds.length then match T.S.ofCells c ((T.S.cells c x).take off++ds++(T.S.cells c x).drop (off+ds.length))with|some y=>k (q5a s p (.own c (xs.set i y) false))|none=>none else none|_,_=>none
 |_=>none
def y4l:TL S->Bool|.d (.ag _)|.undef|.skipped|.loc _|.elt .. |.seg .. |.ref _=>false|_=>true
def y20(T:TEn)(t:TypeId)(a x:Operand)(s:TSt T.S)(k:TSt T.S->Option β):Option β:=match q6c (evT T s t x),tyAgg T.E.P t,q0f T.E.P t with|some v,some _,some n=>if v.cells.length=n/\v.cells.all y4l then qee (evT T s t a) v.cells (s.del (tmpOf x)) k else none|_,_,_=>none
def andI(k:IntKind)(a b:Int):Int:=k.wrap ((BitVec.ofInt k.bits a)&&&(BitVec.ofInt k.bits b)).toNat
def orI(k:IntKind)(a b:Int):Int:=k.wrap ((BitVec.ofInt k.bits a)|||(BitVec.ofInt k.bits b)).toNat
def xorI(k:IntKind)(a b:Int):Int:=k.wrap ((BitVec.ofInt k.bits a)^^^(BitVec.ofInt k.bits b)).toNat
def q3i(k:IntKind)(a b:Int):Int:=k.wrap ((BitVec.ofInt k.bits a)&&&~~~(BitVec.ofInt k.bits b)).toNat
def shlI(k:IntKind)(a b:Int):Int:=k.wrap (a*2^(min b.toNat k.bits))
def shrI(k:IntKind)(a b:Int):Int:=a.fdiv (2^(min b.toNat k.bits))
def addI(k:IntKind)(a b:Int):Int:=k.wrap (a+b)
def subI(k:IntKind)(a b:Int):Int:=k.wrap (a-b)
def mulI(k:IntKind)(a b:Int):Int:=k.wrap (a*b)
def quoI(k:IntKind)(a b:Int):Int:=k.wrap (a.tdiv b)
def remI(_:IntKind)(a b:Int):Int:=a.tmod b
def negI(k:IntKind)(a:Int):Int:=k.wrap (0-a)
def eqB(a b:Int):Bool:=decide (a=b)
def neB(a b:Int):Bool:=!decide (a=b)
def ltB(a b:Int):Bool:=decide (a<b)
def leB(a b:Int):Bool:=decide (a<=b)
def eqS(a b:List UInt8):Bool:=decide (a=b)
def ltS(a b:List UInt8):Bool:=Op.bytesLess a b
def leS(a b:List UInt8):Bool:=Op.bytesLess a b||decide (a=b)
abbrev LfK(S:Sig)(β:Type):=Leaf S.TC S.Ty->Option β
def binT'(P:Program)(op:BinOp)(t:TypeId)(x y:Leaf S.TC S.Ty)(k:LfK S β):Option β:=match x,y with
 |.i κ a,.i κ' b=>match op with|.shl=>chk (0<=b) (k (.i κ (shlI κ a b)))|.shr=>chk (0<=b) (k (.i κ (shrI κ a b)))|.add=>if κ=κ' then k (.i κ (addI κ a b))else none|.sub=>if κ=κ' then k (.i κ (subI κ a b))else none|.mul=>if κ=κ' then k (.i κ (mulI κ a b))else none|.quo=>if κ=κ' then chk (b≠0) (k (.i κ (quoI κ a b)))else none|.rem=>if κ=κ' then chk (b≠0) (k (.i κ (remI κ a b)))else none|.and=>if κ=κ' then k (.i κ (andI κ a b))else none|.or=>if κ=κ' then k (.i κ (orI κ a b))else none|.xor=>if κ=κ' then k (.i κ (xorI κ a b))else none|.andNot=>if κ=κ' then k (.i κ (q3i κ a b))else none|.eql=>if κ=κ' then k (.b (eqB a b))else none|.neq=>if κ=κ' then k (.b (neB a b))else none|.lss=>if κ=κ' then k (.b (ltB a b))else none|.leq=>if κ=κ' then k (.b (leB a b))else none|.gtr=>if κ=κ' then k (.b (ltB b a))else none|.geq=>if κ=κ' then k (.b (leB b a))else none
 |.s a,.s b=>match op with|.add=>chk (a.length+b.length<=9223372036854775807) (k (.s (a++b)))|.eql=>k (.b (eqS a b))|.neq=>k (.b (!eqS a b))|.lss=>k (.b (ltS a b))|.leq=>k (.b (leS a b))|.gtr=>k (.b (!leS a b))|.geq=>k (.b (!ltS a b))|_=>none
 |.b a,.b b=>match op,P.underlying t with|.eql,some .bool=>k (.b (a==b))|.neq,some .bool=>k (.b (!(a==b)))|_,_=>none
 |_,_=>none
def unT(op:UnOp)(x:Leaf S.TC S.Ty):Option (Leaf S.TC S.Ty):=match op,x with|.not,.b x=>some (.b (!x))|.neg,.i κ n=>some (.i κ (negI κ n))|_,_=>none
def idxT:TV S->Option Int|.fl (.d (.lf (.i _ n)))=>some n|_=>none
def fillT(place:Nat->Option (Nat×Nat))(cells:List (TL S)):List (Nat×TV S)->Option (List (TL S))|[]=>some cells|(i,v)::r=>match place i with|some (off,size)=>if v.cells.length=size/\off+size<=cells.length then fillT place (cells.take off++v.cells++cells.drop (off+size)) r else none|none=>none
def ya3(P:Program)(t:TypeId)(i:Nat):TypeId:=match P.underlying t with
 |some (.struct fs)=>match fs[i]? with|some f=>f.type|none=>0
 |some (.array _ e)=>e|_=>0
def qu3(T:TEn)(t:TypeId)(s:TSt T.S):List (Nat×Operand)->Option (List (Nat×TV T.S))|[]=>some []|(i,x)::r=>match q6c (evT T s (ya3 T.E.P t i) x),qu3 T t (s.del (tmpOf x)) r with|some v,some vs=>some ((i,v)::vs)|_,_=>none
def allLf:List (TL S)->Option (List (Leaf S.TC S.Ty))
 |[]=>some []|.d (.lf x)::r=>match allLf r with|some xs=>some (x::xs)|none=>none
 |_::_=>none
def qrb(cs:List (TL S)):Option (TV S):=match allLf cs with|some ds=>some (.fl (.d (.ag ds)))|none=>if cs.all TL.noAg then some (.agg cs)else none
def ofPD(c:S.TC):PD S->Option (S.Ty c)|.lf x=>if S.agg c then none else S.ofCells c [x]|.ag cs=>if S.agg c then S.ofCells c cs else none
def ofPDs(c:S.TC):List (PD S)->Option (List (S.Ty c))|[]=>some []|x::r=>match ofPD c x,ofPDs c r with|some y,some ys=>some (y::ys)|_,_=>none
def qce(c:S.TC):Leaf S.TC S.Ty->Option (List (S.Ty c))|.l c' xs=>if h:c'=c then some (h▸xs)else none|_=>none
def lenT(T:TEn)(t:TypeId)(a:TV T.S)(s:TSt T.S):Option Nat:=match T.E.P.underlying t,a with
 |some .string,.fl (.d (.lf (.s l)))=>some l.length|some (.slice _),.fl (.d (.lf (.l _ xs)))=>some xs.length|some (.slice _),.fl (.loc p)=>match q28 s p with|.fl (.own _ xs _)=>some xs.length|_=>none
 |some (.slice _),.fl (.ref o)=>match cellT s.heap o 0 with|.own _ xs _=>some xs.length|_=>none
 |some (.slice _),.fl (.seg p lo hi)=>match q28 s p with|.fl (.own ..)=>some (hi-lo)|_=>none
 |_,_=>none
def qey(len:Nat)(lo hi:Option (TV S))(k:Nat->Nat->Option β):Option β:=match hi with
 |none=>match lo with|none=>k 0 len|some a=>match idxT a with|some n=>hiK len n fun l=>k l len|none=>none
 |some b=>match idxT b with|none=>none|some m=>hiK len m fun h=>match lo with|none=>k 0 h|some a=>match idxT a with|some n=>hiK h n fun l=>k l h|none=>none
def segT(T:TEn)(t:TypeId)(a:TV T.S)(lo hi mx:Option Operand)(s:TSt T.S)(k:TV T.S->Option β):Option β:=match mx,a with
 |none,.fl (.loc p)=>match q28 s p with|.fl (.own c xs _)=>if T.S.elem t=some c then qey xs.length (lo.map (evT T s 0)) (hi.map (evT T s 0)) fun l h=>k (.fl (.seg p l h))else none|_=>none
 |none,.fl (.ref o)=>match cellT s.heap o 0 with|.own c xs _=>if T.S.elem t=some c then qey xs.length (lo.map (evT T s 0)) (hi.map (evT T s 0)) fun l h=>k (.fl (.seg (.cell o 0) l h))else none|_=>none
 |none,.fl (.seg p a0 b0)=>match q28 s p with|.fl (.own c xs _)=>if T.S.elem t=some c then chk (b0<=xs.length) (qey (b0-a0) (lo.map (evT T s 0)) (hi.map (evT T s 0)) fun l h=>k (.fl (.seg p (a0+l) (a0+h))))else none|_=>none
 |_,_=>none
def y1s(T:TEn)(t:TypeId)(x:Operand)(lo hi mx:Option Operand)(s:TSt T.S)(k:TV T.S->Option β):Option β:=match mx,q1t T s t x with
 |none,some (.lf (.s l))=>match T.E.P.underlying t with|some .string=>qey l.length (lo.map (evT T s 0)) (hi.map (evT T s 0)) fun a b=>k (.fl (.d (.lf (.s ((l.take b).drop a)))))|_=>none
 |none,some (.lf (.l c xs))=>if T.S.elem t=some c then qey xs.length (lo.map (evT T s 0)) (hi.map (evT T s 0)) fun a b=>k (.fl (.d (.lf (.l c ((xs.take b).drop a)))))else none|_,_=>segT T t (evT T s t x) lo hi mx s k
def y8y(P:Program)(t:TypeId):Bool:=match q1s P t with
 |some e=>match q8e P e with|some b=>decide (0<b/\b<=65536)&&qjl P e|none=>false
 |none=>false
def qva(T:TEn)(q:Bool)(t:TypeId)(x y:Operand)(s:TSt T.S)(k:TV T.S->TSt T.S->Option β):Option β:=match T.S.elem t,q1t T s t y with
 |some c,some (.lf yl)=>match qce c yl with
  |some ys=>if y8y T.E.P t then match evT T s t x with
    |.fl (.own c' xs l)=>match qce c (.l c' xs)with|some xs=>capOk (xs.length+ys.length) (k (.fl (.own c (xs++ys) l)) s)|none=>none
    |.fl (.loc p)=>match q28 s p with
     |.fl (.own c' xs l)=>if q then none else match qce c (.l c' xs)with|some xs=>capOk (xs.length+ys.length) (k (.fl (.own c (xs++ys) l)) (qci s p .undef))|none=>none
     |_=>none
    |_=>none else none|none=>none
 |_,_=>none
def qiq(T:TEn)(t:TypeId)(a:TV T.S)(n:Int)(s:TSt T.S)(k:TV T.S->Option β):Option β:=match T.S.elem t,T.E.P.underlying t,a with
 |some c,some (.slice _),.fl (.loc p)=>match q28 s p with|.fl (.own c' xs _)=>if c'=c then nth xs n fun _=>k (.fl (.elt p n.toNat 0))else none|_=>none
 |some c,some (.slice _),.fl (.ref o)=>match cellT s.heap o 0 with|.own c' xs _=>if c'=c then nth xs n fun _=>k (.fl (.elt (.cell o 0) n.toNat 0))else none|_=>none
 |some c,some (.slice _),.fl (.seg p lo hi)=>match q28 s p with|.fl (.own c' xs _)=>if c'=c then chk (0<=n/\n<((hi-lo:Nat):Int)) (nthN xs (lo+n.toNat) fun _=>k (.fl (.elt p (lo+n.toNat) 0)))else none|_=>none
 |some c,some (.slice _),.fl (.d (.lf (.l c' xs)))=>if c'=c then nth xs n fun x=>k (.fl (.view (T.S.cells c' x)))else none|_,some (.array m e),.fl (.ptr o b)=>match q0f T.E.P e with|some sz=>if 0<=n/\n<m/\1<m/\0<sz then k (.fl (.ptr o (b+n.toNat*sz)))else none|none=>none
 |_,some (.array m e),.fl (.view cs)=>match q0f T.E.P e with|some sz=>if 0<=n/\n<m/\1<m/\0<sz then k (.fl (.view (cs.drop (n.toNat*sz))))else none|none=>none
 |_,_,_=>none
def partT(P:Program)(t:TypeId)(cs:List (Leaf S.TC S.Ty))(off:Nat):Option (PD S):=match tyAgg P t,q0f P t with
 |some true,some n=>if off+n<=cs.length then some (.ag ((cs.drop off).take n))else none|some false,_=>match cs[off]? with|some x=>some (.lf x)|none=>none
 |_,_=>none
def qqf(T:TEn)(c:T.S.TC)(u:TypeId)(y:Operand)(s:TSt T.S)(k:List (T.S.Ty c)->Option β):Option β:=match evT T s u y with
 |.fl (.seg p lo hi)=>match q28 s p with
  |.fl (.own c' xs _)=>match qce c (.l c' xs)with|some ys=>chk (hi<=ys.length) (k ((ys.take hi).drop lo))|none=>none
  |_=>none
 |_=>match q1t T s u y with
  |some (.lf yl)=>match qce c yl with|some ys=>k ys|none=>none
  |_=>none
def copyT(T:TEn)(t u:TypeId)(x y:Operand)(s:TSt T.S)(k:TV T.S->TSt T.S->Option β):Option β:=match evT T s t x with
 |.fl (.seg p lo hi)=>match q28 s p with|.fl (.own c xs false)=>if T.S.elem t=some c/\T.S.elem u=some c then qqf T c u y s fun ys=>chk (hi<=xs.length) (k (.fl (.d (.lf (.i .i64 ((min (hi-lo) ys.length:Nat):Int))))) (q5a s p (.own c (xs.take lo++ys.take (hi-lo)++xs.drop (lo+min (hi-lo) ys.length)) false)))else none|_=>none
 |_=>none
def capsT(T:TEn)(s:TSt T.S):List Operand->Option (List (Nat×Nat))|[]=>some []|x::r=>match evT T s 0 x,capsT T s r with|.fl (.ptr o a),some ps=>some ((o,a)::ps)|_,_=>none
def eqVT(P:Program)(t:TypeId)(a b:Leaf S.TC S.Ty):Option Bool:=match P.underlying t,a,b with|some .bool,.b a,.b b=>some (a==b)|some (.int _),.i κ a,.i κ' b=>if κ=κ' then some (eqB a b)else none|some .string,.s a,.s b=>some (eqS a b)|_,_,_=>none
def eqFsT(P:Program)(xs ys:List (Leaf S.TC S.Ty)):List Field->Option Bool|[]=>some true|f::r=>if f.name= "_"then none else match partT P f.type xs f.offset,partT P f.type ys f.offset with
  |some (.lf a),some (.lf b)=>match eqVT P f.type a b,eqFsT P xs ys r with|some x,some y=>some (x&&y)|_,_=>none
  |_,_=>none
def y3b(P:Program)(op:BinOp)(t:TypeId)(xs ys:List (Leaf S.TC S.Ty)):Option Bool:=match P.underlying t with
 |some (.struct fs)=>if P.stoodInHeld t=false/\P.eqGuardType P.depth t=false then match op with
   |.eql=>eqFsT P xs ys fs.toList|.neq=>match eqFsT P xs ys fs.toList with|some b=>some (!b)|none=>none
   |_=>none else none|_=>none
def qr0(T:TEn)(fl:Flag)(q:Bool)(ty:TypeId)(op:Op)(s:TSt T.S):Option (TV T.S×TSt T.S):=match op with
 |.move (.tmp t)=>qd5 fl q s (.slot t)|.move x=>match qls (evT T s ty x)with|some v=>some (v,s)|none=>none
 |.assign x=>match y3a T s ty x with|some v=>some (v,s)|none=>none
 |.alloc e=>match q3d T.E.P e with
  |some z=>match qdc (T.S.lists e) z with|some cs=>some (.fl (.ptr s.heap.length 0),{s with heap:=s.heap++[cs]})|none=>none
  |none=>none
 |.box e x=>match q6c (evT T s e x),q0f T.E.P e with|some v,some n=>if v.cells.length=n then some (.fl (.ptr s.heap.length 0),{s with heap:=s.heap++[v.cells]})else none|_,_=>none
 |.build t parts=>match q3d T.E.P t,qu3 T t s parts.toList with
  |some (.agg z),some ps=>if qh1 T.E.P t then match qeq (T.S.lists t) z.toList with
   |some cs0=>match fillT (fieldPlace T.E.P t) cs0 ps with
    |some cs=>match qrb cs with|some v=>some (v,s)|none=>none
    |none=>none
   |none=>none else none|_,_=>none
 |.buildSlice t n parts=>match T.S.elem t,q1s T.E.P t with
  |some c,some e=>match qfz T s e (parts.toList.map (·.2))with
   |some ps=>match ofPDs c ps with|some xs=>if q5j 0 parts.toList/\xs.length=n/\n<=65536/\qjl T.E.P e/\qw8 T.E.P e then some (.fl (.own c xs false),s)else none|none=>none
   |none=>none
  |_,_=>none
 |.nilCheck x=>match evT T s ty x with|.fl (.ptr o off)=>some (.fl (.ptr o off),s)|.fl (.view cs)=>some (.fl (.view cs),s)|.fl (.elt p i off)=>if(q28 s p).isOwn then some (.fl (.elt p i off),s)else none|.fl (.fn f cs)=>some (.fl (.fn f cs),s)|_=>none
 |.unOp op t x=>match q1t T s t x with
  |some (.lf a)=>match unT op a with|some r=>some (.fl (.d (.lf r)),s)|none=>none
  |_=>none
 |.convert src dst x=>if src=qc2 then none else match T.E.P.underlying src,T.E.P.underlying dst,q1t T s src x with|some (.int _),some (.int κ),some (.lf (.i _ n))=>some (.fl (.d (.lf (.i κ (κ.wrap n)))),s)|some .string,some .string,some (.lf (.s b))=>some (.fl (.d (.lf (.s b))),s)|_,_,_=>none
 |.fieldAddr t x i=>match q3j T.E.P t i with
  |some (off,u)=>match q0f T.E.P u with
   |some (_+1)=>match evT T s 0 x with|.fl (.ptr o a)=>some (.fl (.ptr o (a+off)),s)|.fl (.view cs)=>some (.fl (.view (cs.drop off)),s)|.fl (.elt p j a)=>if(q28 s p).isOwn then some (.fl (.elt p j (a+off)),s)else none|_=>none
   |_=>none
  |none=>none
 |.field t x i=>match q1t T s t x,q3j T.E.P t i with
  |some (.ag cs),some (off,u)=>match partT T.E.P u cs off with|some y=>some (.fl (.d y),s)|none=>none
  |_,_=>none
 |.extract (.tmp t) i=>match getT s.env t with
  |.tup vs=>match vs[i]? with|some (.d x)=>some (.fl (.d x),s)|some (.ptr o a)=>some (.fl (.ptr o a),s)|some .undef=>some (.fl .undef,s)|_=>none
  |_=>none
 |.makeFunc (.func f) first caps=>if first.size=0 then match capsT T s caps.toList with|some ps=>some (.fl (.fn f ps),s)|none=>none else none|.call {callee:=.builtin .len,args,argTypes}=>match args.toList,argTypes.toList with
  |[x],[t]=>match lenT T t (evT T s t x) s with|some n=>some (.fl (.d (.lf (.i .i64 (n:Int)))),s)|none=>none
  |_,_=>none
 |.call {callee:=.builtin .max,args,.. }=>match args.toList with
  |[x,y]=>match q1t T s 0 x,q1t T s 0 y with|some (.lf (.i κ a)),some (.lf (.i _ b))=>some (.fl (.d (.lf (.i κ (if b>a then b else a)))),s)|_,_=>none
  |_=>none
 |.call {callee:=.builtin .min,args,.. }=>match args.toList with
  |[x,y]=>match q1t T s 0 x,q1t T s 0 y with|some (.lf (.i κ a)),some (.lf (.i _ b))=>some (.fl (.d (.lf (.i κ (if b<a then b else a)))),s)|_,_=>none
  |_=>none
 |_=>none
def y8l(T:TEn)(c:T.S.TC)(xs:List (T.S.Ty c)):List UInt8:=(xs.map (T.S.enc c)).map qz3
def stepT(T:TEn)(fl:Flag)(q:Bool)(ty:TypeId)(op:Op)(s:TSt T.S)(k:TV T.S->TSt T.S->Option β):Option β:=match op with
 |.load t a=>loadT T fl q t (evT T s 0 a) s k|.pick c a b=>match evT T s 0 c with
  |.fl (.d (.lf (.b t)))=>match t with
   |true=>match q1t T s ty a with|some x=>k (.fl (.d x)) s|none=>none
   |false=>match q1t T s ty b with|some x=>k (.fl (.d x)) s|none=>none
  |_=>none
 |.binOp op t x y t'=>match q1t T s t x,q1t T s t' y with
  |some (.lf a),some (.lf b)=>binT' T.E.P op t a b fun r=>k (.fl (.d (.lf r))) s|some (.ag xs),some (.ag ys)=>match y3b T.E.P op t xs ys with|some r=>k (.fl (.d (.lf (.b r)))) s|none=>none
  |_,_=>none
 |.slice t x lo hi mx=>y1s T t x lo hi mx s fun v=>k v s|.indexAddr t x i=>match idxT (evT T s 0 i)with|some n=>qiq T t (evT T s t x) n s fun v=>k v s|none=>none
 |.index t x i=>match T.E.P.underlying t,idxT (evT T s 0 i),q1t T s t x with|some .string,some n,some (.lf (.s l))=>nth l n fun b=>k (.fl (.d (.lf (.i .u8 b.toNat)))) s|_,_,_=>none
 |.makeSlice t l c=>match T.S.elem t,q1s T.E.P t,q1t T s 0 l,q1t T s 0 c with
  |some cd,some e,some (.lf (.i .i64 n)),some (.lf (.i .i64 m))=>match(q3d T.E.P e).bind fun z=>qny (qhu (T.S.lists e) z),q8e T.E.P e with
   |some z,some b=>match ofPD cd z with|some x=>if b<=65536 then chk (n=m/\0<=n/\n<=65536) (k (.fl (.own cd (List.replicate n.toNat x) false)) s)else none|none=>none
   |_,_=>none
  |_,_,_,_=>none
 |.call {callee:=.builtin .append,args,argTypes}=>match args.toList,argTypes.toList with|[x,y],[t,u]=>if t=u then qva T q t x y s k else none|_,_=>none
 |.call {callee:=.builtin .copy,args,argTypes}=>match args.toList,argTypes.toList with|[x,y],[t,u]=>if q then none else copyT T t u x y s k|_,_=>none
 |.convert src dst x=>if src=qc2 then match q1s T.E.P src,T.E.P.underlying dst,q1t T s src x with
   |some e,some .string,some (.lf (.l c xs))=>match T.E.P.underlying e with|some (.int .u8)=>chk ((xs.map (T.S.enc c)).all qu4=true) (k (.fl (.d (.lf (.s (y8l T c xs))))) s)|_=>none
   |_,_,_=>none else match qr0 T fl q ty op s with|some (v,s1)=>k v s1|none=>none
 |op=>match qr0 T fl q ty op s with|some (v,s1)=>k v s1|none=>none
def LK.Ty(S:Sig):LK S.TC->Type|.i _=>Int|.b=>Bool|.s=>List UInt8|.l c=>List (S.Ty c)
def OT.Ty:OT S->Type|.lf k=>k.Ty S|.own c _=>List (S.Ty c)|.ag c=>S.Ty c|.ptr .. |.fn .. |.ref _|.undef=>Unit
def Prods:List (OT S)->Type|[]=>Unit|[a]=>a.Ty|a::b::r=>a.Ty×Prods (b::r)
def LK.mk:(k:LK S.TC)->k.Ty S->Leaf S.TC S.Ty|LK.i κ,n=>.i κ n|LK.b,x=>.b x|LK.s,z=>.s z|LK.l c,xs=>.l c xs
def OT.mk:(a:OT S)->a.Ty->TL S|.lf k,x=>.d (.lf (k.mk x))|.own c l,xs=>.own c xs l|.ag c,x=>.d (packT (S.agg c) (S.cells c x))|.ptr o off,_=>.ptr o off|.fn f caps,_=>.fn f caps|.ref o,_=>.ref o|.undef,_=>.undef
def vals:(l:List (OT S))->Prods l->List (TL S)|[],_=>[]|[a],x=>[a.mk x]|a::b::r,x=>a.mk x.1::vals (b::r) x.2
def LK.of:(k:LK S.TC)->Leaf S.TC S.Ty->Option (k.Ty S)|.i κ,.i κ' n=>if κ'=κ then some n else none|.b,.b x=>some x|.s,.s z=>some z|.l c,x=>qce c x|_,_=>none
def OT.of:(a:OT S)->TL S->Option a.Ty|.lf k,.d (.lf x)=>k.of x|.own c l,.own c' xs l'=>if l'=l then qce c (.l c' xs)else none|.ag c,.d x=>ofPD c x|.ptr o off,.ptr o' off'=>if o'=o/\off'=off then some ()else none|.fn f cs,.fn f' cs'=>if f'=f/\cs'=cs then some ()else none|.ref o,.ref o'=>if o'=o then some ()else none|.undef,.undef=>some ()|_,_=>none
def qgv:(l:List (OT S))->List (TL S)->Option (Prods l)
 |[],[]=>some ()|[a],[v]=>a.of v|a::b::r,v::vs=>match a.of v,qgv (b::r) vs with|some x,some xs=>some (x,xs)|_,_=>none
 |_,_=>none
def OSpec.all(o:OSpec S):List (OT S):=o.res++o.heap.flatten
abbrev OSpec.Out(o:OSpec S):Type:=Prods o.all
def q4k:List Nat->List (TL S)->THeap S|[],_=>[]|n::r,vs=>vs.take n::q4k r (vs.drop n)
def resOf(o:OSpec S)(x:o.Out):List (TL S):=(vals o.all x).take o.res.length
def q2t(o:OSpec S)(x:o.Out):THeap S:=q4k (o.heap.map List.length) ((vals o.all x).drop o.res.length)
def ycs:TL S->OT S|.d (.lf (.i κ _))=>.lf (.i κ)|.d (.lf (.b _))=>.lf .b|.d (.lf (.s _))=>.lf .s|.d (.lf (.l c _))=>.lf (.l c)|.own c _ l=>.own c l|.ptr o off=>.ptr o off|.fn f cs=>.fn f cs|.ref o=>.ref o|_=>.ptr 0 0
def ql8:List (TL S)->TV S|[v]=>.fl v|vs=>.tup vs
def CSem(T:TEn)(f:FuncId)(vs:List (TL T.S))(hs:THeap T.S)(o:OSpec T.S)(x:o.Out):Prop:=∃m,call T.E m f (vs.map TL.toA) (heapA hs)=some (q0o ((resOf o x).map TL.toA),heapA (q2t o x))
open Classical in
noncomputable def callC(T:TEn)(f:FuncId)(vs:List (TL T.S))(hs:THeap T.S)(o:OSpec T.S):Option o.Out:=if h:∃x,CSem T f vs hs o x then some h.choose else none
def ptrsT:TL S->List Nat|.ptr o _=>[o]|.ref o=>[o]|.fn _ cs=>cs.map (·.1)|_=>[]
def qmc:TV S->List Nat|.agg cs=>cs.flatMap ptrsT|.tup cs=>cs.flatMap ptrsT|.fl (.loc (.cell o _))=>[o]|.fl (.elt (.cell o _) _ _)=>[o]|.fl (.seg (.cell o _) _ _)=>[o]|.fl v=>ptrsT v
def dropT(m:Nat):TEnv S->TEnv S|[]=>[]|(k,v)::r=>if(qmc v).all (fun o=>decide (o<m))then(k,v)::dropT m r else qcx (dropT m r) k
def q5y(m:Nat)(h:THeap S):Bool:=(h.take m).all fun cs=>cs.all fun c=>(ptrsT c).all fun o=>decide (o<m)
def trimT(m:Nat)(s:TSt S):TSt S:=if q5y m s.heap then{env:=dropT m s.env,heap:=s.heap.take m}else s
def renT(ρ:Nat->Nat):TL S->TL S|.ptr o a=>.ptr (ρ o) a|.ref o=>.ref (ρ o)|.fn f cs=>.fn f (cs.map fun(o,a)=>(ρ o,a))|v=>v
def qy0(ρ:Nat->Nat):TV S->TV S|.agg cs=>.agg (cs.map (renT ρ))|.tup cs=>.tup (cs.map (renT ρ))|.fl v=>.fl (renT ρ v)
def qwz(ρ:Nat->Nat)(e:TEnv S):TEnv S:=e.map fun p=>(p.1,qy0 ρ p.2)
def qs2(s:TSt S)(o:Nat):Bool:=(s.env.all fun p=>!(qmc p.2).contains o)&&s.heap.all fun cs=>cs.all fun c=>!(ptrsT c).contains o
def qie(o' o0:Nat)(s:TSt S):TSt S:={env:=qwz (ρm o' o0) (killT s.env),heap:=((s.heap.set o0 (s.heap.getD o' [])).take o').map fun cs=>cs.map (renT (ρm o' o0))}
def y1q(o:Nat):TV S->Bool|.fl (.ptr o' _)=>o'==o|_=>false
def qcz(k:Nat)(s:TSt S):Nat->Option Nat|0=>none|m+1=>if k<=m/\qs2 s m=true/\(s.heap.getD m []).length=(s.heap.getD (s.heap.length-1) []).length then some m else qcz k s m
def qrp(k m:Nat):Nat->TSt S->TSt S|0,s=>s|n+1,s=>if m<s.heap.length/\(s.env.any fun p=>y1q (s.heap.length-1) p.2)=true then match qcz k s m with|some o0=>qrp k m n (qie (s.heap.length-1) o0 s)|none=>s else s
def qmi(k m:Nat)(s:TSt S):TSt S:=trimT m (qrp k m 3 s)
inductive Fr where|seq(b:Code)|block(id m:Nat)|loop(b:Code)(m:Nat)
noncomputable def unw(E:Env0)(f:FuncId)(k n:Nat):List Fr->Ex->St->Option (Ex×St)
 |[],ex,s=>some (ex,s)|.seq b::K,.normal,s=>match exec E f k n b s with|some (ex,s1)=>unw E f k n K ex s1|none=>none
 |.seq _::K,ex,s=>unw E f k n K ex s|.block id m::K,.exit id',s=>if id'=id then unw E f k n K .normal (trim m s)else unw E f k n K (.exit id') s|.block _ m::K,.normal,s=>unw E f k n K .normal (trim m s)|.block _ _::K,.ret,s=>unw E f k n K .ret s|.loop b m::K,.normal,s=>match exec E f k n (.loop b) (endRound k m s)with|some (ex,s1)=>unw E f k n K ex s1|none=>none
 |.loop _ _::K,ex,s=>unw E f k n K ex s
def fin(own:Bool)(P:Program)(fn:Func)(k:Nat):Ex->St->Option (AV×Heap)|.normal,s|.ret,s=>qbh own P fn k s|_,_=>none
structure Fx where
 f:FuncId
 fn:Func
 k:Nat
def Goes(E:Env0)(F:Fx)(c:Code)(K:List Fr)(s:St)(q:AV×Heap):Prop:=∃n ex s1 ex' s2,exec E F.f F.k n c s=some (ex,s1)/\unw E F.f F.k n K ex s1=some (ex',s2)/\fin (E.an.own F.f) E.P F.fn F.k ex' s2=some q
def BSem(T:TEn)(F:Fx)(o:OSpec T.S)(c:Code)(K:List Fr)(s:TSt T.S)(x:o.Out):Prop:=Goes T.E F c K s.toS (q0o ((resOf o x).map TL.toA),heapA (q2t o x))
open Classical in
noncomputable def goC(T:TEn)(F:Fx)(o:OSpec T.S)(c:Code)(K:List Fr)(s:TSt T.S):Option o.Out:=if h:∃x,BSem T F o c K s x then some h.choose else none
def qgf(h:THeap S):List Nat->Option (THeap S)|[]=>some []|o::r=>match h[o]?,qgf h r with|some cs,some hs=>some (cs::hs)|_,_=>none
def argT(T:TEn)(s:TSt T.S)(t:TypeId)(x:Operand):Option (TL T.S):=match evT T s t x with|.fl (.ptr o a)=>some (.ptr o a)|.fl (.fn f cs)=>some (.fn f cs)|.fl (.view cs)=>some (.view cs)|.fl (.ref o)=>some (.ref o)|_=>match q1t T s t x with|some x=>some (.d x)|none=>none
def argsT(T:TEn)(s:TSt T.S):List TypeId->List Operand->Option (List (TL T.S))|_,[]=>some []|ts,x::r=>match argT T s (ts.headD 0) x,argsT T s ts.tail r with|some v,some vs=>some (v::vs)|_,_=>none
def outT:TV S->Option (TL S)|.fl (.ptr o a)=>some (.ptr o a)|.fl (.ref o)=>some (.ref o)|.fl (.fn f cs)=>some (.fn f cs)|v=>match qny v with|some x=>some (.d x)|none=>none
def qv6(P:Program)(s:TSt S):ResultVar->Option (TL S)|.tmp t=>outT (getT s.env t)|.cell a t=>match getT s.env a with
  |.fl (.ptr o off)=>match tyAgg P t,q0f P t,s.heap[o]? with
   |some true,some n,some cs=>if off+n<=cs.length then match q4l ((cs.drop off).take n)with|some ds=>some (.d (.ag ds))|none=>none else none|some false,_,some cs=>match cs[off]? with|some v=>outT (.fl v)|none=>none
   |_,_,_=>none
  |_=>none
def qgb(P:Program)(s:TSt S):List ResultVar->Option (List (TL S))|[]=>some []|x::r=>match qv6 P s x,qgb P s r with|some v,some vs=>some (v::vs)|_,_=>none
def y3l(s:TSt S)(k:Nat):ResultVar->Bool|.tmp _=>true|.cell a _=>match getT s.env a with|.fl (.ptr o _)=>decide (k<=o)|_=>false
def y2k:List (TL S)->Bool|[.ref _,.ref _]=>true|_=>false
def y24(P:Program)(F:Fx)(o:OSpec S)(s:TSt S):Option o.Out:=match qgb P s F.fn.results.toList with|none=>none|some vs=>if y2k vs then none else if((vs.flatMap ptrsT)++((s.heap.take F.k).flatMap fun cs=>cs.flatMap ptrsT)).all (fun o=>decide (o<F.k))then if(F.fn.results.toList.all (y3l s F.k)&&decide (F.k<=s.heap.length))=true/\vs.length=o.res.length/\(s.heap.take F.k).map List.length=o.heap.map List.length then qgv o.all (vs++(s.heap.take F.k).flatten)else none else if(F.fn.results.toList.all qhl&&((vs.flatMap ptrsT)++(s.heap.flatMap fun cs=>cs.flatMap ptrsT)).all (fun o=>decide (o<s.heap.length)))=true/\vs.length=o.res.length/\s.heap.map List.length=o.heap.map List.length then qgv o.all (vs++s.heap.flatten)else none
def qwm(P:Program)(F:Fx)(o:OSpec S)(s:TSt S):Option o.Out:=match F.fn.results.toList with
 |[.tmp t]=>match getT s.env t with|.fl (.own c xs false)=>if(q5y F.k s.heap&&decide (F.k<=s.heap.length))=true/\[TL.ref (S:=S) F.k].length=o.res.length/\(s.heap.take F.k++[[TL.own c xs false]]).map List.length=o.heap.map List.length then qgv o.all ([TL.ref F.k]++(s.heap.take F.k++[[TL.own c xs false]]).flatten)else none|_=>none
 |[.cell a t]=>match getT s.env a,tyAgg P t,q0f P t with
  |.fl (.ptr p 0),some true,some 1=>match cellT s.heap p 0 with|.own c xs false=>if(q5y F.k s.heap&&decide (F.k<=p)&&decide (F.k<=s.heap.length))=true/\[TL.ref (S:=S) F.k,TL.ref F.k].length=o.res.length/\(s.heap.take F.k++[[TL.own c xs false]]).map List.length=o.heap.map List.length then qgv o.all ([TL.ref F.k,TL.ref F.k]++(s.heap.take F.k++[[TL.own c xs false]]).flatten)else none|_=>none
  |_,_,_=>none
 |_=>none
def qi2(own:Bool)(P:Program)(F:Fx)(o:OSpec S)(s:TSt S):Option o.Out:=if own then qwm P F o s else y24 P F o s
def qq4(keep:Bool)(k:Nat)(v:TV S)(h:THeap S):TV S×THeap S:=match v with|.fl (.ref o)=>if decide (o=k)&&q5y k h then match h.drop k with|[[.own c xs false]]=>(.fl (if keep then .own c xs false else .d (.lf (.l c xs))),h.take k)|_=>(v,h)else(v,h)|.tup [.ref o,.ref _]=>if decide (o=k)&&q5y k h then match h.drop k with|[[.own c xs false]]=>(if keep then .agg [.own c xs false]else .fl (.d (.ag [.l c xs])),h.take k)|_=>(.fl .undef,h)else(.fl .undef,h)|v=>(v,h)
def qdh(h:THeap S):List Nat->THeap S->THeap S|o::os,cs::r=>qdh (h.set o cs) os r|_,_=>h
def qwx(s:TSt S)(objs:List Nat)(h':THeap S):TSt S:={env:=q8y objs s.env,heap:=qdh s.heap objs (h'.map fun cs=>cs.map (renT (q0u objs s.heap.length)))++(h'.drop objs.length).map fun cs=>cs.map (renT (q0u objs s.heap.length))}
def y27(ρ:Nat->Nat):TV S->TV S|.tup us=>.tup (us.map (renT ρ))|.fl v=>.fl (renT ρ v)|v=>v
def yca(T:TEn)(h:FuncId)(hs:THeap T.S):OSpec T.S:={res:=if T.E.an.own h then(match T.res h with|[_,_]=>[.ref hs.length,.ref hs.length]|_=>[.ref hs.length])else T.res h,heap:=match T.outs h with|some os=>os++T.news h|none=>hs.map (fun cs=>cs.map ycs)++T.news h}
noncomputable def callT(T:TEn)(r:Rule)(h:FuncId)(vs:List (TL T.S))(dst:Option Nat)(s:TSt T.S)(k:TSt T.S->Option β):Option β:=match reach (heapA s.heap) (s.heap.length+1) (q4q [] (vs.flatMap ptrsT))with|none=>none|some objs=>if !r.draws||objs.all (fun o=>!above r.mode o)then match qgf s.heap objs with
   |some hs=>match callC T h (vs.map (renT (objs.idxOf ·))) (hs.map fun cs=>cs.map (renT (objs.idxOf ·))) (yca T h (hs.map fun cs=>cs.map (renT (objs.idxOf ·))))with|some x=>if r.draws&&decide (objs.length<(qq4 r.keep objs.length (ql8 (resOf _ x)) (q2t _ x)).2.length)then none else k (TSt.put (qwx s objs (qq4 r.keep objs.length (ql8 (resOf _ x)) (q2t _ x)).2) dst (y27 (q0u objs s.heap.length) (qq4 r.keep objs.length (ql8 (resOf _ x)) (q2t _ x)).1))|none=>none
   |none=>none else none
def q7z(s:TSt S):Operand->Option (Nat×TL S)
 |.tmp u=>match getT s.env u with
  |.fl (.own c xs false)=>some (u,.own c xs false)|.fl (.loc (.slot t))=>match getT s.env t with|.fl (.own c xs false)=>some (t,.own c xs false)|_=>none
  |_=>none
 |_=>none
def q6p(s:TSt S):Operand->Option (Nat×Nat×Nat×TL S)
 |.tmp u=>match getT s.env u with
  |.fl (.loc (.cell o off))=>match cellT s.heap o off with|.own c xs false=>some (u,o,off,.own c xs false)|_=>none
  |_=>none
 |_=>none
def qf8(s:TSt S):Operand->Bool
 |.tmp u=>match getT s.env u with|.fl (.loc (.cell _ _))=>true|_=>false
 |_=>false
def qo6(T:TEn)(s:TSt T.S)(t:TypeId)(x:Operand):Option (TL T.S×TSt T.S×List (Nat×Nat)):=match q7z s x with|some (u,v)=>some (.ref s.heap.length,{env:=putT s.env u (.fl .undef),heap:=s.heap++[[v]]},[(s.heap.length,u)])|none=>match q6p s x with|some (u,o,off,v)=>some (.ref s.heap.length,{env:=killT s.env,heap:=qdm s.heap o off .undef++[[v]]},[(s.heap.length,u)])|none=>match argT T s t x with|some v=>some (v,s,[])|none=>none
def q6r(T:TEn)(s:TSt T.S):List TypeId->List Operand->Option (List (TL T.S)×TSt T.S×List (Nat×Nat))|_,[]=>some ([],s,[])|ts,x::r=>match qo6 T s (ts.headD 0) x with
  |some (v,s1,l)=>match q6r T s1 ts.tail r with|some (vs,s2,l')=>some (v::vs,s2,l++l')|none=>none
  |none=>none
def qdo(s:TSt S)(l:List Operand):Bool:=l.any fun x=>(q7z s x).isSome||qf8 s x
def qzd(o:Nat):TV S->Bool|.fl (.ref o')=>o'==o|_=>false
def qx5(dst:Option Nat)(o t:Nat)(s:TSt S):Option Nat:=match dst with|some d=>if qzd o (getT s.env d)then some d else if d=t then none else some t|none=>some t
def qfq(dst:Option Nat)(o t:Nat)(s:TSt S):Option (TSt S):=match s.heap[o]?,qx5 dst o t s with|some [.own c xs false],some d=>if s.heap.length=o+1/\q5y o s.heap=true then some {env:=putT (dropT o (killT s.env)) d (.fl (.own c xs false)),heap:=s.heap.take o}else none|some [.undef],_=>if s.heap.length=o+1/\q5y o s.heap=true then some {env:=dropT o s.env,heap:=s.heap.take o}else none|_,_=>none
def qdd(dst:Option Nat):List (Nat×Nat)->TSt S->Option (TSt S)|[],s=>some s|(o,t)::r,s=>match qdd dst r s with|some s1=>qfq dst o t s1|none=>none
noncomputable def doOpT(T:TEn)(F:Fx)(r:Rule)(ops:Array Oper)(o:Oper)(s:TSt T.S)(k:TSt T.S->Option β):Option β:=match o.op with
 |.store t a x=>if o.dst.isNone&&qdk T.E (qc9 r ops o) s.toS a then y20 T t a x s k else none|.call {callee:=.value g,args,argTypes}=>if qdo s args.toList then if r.draws then none else match evT T s 0 g,q6r T s argTypes.toList args.toList with
   |.fl (.fn h caps),some (vs,s1,l)=>callT T (q5o T.E.an F.f r o) h (vs++caps.map fun(o,a)=>.ptr o a) o.dst s1 fun s2=>match qdd o.dst l s2 with|some s3=>k s3|none=>none
   |_,_=>none else match evT T s 0 g,argsT T s argTypes.toList args.toList with|.fl (.fn h caps),some vs=>callT T (q5o T.E.an F.f r o) h (vs++caps.map fun(o,a)=>.ptr o a) o.dst s k|_,_=>none
 |op=>if q4f T.E (qao T.E.an F.f r ops o) s.toS op then stepT T (T.E.an.flag F.f (o.dst.getD 0)) (r.draws&&!q4a ops op) o.type op s fun v s1=>match keepT (T.E.an.flag F.f (o.dst.getD 0)) v with|some w=>k ((s1.del (q5x op)).put o.dst w)|none=>none else none
noncomputable def opT(T:TEn)(F:Fx)(r:Rule)(ops:Array Oper)(o:Oper)(s:TSt T.S)(k:TSt T.S->Option β):Option β:=match o.guard with|none=>doOpT T F r ops o s k|some (j,want)=>match(ops[j]?).bind (·.dst)with|none=>none|some t=>match getT s.env t with
   |.fl (.d (.lf (.b b)))=>match b with|true=>if want then doOpT T F r ops o {s with env:=replT s.env t (.fl (.d (.lf (.b true))))} k else k (TSt.put {s with env:=replT s.env t (.fl (.d (.lf (.b true))))} o.dst (.fl .skipped))|false=>if want then k (TSt.put {s with env:=replT s.env t (.fl (.d (.lf (.b false))))} o.dst (.fl .skipped))else doOpT T F r ops o {s with env:=replT s.env t (.fl (.d (.lf (.b false))))} k
   |.fl .skipped=>k (s.put o.dst (.fl .skipped))|_=>none
noncomputable def opsT(T:TEn)(F:Fx)(r:Rule)(ops:Array Oper):List Oper->TSt T.S->(TSt T.S->Option β)->Option β|[],s,k=>k s|o::rest,s,k=>opT T F r ops o s fun s1=>opsT T F r ops rest s1 k
def takeT(T:TEn)(F:Fx)(o:Oper)(s:TSt T.S):Option (TSt T.S):=match o.op,o.guard,o.dst with
 |.load t (.tmp r),none,some d=>if T.E.an.flag F.f d=.keep then match tyAgg T.E.P t,q0f T.E.P t,getT s.env r with
   |some true,some 1,.fl (.ptr p off)=>match cellT s.heap p off with|.own c xs false=>some ((qci s (.cell p off) .undef).put (some d) (.agg [.own c xs false]))|_=>none
   |_,_,_=>none else none|_,_,_=>none
def headT(T:TEn)(F:Fx)(ops:Array Oper)(s:TSt T.S):List Oper×TSt T.S:=match ops.toList with|[]=>([],s)|o::l=>match takeT T F o s with|some s1=>(l,s1)|none=>(o::l,s)
def y8n:Code->Option Nat|.region id _ _=>some id|.seq a _=>y8n a|_=>none
def cutAt(T:TEn)(f:FuncId)(c:Code):Bool:=match y8n c with|some id=>T.cut f id|none=>false
def replO(s:TSt S)(x:Operand)(v:TV S):TSt S:=match x with|.tmp t=>{s with env:=replT s.env t v}|_=>s
open Classical in
noncomputable def sameQ(a b:TSt S)(k:Option β):Option β:=if a=b then k else none
noncomputable def lineT(T:TEn)(F:Fx):Nat->Code->TSt T.S->(TSt T.S->Option β)->Option β|0,_,_,_=>none|n+1,c,s,k=>match c with
  |.skip=>k s|.region id ops draw=>match draw with
   |true=>match T.E.an.order F.f id with|[l]=>if q9d T.E.an F.f ops s.toS=false then none else opsT T F (q3k T.E.an F.f id ops) ops (q0e ops l) s fun s1=>k {s1 with env:=q81 s1.env (T.E.an.clear F.f id)}|_=>none
   |false=>opsT T F {draws:=false,mode:=T.E.an.mode F.f id} ops (headT T F ops s).1 (headT T F ops s).2 fun s1=>k {s1 with env:=q81 s1.env (T.E.an.clear F.f id)}
  |.seq a b=>match twoOf T.E.an F.f a with|none=>lineT T F n a s fun s1=>lineT T F n b s1 k|some _=>none
  |.cond x a b=>match evT T s 0 x with
   |.fl (.d (.lf (.b t)))=>match t with|true=>lineT T F n a (replO s x (.fl (.d (.lf (.b true))))) k|false=>lineT T F n b (replO s x (.fl (.d (.lf (.b false))))) k
   |_=>none
  |_=>none
mutual
noncomputable def te (T : TEn) (F : Fx) (o : OSpec T.S) : Nat -> Code -> List Fr -> TSt T.S -> Option o.Out
 | 0, c, K, s => goC T F o c K s
 | n + 1, c, K, s => match c with
  | .skip => teK T F o n .normal K s
  | .label _ => teK T F o n .normal K s
  | .region id ops draw => match draw with
   | true => match T.E.an.order F.f id with
    | [l] => if q9d T.E.an F.f ops s.toS = false then none else opsT T F (q3k T.E.an F.f id ops) ops (q0e ops l) s fun s1 => teK T F o n .normal K { s1 with env := q81 s1.env (T.E.an.clear F.f id) }
    | [l1, l2] => if q9d T.E.an F.f ops s.toS = false then none else opsT T F (q3k T.E.an F.f id ops) ops (q0e ops l1) s fun s1 => opsT T F (q3k T.E.an F.f id ops) ops (q0e ops l2) s fun s2 =>
     sameQ { s1 with env := q81 s1.env (T.E.an.clear F.f id) } { s2 with env := q81 s2.env (T.E.an.clear F.f id) } (teK T F o n .normal K { s1 with env := q81 s1.env (T.E.an.clear F.f id) })
    | _ => none
   | false => opsT T F { draws := false, mode := T.E.an.mode F.f id } ops (headT T F ops s).1 (headT T F ops s).2 fun s1 => teK T F o n .normal K { s1 with env := q81 s1.env (T.E.an.clear F.f id) }
  | .seq a b => match twoOf T.E.an F.f a with
   | none => te T F o n a (.seq b :: K) s
   | some (id, ops, l1, l2) => opsT T F rule0 ops (q0e ops l1) s fun s1 => lineT T F n b { s1 with env := q81 s1.env (T.E.an.clear F.f id) } fun q1 => opsT T F rule0 ops (q0e ops l2) s fun s2 => lineT T F n b { s2 with env := q81 s2.env (T.E.an.clear F.f id) } fun q2 => sameQ (trimT s.heap.length q1) (trimT s.heap.length q2) (teK T F o n .normal K (trimT s.heap.length q1))
  | .cond x a b => match evT T s 0 x with
   | .fl (.d (.lf (.b t))) => match t with
    | true => te T F o n a K (replO s x (.fl (.d (.lf (.b true)))))
    | false => te T F o n b K (replO s x (.fl (.d (.lf (.b false)))))
   | _ => none
  | .block id b => te T F o n b (.block id s.heap.length :: K) s
  | .loop b => goC T F o (.loop b) K s
  | .exit id => teK T F o n (.exit id) K s
  | .ret => qi2 (T.E.an.own F.f) T.E.P F o s
  | _ => none
termination_by structural n => n
noncomputable def teK (T : TEn) (F : Fx) (o : OSpec T.S) : Nat -> Ex -> List Fr -> TSt T.S -> Option o.Out
 | 0, _, _, _ => none
 | n + 1, ex, K, s => match ex, K with
  | .ret, _ => qi2 (T.E.an.own F.f) T.E.P F o s
  | .normal, [] => qi2 (T.E.an.own F.f) T.E.P F o s
  | .normal, .seq b :: K => if cutAt T F.f b then goC T F o b K s else te T F o n b K s
  | .normal, .block _ m :: K => teK T F o n .normal K (trimT m s)
  | .normal, .loop b m :: K => goC T F o (.loop b) K (qmi F.k m s)
  | .exit id, .seq _ :: K => teK T F o n (.exit id) K s
  | .exit id, .block id' m :: K => if id = id' then teK T F o n .normal K (trimT m s) else teK T F o n (.exit id) K s
  | .exit id, .loop _ _ :: K => teK T F o n (.exit id) K s
  | .exit _, [] => none
termination_by structural n => n
end
end Go.Ab

namespace Go.Ab
variable {v : Value} {fl : Flag} {t : TypeId} {x : Operand}
variable {S : Sig} {β : Type}
theorem qk2(x:Leaf S.TC S.Ty):(leafD x).isAgg=false:=by cases x<;>rfl
theorem qvi(x:Leaf S.TC S.Ty):(leafD x).cells=[leafD x]:=by cases x<;>rfl
theorem q2q(e:TEnv S)(t:Nat):get (envA e) t=(getT e t).toA:=by induction e with|nil=>rfl|cons p r ih=>obtain⟨k,v⟩:=p;simp only[envA,List.map_cons,get,getT]at ih⊢;grind
theorem qn1(e:TEnv S)(t:Nat)(v:TV S):setE (envA e) t v.toA=envA (setT e t v):=by induction e with|nil=>rfl|cons p r ih=>obtain⟨k,u⟩:=p;simp only[envA,List.map_cons,setE,setT]at ih⊢;grind
theorem q5c(e:TEnv S)(t:Nat):q7c (envA e) t=envA (qcx e t):=by induction e with|nil=>rfl|cons p r ih=>obtain⟨k,u⟩:=p;simp only[envA,List.map_cons,q7c,qcx]at ih⊢;grind
theorem q40(l:List Nat):∀(e:TEnv S),q59 (envA e) l=envA (q81 e l):=by induction l with|nil=>intro e;rfl|cons t r ih=>intro e;simp only[q59,q81,q5c,ih]
theorem qp2(v:TV S):v.toA.placed=v.placed:=by cases v with|fl x=>cases x<;>rfl|_=>rfl
theorem qg0(v:TV S):v.toA.isOwn=v.isOwn:=by cases v with|fl x=>cases x<;>rfl|_=>rfl
theorem y19(v:TL S):v.toA.isOwn=v.isOwn:=by cases v<;>rfl
theorem qhj(e:TEnv S):q0n (envA e)=envA (killT e):=by induction e with|nil=>rfl|cons p r ih=>
  obtain⟨k,u⟩:=p;simp only[envA,List.map_cons,q0n,killT,qp2]at ih⊢;split;·rw[ih];exact q5c _ _
  simp_all
theorem y76(objs:List Nat)(v:TV S):hits objs v.toA=hitsT objs v:=by simp only[hits,hitsT,qp2];congr 1;cases v with
 |fl x=>cases x with|loc p=>cases p<;>rfl|elt p i off=>cases p<;>rfl|seg p i off=>cases p<;>rfl|_=>rfl
 |_=>rfl
theorem qjp(objs:List Nat)(e:TEnv S):q11 objs (envA e)=envA (q8y objs e):=by induction e with|nil=>rfl|cons p r ih=>
  obtain⟨k,u⟩:=p;simp only[envA,List.map_cons,q11,q8y,y76]at ih⊢;split;·rw[ih];exact q5c _ _
  simp_all
theorem y0s(t:Nat)(v:TV S):v.toA.sitsAt t=v.sitsAt t:=by cases v with
 |fl x=>cases x with|loc p=>cases p<;>rfl|elt p i off=>cases p<;>rfl|seg p i off=>cases p<;>rfl|_=>rfl
 |_=>rfl
theorem qen(t:Nat)(e:TEnv S):qat t (envA e)=envA (qa9 t e):=by induction e with|nil=>rfl|cons p r ih=>
  obtain⟨k,u⟩:=p;simp only[envA,List.map_cons,qat,qa9,y0s]at ih⊢;split;·rw[ih];exact q5c _ _
  simp_all
theorem qt5:∀{e:TEnv S}{t:Nat}{v:TV S},getT e t=v->replT e t v=e
 |[],_,_,_=>rfl|(k,u)::r,t,v,h=>by
  simp only[getT]at h;simp only[replT];split;·simp_all
  .rename_i hk;rw[if_neg hk]at h;rw[qt5 h]
theorem qcr(e:TEnv S)(t:Nat)(v:TV S):putE (envA e) t v.toA=envA (putT e t v):=by
 have key:setE (if(get (envA e) t).isOwn then qat t (envA e)else envA e) t v.toA=envA (setT (if(getT e t).isOwn then qa9 t e else e) t v):=by rw[q2q,qg0,qen];split<;>exact qn1 _ _ _
 have key2:q7c (if(get (envA e) t).isOwn then qat t (envA e)else envA e) t=envA (qcx (if(getT e t).isOwn then qa9 t e else e) t):=by rw[q2q,qg0,qen];split<;>exact q5c _ _
 cases v with
 |fl x=>cases x with|undef=>exact key2|own c xs l=>simp only[TV.toA,TL.toA,putE,putT,qen];exact qn1 _ _ (.fl (.own c xs l))|_=>exact key
 |agg cs=>exact key|tup vs=>exact key
theorem qi0(s:TSt S)(dst:Option Nat)(v:TV S):s.toS.put dst v.toA=(s.put dst v).toS:=by cases dst with|none=>rfl|some t=>simp only[St.put,TSt.put,TSt.toS,qcr]
theorem qwj(l:List Nat):∀(s:TSt S),s.toS.del l=(s.del l).toS:=by induction l with|nil=>intro s;rfl|cons t r ih=>
  intro s;simp only[St.del,TSt.del];have:({s.toS with env:=putE s.toS.env t .undef}:St)=({s with env:=putT s.env t (.fl .undef)}:TSt S).toS:=by simp only[TSt.toS];rw[show AV.undef=(TV.fl (.undef:TL S)).toA from rfl,qcr]
  simp_all
theorem qfv{c:Option S.TC}{x:TL S}(h:qf2 c v=some x):q08 v=x.toA:=by
 unfold qf2 at h;split at h;·cases c with|none=>cases h|some c=>cases h;rfl
 all_goals first|cases h|skip
 all_goals first|rfl|skip
 rename_i h1 h2 h3 h4 h5 h6 h7 h8 h9 h10 h11 h12;unfold q08;split;·simp_all
 all_goals first|rfl|skip
 all_goals grind
theorem qft{vs:List Value}:∀{cs:List (Option S.TC)}{xs:List (TL S)},qeq cs vs=some xs->vs.map q08=xs.map TL.toA:=by induction vs with|nil=>intro cs xs h;simp only[qeq,sI]at h;simp_all|cons v r ih=>
  intro cs xs h;simp only[qeq]at h;split at h;·rename_i x ys h1 h2;cases h;simp only[List.map_cons,qfv h1,ih h2]
  grind
theorem qfa{cs:List (Option S.TC)}(h:qhu cs v≠.fl .undef):q0j v=(qhu cs v).toA:=by
 unfold qhu at h⊢;split at h
 .split at h;·rename_i xs hx;simp only[q0j,TV.toA,qft hx]
  simp_all
 .rename_i hna;split at h
  .rename_i x hx;have:q0j v=q08 v:=by cases v<;>first|rfl|exact absurd rfl (hna _)
   simp only[this,TV.toA,qfv hx]
  simp_all
theorem qo8{cs:List (Option S.TC)}{xs:List (TL S)}(h:qdc cs v=some xs):(q0j v).cells=xs.map TL.toA:=by
 unfold qdc at h;split at h;·simp only[q0j,AV.cells,qft h]
 .rename_i hna;split at h
  .rename_i x hx;cases h;have:q0j v=q08 v:=by cases v<;>first|rfl|exact absurd rfl (hna _)
   rw[this,qfv hx];have:∀y:TL S,qf2 (cs.headD none) v=some y->y.toA.cells=[y.toA]:=by
    intro y hy;unfold qf2 at hy;split at hy
    .split at hy;·cases hy;rfl
     .cases hy
    all_goals first|cases hy;rfl|cases hy
   rw[this x hx];rfl
  grind
theorem qtp(v:TV S)(h:q6c v=some v):v.toA.cells=v.cells.map TL.toA:=by cases v with
 |fl x=>cases x with
  |d y=>cases y with|lf z=>cases z<;>rfl|ag cs=>simp[TV.toA,TL.toA,PD.toD,AV.cells,TV.cells,List.map_map,Function.comp_def]
  |_=>rfl
 |agg cs=>rfl|tup vs=>cases h
theorem qvh{x:TL S}{y:Leaf S.TC S.Ty}(h:qr2 x=some y):q03 x.toA=some (leafD y):=by unfold qr2 at h;split at h<;>first|cases h;rfl|cases h
theorem q3x:∀{l:List (TL S)}{ds:List (Leaf S.TC S.Ty)},q4l l=some ds->q0s (l.map TL.toA)=some (ds.map leafD)
 |[],ds,h=>by simp only[q4l,sI]at h;subst h;rfl|c::r,ds,h=>by
  simp only[q4l]at h;split at h;·rename_i x xs h1 h2;cases h;simp only[List.map_cons,q0s,qvh h1,q3x h2]
  grind
theorem qfp{v:TV S}{p:PD S}(h:qny v=some p):q4i v.toA=some p.toD:=by
 unfold qny at h;split at h
 .split at h;·rename_i ds hd;cases h;simp only[TV.toA,q4i,q3x hd,mS,PD.toD]
  .cases h
 .cases h;rename_i x;cases p with|lf z=>cases z<;>rfl|ag cs=>rfl
 .cases h;rfl
 grind
theorem qeo:∀(l:List (TL S)),q5d (l.map TL.toA)=qgw l|[]=>rfl|c::r=>by cases c<;>simp[q5d,qgw,TL.toA,qeo r]
theorem qhk:∀{l:List (TL S)},q4l l=none->l.all TL.noAg=true->q0s (l.map TL.toA)=none|[],h,_=>by cases h|c::r,h,ha=>by simp only[List.all_cons,aT]at ha;simp only[List.map_cons,q0s];cases hc:qr2 c with
  |none=>
   have:q03 c.toA=none:=by cases c with
    |d x=>cases x with|lf y=>cases hc|ag cs=>cases ha.1
    |own _ _ _=>cases hc|_=>rfl
   grind|some x=>cases hr:q4l r with|none=>rw[qhk hr ha.2];cases q03 c.toA<;>rfl|some xs=>simp[q4l,hc,hr]at h
theorem y59{v w:TV S}(h:keepT fl v=some w):q4d fl v.toA=w.toA:=by
 unfold keepT at h;split at h;·cases h;rfl
 .rename_i cs;simp only[TV.toA,q4d];split at h;·rename_i ds hd;cases h;rw[q3x hd];rfl
  .rename_i hd;split at h;·rename_i ha;cases h;rw[qhk hd ha]
   grind
 .rename_i h1 h2;cases h;cases fl with|keep=>rfl|view=>cases v with
   |fl x=>cases x<;>first|rfl|grind|(exfalso;simp_all;done)
   |agg cs=>simp_all|tup vs=>rfl
theorem q4r(h:THeap S)(o off:Nat):q0i (heapA h) o off=(cellT h o off).toA:=by simp only[q0i,cellT,heapA,List.getElem?_map];cases h[o]? with|none=>rfl|some cs=>simp only[mS,List.getElem?_map];cases cs[off]?<;>rfl
theorem qem(h:THeap S)(o off:Nat)(v:TL S):q0z (heapA h) o off v.toA=heapA (qdm h o off v):=by simp only[q0z,qdm,heapA,List.getElem?_map];cases h[o]? with|none=>rfl|some cs=>simp
theorem q1a(s:TSt S)(p:Place):content s.toS p=(q28 s p).toA:=by cases p with|slot t=>exact q2q _ _|cell o off=>exact q4r _ _ _
theorem qk8(s:TSt S)(p:Place)(v:TL S):setPlace s.toS p v.toA=(qci s p v).toS:=by cases p with|slot t=>simp only[setPlace,qci,TSt.toS];rw[<-qcr];rfl|cell o off=>simp only[setPlace,qci,TSt.toS,qhj,qem]
theorem q6e(s:TSt S)(p:Place)(v:TL S):lendPlace s.toS p v.toA=(q5a s p v).toS:=by cases p with|slot t=>simp only[lendPlace,q5a,TSt.toS];rw[<-qn1];rfl|cell o off=>simp only[lendPlace,q5a,TSt.toS,qem]
theorem qjq:∀(n:Nat)(s:TSt S)(o off:Nat),lendFrom s.toS o off n=(qhm s o off n).toS|0,_,_,_=>rfl|n+1,s,o,off=>by simp only[lendFrom,qhm];rw[show q0i s.toS.heap o off=(cellT s.heap o off).toA from q4r _ _ _];rw[<-qjq n];cases cellT s.heap o off with
  |own c xs l=>cases l with|false=>exact congrArg (fun z=>lendFrom z o (off+1) n) (q6e s (.cell o off) (.own c xs true))|true=>rfl
  |_=>rfl
variable {T : TEn}
theorem q6a{s:TSt T.S}(h:evT T s t x≠.fl .undef):ev T.E s.toS x=(evT T s t x).toA:=by cases x with|tmp u=>exact q2q _ _|const v=>exact qfa h|global g=>exact absurd rfl h|func f=>rfl
theorem y0l{v:TV S}{p:PD S}(h:y1b v=some p):v=.fl (.d p):=by unfold y1b at h;grind
theorem q3e{s:TSt T.S}{v:TV T.S}(h:evT T s t x=v)(hv:v≠.fl .undef):ev T.E s.toS x=v.toA:=by subst h;exact q6a hv
theorem q0h{s:TSt T.S}{p:PD T.S}(h:q1t T s t x=some p):plainC T.E s.toS x=some p.toD:=by cases x with|const v=>simp only[q1t]at h;simp only[plainC];rw[qfa (by intro hh;rw[hh]at h;cases h)];exact qfp h|_=>simp only[q1t]at h;have:=y0l h;simp only[plainC];rw[q3e this (by simp)];rfl
theorem qk7 {s : TSt T.S} {t : TypeId} : ∀ {l : List Operand} {ps : List (PD T.S)}, qfz T s t l = some ps -> plainsC T.E s.toS l = some (ps.map PD.toD)
 | [], ps, h => by simp only [qfz, sI] at h; subst h; rfl
 | x :: r, ps, h => by
  simp only [qfz] at h;split at h
  .rename_i a as h1 h2;cases h;simp only [plainsC, q0h h1, qk7 h2, List.map_cons]
  grind
theorem qc4 {v w : TV S} (h : q6c v = some w) : w = v /\ q3f v.toA = some v.toA /\ v ≠ .fl .undef := by
 cases v with
 | fl x => cases x with
  | d y => cases h; exact ⟨rfl, rfl, by simp⟩
  | _ => first | (cases h; done) | (cases h; exact ⟨rfl, rfl, by simp⟩)
 | agg cs => cases h; exact ⟨rfl, rfl, by simp⟩
 | tup vs => cases h
theorem qea{v w:TV S}(h:qls v=some w):w=v/\qpi v.toA=some v.toA/\v≠.fl .undef:=by cases v with
 |fl x=>cases x with|d y=>cases h;exact⟨rfl,rfl,by simp⟩|_=>first|(cases h;done)|(cases h;exact⟨rfl,rfl,by simp⟩)
 |agg cs=>cases h;exact⟨rfl,rfl,by simp⟩|tup vs=>cases h
theorem qe5{q:Bool}{s s1:TSt S}{p:Place}{v:TV S}(h:qd5 fl q s p=some (v,s1)):readPlace fl q s.toS p=some (v.toA,s1.toS):=by
 unfold qd5 at h;unfold readPlace;rw[q1a];split at h;·rename_i c xs l hc;rw[hc];cases fl with|keep=>simp only[sI,pI]at h;obtain⟨rfl,rfl⟩:=h;rfl|view=>
   simp only[TV.toA,TL.toA];simp only at h;split at h;·rename_i hl;cases h;rw[if_pos hl];rfl
   .rename_i hl;rw[if_neg hl];split at h;·cases h
    .rename_i hq;cases h;rw[if_neg hq];simp only[sI,pI];exact⟨rfl,q6e s p (.own c xs true)⟩
 all_goals first|(cases h;done)|skip
 rename_i h1 h2 h3 h4 h6;cases h;generalize q28 s p=w at*;cases w with
 |fl x=>cases x<;>first|rfl|grind|simp_all
 |agg cs=>simp_all|tup vs=>rfl
end Go.Ab

namespace Go.Ab
variable {t : TypeId} {n : Int}
variable {S : Sig} {β : Type} {T : TEn} {P : Program}
theorem q7d(hS:S.Ok P)(c:S.TC)(x:S.Ty c):(S.enc c x).cells=(S.cells c x).map leafD:=by rw[hS.enc_eq];have hl:=hS.len c x;have hp:=hS.pos c;unfold packT;cases hg:S.agg c with|true=>rfl|false=>have h1:=hS.one c hg;match hcs:S.cells c x,hl with|[],hl=>rfl|[y],_=>simp only[fT,if_false,PD.toD,qvi,List.map_cons,List.map_nil]|y::z::r,hl=>simp_all
theorem y3f(hS:S.Ok P)(c:S.TC)(x:S.Ty c):(S.enc c x).isAgg=S.agg c:=by rw[hS.enc_eq];have hl:=hS.len c x;have hp:=hS.pos c;unfold packT;cases hg:S.agg c with|true=>rfl|false=>match hcs:S.cells c x,hl with|[],hl=>simp_all|y::r,_=>simp only[fT,if_false,PD.toD,qk2]
theorem qzp(hS:S.Ok P)(c:S.TC)(x:S.Ty c):qyo (S.agg c) (S.size c) (S.enc c x)=true:=by simp only[qyo,q7d hS,y3f hS,List.length_map,hS.len,beq_self_eq_true,decide_eq_true (hS.pos c),tA',List.all_map,Function.comp_def,qk2,Bool.not_false,List.all_eq_true,implies_true]
theorem q3h(hS:S.Ok P){e:TypeId}{c:S.TC}(h1:S.elem t=some c)(h2:q1s P t=some e)(xs:List (S.Ty c)):q3z P e (xs.map (S.enc c))=true:=by obtain⟨e',h3,h4,h5⟩:=hS.elem t c h1;rw[h2]at h3;cases h3;simp only[q3z,h4,h5,List.all_map,List.all_eq_true,Function.comp_def];intro x _;exact qzp hS c x
theorem qqk(hS:S.Ok P){c:S.TC}{p:PD S}{x:S.Ty c}(h:ofPD c p=some x):p.toD=S.enc c x:=by rw[hS.enc_eq];cases p with
 |lf y=>
  simp only[ofPD]at h;split at h;·cases h
  .rename_i hg;have h1:=hS.of_eq c _ _ h;simp only[packT,hg];match hcs:S.cells c x,h1 with|[z],h1=>simp only[List.map_cons,List.map_nil,List.cons.injEq,and_true]at h1;exact h1.symm|[],h1=>grind|_::_::_,h1=>simp_all
 |ag cs=>
  simp only[ofPD]at h;split at h;·rename_i hg;have h1:=hS.of_eq c _ _ h;simp only[packT,hg,if_true,PD.toD,h1]
  grind
theorem qsr(hS:S.Ok P){c:S.TC}:∀{ps:List (PD S)}{xs:List (S.Ty c)},ofPDs c ps=some xs->ps.map PD.toD=xs.map (S.enc c)
 |[],xs,h=>by simp only[ofPDs,sI]at h;simp_all|p::r,xs,h=>by
  simp only[ofPDs]at h;split at h;·rename_i y ys h1 h2;cases h;simp only[List.map_cons,qqk hS h1,qsr hS h2]
  grind
theorem q7f{c:S.TC}{x:Leaf S.TC S.Ty}{xs:List (S.Ty c)}(h:qce c x=some xs):x=.l c xs:=by cases x with|l c' ys=>simp only[qce]at h;grind|_=>cases h
theorem qla{α:Type}{xs:List α}{k:α->Option β}{r:β}(h:nth xs n k=some r):0<=n/\∃x,xs[n.toNat]?=some x/\k x=some r:=by unfold nth at h;grind
theorem qha{α:Type}{xs:List α}{n:Nat}{k:α->Option β}{r:β}(h:nthN xs n k=some r):∃x,xs[n]?=some x/\k x=some r:=by unfold nthN at h;grind
theorem qp7{n:Nat}{k:Option β}{r:β}(h:capOk n k=some r):n<=q0a/\k=some r:=by unfold capOk at h;simp_all
theorem qro{len:Nat}{k:Nat->Option β}{r:β}(h:hiK len n k=some r):(0<=n/\n<=(len:Int))/\k n.toNat=some r:=by unfold hiK at h;simp_all
theorem q5n{p:Prop} [Decidable p]{k:Option β}{r:β}(h:chk p k=some r):p/\k=some r:=by unfold chk at h;simp_all
theorem qjr(hS:S.Ok P){s:TSt S}{p:Place}{c:S.TC}{xs:List (S.Ty c)}{l:Bool}(hc:q28 s p=.fl (.own c xs l)){i off:Nat}{x:S.Ty c}(hx:xs[i]?=some x):q33 s.toS p i off=some (((S.cells c x).drop off).map leafD):=by simp only[q33,q1a,hc,TV.toA,TL.toA,List.getElem?_map,hx,mS,q7d hS,List.map_drop]
theorem ql7(h:THeap S)(o:Nat):(heapA h)[o]?=(h[o]?).map (·.map TL.toA):=by simp[heapA]
def Does(A:Option (AV×St))(k:TV S->TSt S->Option β)(x:β):Prop:=∃v s1,A=some (v.toA,TSt.toS s1)/\k v s1=some x
theorem y07(hS:T.S.Ok T.E.P){fl:Flag}{q:Bool}{a:TV T.S}{s:TSt T.S}{k:TV T.S->TSt T.S->Option β}{x:β}(h:loadT T fl q t a s k=some x):Does (q3p T.E fl q t a.toA s.toS) k x:=by
 unfold loadT at h;unfold q3p;split at h
 .rename_i hg;rw[hg];split at h
  .rename_i o off;split at h;·rename_i v s1 hr;exact⟨v,s1,qe5 hr,h⟩
   .cases h
  .exact⟨_,_,rfl,h⟩
  .rename_i p i off;split at h
   .rename_i c xs l hc;obtain⟨y,hy,hk⟩:=qha h;split at hk;·rename_i z zs hz;refine⟨_,_,?_,hk⟩;simp only[TV.toA,TL.toA,qjr hS hc hy,hz,List.map_cons,PD.toD]
    .cases hk
   .cases h
  .cases h
 .rename_i n hg hn;rw[hg,hn];split at h
  .rename_i o off;split at h
   .rename_i cs hcs;split at h
    .rename_i hle;split at h
     .rename_i ds hds;have h1:s.toS.heap[o]?=some (cs.map TL.toA):=by rw[show s.toS.heap=heapA s.heap from rfl,ql7,hcs];rfl
      have h2:((cs.map TL.toA).drop off).take n=((cs.drop off).take n).map TL.toA:=by simp[List.map_take,List.map_drop]
      split at h;·rename_i hl;refine⟨_,_,?_,h⟩;simp only[TV.toA,TL.toA,h1,List.length_map,hle,if_true,h2,q3x hds,qeo,hl];rfl
      .rename_i hl;split at h;·cases h
       .rename_i hq;refine⟨_,_,?_,h⟩;simp only[TV.toA,TL.toA,h1,List.length_map,hle,if_true,h2,q3x hds,qeo,hl,hq,qjq];rfl
     .cases h
    .cases h
   .cases h
  .rename_i cs;split at h;·rename_i hle;refine⟨_,_,?_,h⟩;simp only[TV.toA,TL.toA,List.length_map,hle,if_true,PD.toD,List.map_take]
   .cases h
  .rename_i p i off;split at h
   .rename_i c xs l hc;obtain⟨y,hy,hk⟩:=qha h;split at hk;·rename_i hle;refine⟨_,_,?_,hk⟩;simp only[TV.toA,TL.toA,qjr hS hc hy,List.length_map,hle,if_true,PD.toD,List.map_take]
    .cases hk
   .cases h
  .cases h
 grind
def Puts(A:Option St)(k:TSt S->Option β)(x:β):Prop:=∃s1,A=some (TSt.toS s1)/\k s1=some x
theorem y94(l:List (TL S)):(l.map TL.toA).any AV.isOwn=l.any TL.isOwn:=by induction l with|nil=>rfl|cons a r ih=>simp only[List.map_cons,List.any_cons,ih,y19]
theorem qks(hS:T.S.Ok T.E.P){a:TV T.S}{vs:List (TL T.S)}{s:TSt T.S}{k:TSt T.S->Option β}{x:β}(h:qee a vs s k=some x):Puts (q1r a.toA (vs.map TL.toA) s.toS) k x:=by
 unfold qee at h;unfold q1r;split at h
 .rename_i o off;split at h
  .rename_i cs hcs;have h1:s.toS.heap[o]?=some (cs.map TL.toA):=by rw[show s.toS.heap=heapA s.heap from rfl,ql7,hcs];rfl
   split at h
   .rename_i hle;refine⟨_,?_,h⟩;simp only[TV.toA,TL.toA,h1,List.length_map,hle,if_true,sI];have h2:((cs.map TL.toA).drop off).take vs.length++vs.map TL.toA=(((cs.drop off).take vs.length)++vs).map TL.toA:=by simp[List.map_take,List.map_drop]
    rw[h2,y94];simp only[TSt.toS,St.mk.injEq];constructor
    .split;·exact qjp _ _
     .rfl
    .simp[heapA,List.map_set,List.map_take,List.map_drop]
   .cases h
  .cases h
 .rename_i p i off;split at h
  .rename_i c xs ds hc hds;obtain⟨y,hy,hk⟩:=qha h;split at hk
   .rename_i hle;split at hk
    .rename_i z hz;refine⟨_,?_,hk⟩;simp only[TV.toA,TL.toA,q1a,hc,q3x hds,List.getElem?_map,hy,mS,q7d hS,List.length_map,hle,and_self,if_true,sI];have h3:=hS.of_eq c _ _ hz;have h4:q7a (T.S.enc c y) off (ds.map leafD)=T.S.enc c z:=by rw[hS.enc_eq c y,hS.enc_eq c z];unfold packT;have hly:=hS.len c y;have hlz:=hS.len c z;cases hg:T.S.agg c with|true=>simp only[if_true,PD.toD,q7a,h3,List.map_append,List.map_take,List.map_drop,List.length_map]|false=>have h1:=hS.one c hg;simp only[fT,if_false];match hcs:T.S.cells c y,hcz:T.S.cells c z,ds,hle with
       |[u],[w],[d],hle=>
        rw[hcs]at h3;simp only[List.length_cons,List.length_nil]at hle;obtain rfl:off=0:=by omega
        rw[hcz]at h3;simp only[List.take_zero,List.nil_append,List.drop_succ_cons,List.drop_zero,List.length_cons,List.length_nil,Nat.zero_add,List.cons_append,List.map_cons,List.map_nil,List.cons.injEq,and_true]at h3;simp only[PD.toD,List.map_cons,List.map_nil];have:q7a (leafD u) 0 [leafD d]=leafD d:=by cases u<;>rfl
        rw[this,h3]|[],_,_,_=>simp only[hcs,List.length_nil]at hly;omega|_::_::_,_,_,_=>simp only[hcs,List.length_cons]at hly;omega|[_],[],_,_=>simp only[hcz,List.length_nil]at hlz;omega|[_],_::_::_,_,_=>simp only[hcz,List.length_cons]at hlz;omega|[_],[_],[],hle=>simp at hle|[_],[_],_::_::_,hle=>simp only[List.length_cons,List.length_nil]at hle;omega
     rw[h4,<-q6e];simp only[TL.toA,List.map_set]
    .cases hk
   .cases hk
  .cases h
 grind
theorem qzn(v:TL S):qsd v.toA=y4l v:=by cases v with
 |d x=>cases x with|lf y=>cases y<;>rfl|ag cs=>rfl
 |_=>rfl
theorem qwp(hS:T.S.Ok T.E.P){a y:Operand}{s:TSt T.S}{k:TSt T.S->Option β}{x:β}(h:y20 T t a y s k=some x):Puts (q62 T.E t a y s.toS) k x:=by
 unfold y20 at h;unfold q62;split at h
 .rename_i v g n hv hg hn;obtain⟨rfl,hm,hne⟩:=qc4 hv;rw[q6a hne,hm,hg,hn];split at h
  .rename_i hc;have h1:ev T.E s.toS a=(evT T s t a).toA:=by refine q6a fun e=>?_;rw[e]at h;cases h
   rw[h1];have hcells:=qtp (evT T s t y) hv;have h2:((evT T s t y).toA.cells.length=n/\(evT T s t y).toA.cells.all qsd=true):=by rw[hcells];refine⟨by simpa using hc.1,?_⟩;simpa[List.all_map,Function.comp_def,qzn]using hc.2
   simp only[h2,and_self,if_true];rw[qwj,hcells];exact qks hS h
  .cases h
 grind
end Go.Ab

namespace Go.Ab
variable {t u : TypeId} {n : Int} {y z : Operand} {hi lo mx : Option Operand} {r : Bool}
variable {S : Sig} {β : Type} {T : TEn} {P : Program}
theorem y04{P:Program}{op:BinOp}{x y:Leaf S.TC S.Ty}{k:LfK S β}{r:β}(h:binT' P op t x y k=some r):∃u v z,leafD x=.v u/\leafD y=.v v/\∃w,binT P op t u v=some w/\leafD z=.v w/\k z=some r:=by
 unfold binT' at h;split at h
 .rename_i κ a κ' b;refine⟨.int κ a,.int κ' b,?_⟩;split at h;·obtain⟨hp,hk⟩:=q5n h;exact⟨_,rfl,rfl,_,by simp only[binT,binV,Int.not_lt.2 hp,if_false];rfl,rfl,hk⟩
  .obtain⟨hp,hk⟩:=q5n h;exact⟨_,rfl,rfl,_,by simp only[binT,binV,Int.not_lt.2 hp,if_false];rfl,rfl,hk⟩
  all_goals(
   split at h;·rename_i hκ;subst hκ;first|exact⟨_,rfl,rfl,_,by simp only[binT,binV,if_true];rfl,rfl,h⟩|(obtain⟨hp,hk⟩:=q5n h;exact⟨_,rfl,rfl,_,by simp only[binT,binV,true_and,hp,not_false_eq_true,ne_eq,if_true];rfl,rfl,hk⟩)
   .cases h)
 .rename_i a b;refine⟨.string ⟨⟨a⟩⟩,.string ⟨⟨b⟩⟩,?_⟩;split at h;·obtain⟨hp,hk⟩:=q5n h;exact⟨_,rfl,rfl,_,by simp only[binT,binV,hp,if_true],rfl,hk⟩
  all_goals first|(cases h;done)|exact⟨_,rfl,rfl,_,by simp only[binT,binV];rfl,rfl,h⟩
 .rename_i a b;refine⟨.bool a,.bool b,?_⟩;split at h;·rename_i hu;exact⟨_,rfl,rfl,_,by simp only[binT,hu],rfl,h⟩
  .rename_i hu;exact⟨_,rfl,rfl,_,by simp only[binT,hu],rfl,h⟩
  .cases h
 grind
theorem y5h{op:UnOp}{x z:Leaf S.TC S.Ty}(h:unT op x=some z):∃u w,leafD x=.v u/\unV op u=some w/\leafD z=.v w:=by
 unfold unT at h;split at h;·cases h;exact⟨_,_,rfl,rfl,rfl⟩
 .cases h;exact⟨_,_,rfl,rfl,rfl⟩
 grind
theorem qlo{v:TV S}(h:idxT v=some n):idxOf v.toA=some n/\v≠.fl .undef:=by
 unfold idxT at h;split at h;·cases h;exact⟨rfl,by simp⟩
 grind
theorem y8q{s:TSt T.S}{x:Operand}(h:idxT (evT T s t x)=some n):idxOf (ev T.E s.toS x)=some n:=by obtain⟨h1,h2⟩:=qlo h;rw[q6a h2];omega
theorem qsa:∀{l:List (TL S)}{ds:List (Leaf S.TC S.Ty)},allLf l=some ds->allD (l.map TL.toA)=some (ds.map leafD)
 |[],ds,h=>by simp only[allLf,sI]at h;subst h;rfl|c::r,ds,h=>by
  unfold allLf at h;split at h;·rename_i h0;cases h0
  .rename_i x r' h0;cases h0;split at h;·rename_i xs hx;cases h;simp only[List.map_cons,TL.toA,PD.toD,allD,qsa hx,mS]
   .cases h
  grind
theorem qq6:∀{l:List (TL S)},allLf l=none->l.all TL.noAg=true->allD (l.map TL.toA)=none|[],h,_=>by cases h|c::r,h,ha=>by simp only[List.all_cons,aT]at ha;cases c with
  |d x=>cases x with|lf y=>
    simp only[allLf]at h;split at h;·cases h
    .rename_i hr;simp only[List.map_cons,TL.toA,PD.toD,allD,qq6 hr ha.2,Option.map_none]|ag cs=>cases ha.1
  |_=>rfl
theorem qsf{cs:List (TL S)}{v:TV S}(h:qrb cs=some v):qfb (cs.map TL.toA)=v.toA:=by
 unfold qrb at h;unfold qfb;split at h;·rename_i ds hd;cases h;rw[qsa hd];rfl
 .rename_i hd;split at h;·rename_i ha;cases h;rw[qq6 hd ha];rfl
  grind
theorem qu6(v:TV S)(hv:q6c v=some v):v.toA.cells=v.cells.map TL.toA/\v.toA.cells.length=v.cells.length:=by have:=qtp v hv;simp_all
theorem qub{place:Nat->Option (Nat×Nat)}:∀{ps:List (Nat×TV S)}{cells cs:List (TL S)},(∀p∈ps,q6c p.2=some p.2)->fillT place cells ps=some cs->fillA place (cells.map TL.toA) (ps.map fun p=>(p.1,p.2.toA))=some (cs.map TL.toA)
 |[],cells,cs,_,h=>by simp only[fillT,sI]at h;subst h;rfl|(i,v)::r,cells,cs,hm,h=>by
  simp only[fillT]at h;split at h
  .rename_i off size hp;split at h;·rename_i hc;obtain⟨h1,h2⟩:=qu6 v (hm (i,v) (by simp));simp only[List.map_cons,fillA,hp,h2,List.length_map,hc,and_self,if_true];have:=qub (fun p hp=>hm p (by simp[hp])) h;rw[<-this,h1];simp only[List.map_append,List.map_take,List.map_drop]
   .cases h
  grind
theorem qps{t:TypeId}:∀{l:List (Nat×Operand)}{s:TSt T.S}{ps:List (Nat×TV T.S)},qu3 T t s l=some ps->(∀p∈ps,q6c p.2=some p.2)/\q5e T.E s.toS l=some (ps.map fun p=>(p.1,p.2.toA))
 |[],s,ps,h=>by simp only[qu3,sI]at h;subst h;exact⟨by simp,rfl⟩|(i,x)::r,s,ps,h=>by
  simp only[qu3]at h;split at h
  .rename_i v vs h1 h2;cases h;obtain⟨rfl,hm,hne⟩:=qc4 h1;obtain⟨h3,h4⟩:=qps h2;refine⟨fun p hp=>?_,?_⟩
   .rcases List.mem_cons.1 hp with rfl|hp;·exact h1
    .exact h3 p hp
   .simp only[q5e,q6a hne,hm,qwj,h4,List.map_cons]
  grind
theorem y6t{v:TV T.S}{s:TSt T.S}{n:Nat}(h:lenT T t v s=some n):lenA T.E t v.toA s.toS=some n/\v≠.fl .undef:=by
 unfold lenT at h;unfold lenA;split at h;·rename_i hu;cases h;refine⟨?_,by simp⟩;rw[hu];rfl
 .rename_i hu;cases h;refine⟨?_,by simp⟩;rw[hu];simp[TV.toA,TL.toA,PD.toD,leafD]
 .rename_i hu;rw[hu];split at h;·rename_i hc;cases h;simp only[TV.toA,TL.toA,q1a,hc,List.length_map];simp
  .cases h
 .rename_i hu;rw[hu];split at h;·rename_i hc;cases h;have hc':q0i (heapA s.heap) _ 0=_:=(q4r s.heap _ 0).trans (congrArg TL.toA hc);simp only[TV.toA,TL.toA,TSt.toS,hc',List.length_map];simp
  .cases h
 .rename_i hu;rw[hu];split at h;·rename_i hc;cases h;simp only[TV.toA,TL.toA,q1a,hc];simp
  .cases h
 grind
theorem q8p{len:Nat}{lo hi:Option (TV S)}{k:Nat->Nat->Option β}{r:β}(h:qey len lo hi k=some r):∃a b,q3v len (lo.map TV.toA) (hi.map TV.toA)=some (a,b)/\k a b=some r/\(∀v∈lo,v≠.fl .undef)/\(∀v∈hi,v≠.fl .undef):=by unfold qey at h;unfold q3v;cases hi with
 |none=>simp only at h;cases lo with|none=>grind|some a=>
   simp only at h;split at h;·rename_i n hn;obtain⟨h1,h2⟩:=qlo hn;obtain⟨h3,h4⟩:=qro h;refine⟨_,_,?_,h4,by simpa using h2,by simp⟩;simp only[Option.map_none,mS,h1,h3,and_self,if_true]
   grind
 |some b=>
  simp only at h;split at h;·cases h
  .rename_i m hm;obtain⟨h1,h2⟩:=qlo hm;obtain⟨h3,h4⟩:=qro h;cases lo with|none=>grind|some a=>
    simp only at h4;split at h4;·rename_i n hn;obtain⟨h5,h6⟩:=qlo hn;obtain⟨h7,h8⟩:=qro h4;refine⟨_,_,?_,h8,by simpa using h6,by simpa using h2⟩;simp only[mS,h1,h3,h5,h7,and_self,if_true]
    simp_all
theorem qe2{s:TSt T.S}{x:Option Operand}(h:∀v∈x.map (evT T s t),v≠.fl .undef):x.map (ev T.E s.toS)=(x.map (evT T s t)).map TV.toA:=by cases x with|none=>rfl|some y=>simp only[mS];rw[q6a (t:=t) (h (evT T s t y) (by simp))]
theorem q6n{E:Env0}{s:St}(h:(ev E s y).placed=true\/∃o,ev E s y=.ref o):plainC E s y=none:=by
 cases y with|const c=>
  exfalso;simp only[ev,q0j]at h;split at h;·rcases h with h|⟨o,h⟩<;>cases h
  .unfold q08 at h;split at h<;>(rcases h with h|⟨o,h⟩<;>cases h)|_=>
  simp only[plainC];generalize ev E s _=c at h;rcases h with h|⟨o,h⟩;·cases c<;>first|rfl|cases h
  .rw[h];rfl
theorem y4r(hS:T.S.Ok T.E.P){s:TSt T.S}{k:TV T.S->Option β}{r:β}(h:segT T t (evT T s t y) lo hi mx s k=some r):∃v,q5l T.E t y lo hi mx s.toS=some v.toA/\k v=some r:=by
 unfold segT at h;split at h
 .rename_i p hv;have hev:=q3e hv (by simp);split at h
  .rename_i c xs l hc;split at h;·rename_i he;obtain⟨a,b,h1,h2,h3,h4⟩:=q8p h;obtain⟨e,h5,h6,h7⟩:=hS.elem t c he;refine⟨_,?_,h2⟩;have hpl:plainC T.E s.toS y=none:=q6n (.inl (by rw[hev];rfl));simp only[q5l,hpl,segOp,hev,TV.toA,TL.toA,segBase,q1a,hc,h5,List.length_map];rw[qe2 h3,qe2 h4,h1];simp only[q3h hS he h5,if_true,Nat.zero_add]
   .cases h
  .cases h
 .rename_i o hv;have hev:=q3e hv (by simp);split at h
  .rename_i c xs l hc;split at h;·rename_i he;obtain⟨a,b,h1,h2,h3,h4⟩:=q8p h;obtain⟨e,h5,h6,h7⟩:=hS.elem t c he;refine⟨_,?_,h2⟩;have hpl:plainC T.E s.toS y=none:=q6n (.inr ⟨o,by rw[hev];rfl⟩);have hc':q0i s.toS.heap o 0=_:=(q4r s.heap o 0).trans (congrArg TL.toA hc);simp only[q5l,hpl,segOp,hev,TV.toA,TL.toA,segBase,hc',h5,List.length_map];rw[qe2 h3,qe2 h4,h1];simp only[q3h hS he h5,if_true,Nat.zero_add]
   .cases h
  .cases h
 .rename_i p a0 b0 hv;have hev:=q3e hv (by simp);split at h
  .rename_i c xs l hc;split at h;·rename_i he;obtain⟨hle,h⟩:=q5n h;obtain⟨a,b,h1,h2,h3,h4⟩:=q8p h;obtain⟨e,h5,h6,h7⟩:=hS.elem t c he;refine⟨_,?_,h2⟩;have hpl:plainC T.E s.toS y=none:=q6n (.inl (by rw[hev];rfl));simp only[q5l,hpl,segOp,hev,TV.toA,TL.toA,segBase,q1a,hc,h5,List.length_map,hle,if_true];rw[qe2 h3,qe2 h4,h1];simp only[q3h hS he h5,if_true]
   .cases h
  .cases h
 grind
theorem qs0(_hS:T.S.Ok T.E.P){c:T.S.TC}{s:TSt T.S}{k:List (T.S.Ty c)->Option β}{r:β}(h:qqf T c u y s k=some r):∃ys,copySrc T.E s.toS y=some (ys.map (T.S.enc c))/\k ys=some r:=by
 unfold qqf at h;split at h
 .rename_i p lo hi hv;have hev:=q3e hv (by simp);split at h
  .rename_i c' xs l hc;split at h;·rename_i ys hy;cases q7f hy;obtain⟨hle,h⟩:=q5n h;refine⟨_,?_,h⟩;have hpl:plainC T.E s.toS y=none:=q6n (.inl (by rw[hev];rfl));simp only[copySrc,hpl,hev,TV.toA,TL.toA,q1a,hc,List.length_map,hle,if_true,List.map_drop,List.map_take]
   .cases h
  grind
 .split at h
  .rename_i yl hp;split at h;·rename_i ys hy;cases q7f hy;exact⟨ys,by simp only[copySrc,q0h hp,PD.toD,leafD],h⟩
   .cases h
  grind
theorem y03(hS:T.S.Ok T.E.P){s:TSt T.S}{k:TV T.S->TSt T.S->Option β}{r:β}(h:copyT T t u y z s k=some r):Does (qdx T.E t u y z s.toS) k r:=by
 unfold copyT at h;split at h
 .rename_i p lo hi hv;have hev:=q3e hv (by simp);split at h
  .rename_i c xs hc;split at h;·rename_i he;obtain⟨ys,h1,h2⟩:=qs0 hS h;obtain⟨hle,h3⟩:=q5n h2;obtain⟨e,h5,h6,h7⟩:=hS.elem t c he.1;obtain⟨e',g5,g6,g7⟩:=hS.elem u c he.2;refine⟨_,_,?_,h3⟩;simp only[qdx,hev,TV.toA,TL.toA,h1,h5,g5,q1a,hc,List.length_map,hle,q3h hS he.1 h5,and_self,if_true];rw[<-q6e];simp only[TL.toA,PD.toD,leafD,List.map_append,List.map_take,List.map_drop]
   .cases h
  .cases h
 grind
theorem qw4(hS:T.S.Ok T.E.P){s:TSt T.S}{k:TV T.S->Option β}{r:β}(h:y1s T t y lo hi mx s k=some r):∃v,q5l T.E t y lo hi mx s.toS=some v.toA/\k v=some r:=by
 unfold y1s at h;split at h
 .rename_i l hp;split at h;·rename_i hu;obtain⟨a,b,h1,h2,h3,h4⟩:=q8p h;refine⟨_,?_,h2⟩;simp only[q5l,q0h hp,PD.toD,leafD];rw[qe2 h3,qe2 h4,h1,hu];rfl
  grind
 .rename_i c xs hp;split at h;·rename_i he;obtain⟨a,b,h1,h2,h3,h4⟩:=q8p h;refine⟨_,?_,h2⟩;obtain⟨e,h5,h6,h7⟩:=hS.elem t c he;simp only[q5l,q0h hp,PD.toD,leafD,h5,List.length_map];rw[qe2 h3,qe2 h4,h1];simp only[q3h hS he h5,if_true,TV.toA,TL.toA,PD.toD,leafD,List.map_drop,List.map_take]
  grind
 .exact y4r hS h
theorem qs7(hS:T.S.Ok T.E.P){q:Bool}{s:TSt T.S}{k:TV T.S->TSt T.S->Option β}{r:β}(h:qva T q t y z s k=some r):Does (q1v T.E q t y z s.toS) k r:=by
 unfold qva at h;split at h
 .rename_i c yl he hp;split at h
  .rename_i ys hy;cases q7f hy;split at h
   .rename_i hg;obtain⟨e,h5,h6,h7⟩:=hS.elem t c he;simp only[y8y,h5]at hg;split at hg
    .rename_i b hb;simp only[aT,dT']at hg;split at h
     .rename_i c' xs l hv;split at h;·rename_i xs' hx;cases q7f hx;obtain⟨h1,h2⟩:=qp7 h;refine⟨_,_,?_,h2⟩;simp only[q1v,q0h hp,PD.toD,leafD,h5,hb,hg,q3h hS he h5,and_self,if_true,q3e hv (by simp),TV.toA,TL.toA,List.length_map,h1,List.map_append]
      .cases h
     .rename_i p hv;split at h
      .rename_i c' xs l hc;split at h;·cases h
       .rename_i hq;split at h
        .rename_i xs' hx;cases q7f hx;obtain⟨h1,h2⟩:=qp7 h;refine⟨_,_,?_,h2⟩;have hq':q=false:=by simpa using hq
         simp only[q1v,q0h hp,PD.toD,leafD,h5,hb,hg,q3h hS he h5,and_self,if_true,q3e hv (by simp),TV.toA,TL.toA,q1a,hc,hq',List.length_map,h1,List.map_append];rw[<-qk8];rfl
        .cases h
      .cases h
     .cases h
    .cases hg
   .cases h
  .cases h
 grind
theorem qnk(hS:T.S.Ok T.E.P){v:TV T.S}{s:TSt T.S}{k:TV T.S->Option β}{r:β}(h:qiq T t v n s k=some r):(∃w,q1c T.E t v.toA n s.toS=some w.toA/\k w=some r)/\v≠.fl .undef:=by
 unfold qiq at h;split at h
 .rename_i c e p he hu;obtain⟨e',h5,h6,h7⟩:=hS.elem t c he;simp only[q1s,hu,sI]at h5;subst h5;split at h
  .rename_i c' xs l hc;split at h;·rename_i hcc;subst hcc;obtain⟨h0,x,hx,hk⟩:=qla h;refine⟨⟨_,?_,hk⟩,by simp⟩;simp only[q1c,hu,TV.toA,TL.toA,q1a,hc,h7,h0,if_true,List.getElem?_map,hx,mS,q7d hS,List.length_map,hS.len]
   .cases h
  .cases h
 .rename_i c e o he hu;obtain⟨e',h5,h6,h7⟩:=hS.elem t c he;simp only[q1s,hu,sI]at h5;subst h5;split at h
  .rename_i c' xs l hc;split at h;·rename_i hcc;subst hcc;obtain⟨h0,x,hx,hk⟩:=qla h;refine⟨⟨_,?_,hk⟩,by simp⟩;have hc':q0i s.toS.heap o 0=_:=(q4r s.heap o 0).trans (congrArg TL.toA hc);simp only[q1c,hu,TV.toA,TL.toA,hc',h7,h0,if_true,List.getElem?_map,hx,mS,q7d hS,List.length_map,hS.len]
   .cases h
  .cases h
 .rename_i c e p lo hi he hu;obtain⟨e',h5,h6,h7⟩:=hS.elem t c he;simp only[q1s,hu,sI]at h5;subst h5;split at h
  .rename_i c' xs l hc;split at h;·rename_i hcc;subst hcc;obtain⟨hb,h⟩:=q5n h;obtain⟨x,hx,hk⟩:=qha h;refine⟨⟨_,?_,hk⟩,by simp⟩;simp only[q1c,hu,TV.toA,TL.toA,q1a,hc,h7,hb,and_self,if_true,List.getElem?_map,hx,mS,q7d hS,List.length_map,hS.len]
   .cases h
  .cases h
 .rename_i c e c' xs he hu;obtain⟨e',h5,h6,h7⟩:=hS.elem t c he;simp only[q1s,hu,sI]at h5;subst h5;split at h;·rename_i hcc;subst hcc;obtain⟨h0,x,hx,hk⟩:=qla h;refine⟨⟨_,?_,hk⟩,by simp⟩;simp only[q1c,hu,TV.toA,TL.toA,PD.toD,leafD,h7,h0,if_true,List.getElem?_map,hx,mS,q7d hS,List.length_map,hS.len]
  .cases h
 .rename_i m e o b hu;split at h
  .rename_i sz hsz;split at h;·rename_i hb;refine⟨⟨_,?_,h⟩,by simp⟩;simp only[q1c,hu,TV.toA,TL.toA,hsz,if_pos hb]
   .cases h
  .cases h
 .rename_i m e cs hu;split at h
  .rename_i sz hsz;split at h;·rename_i hb;refine⟨⟨_,?_,h⟩,by simp⟩;simp only[q1c,hu,TV.toA,TL.toA,hsz,if_pos hb,List.map_drop]
   .cases h
  .cases h
 grind
theorem qlt{P:Program}{cs:List (Leaf S.TC S.Ty)}{off:Nat}{p:PD S}(h:partT P t cs off=some p):qcb P t (cs.map leafD) off=some p.toD:=by
 unfold partT at h;unfold qcb;split at h
 .rename_i n h1 h2;rw[h1,h2];split at h;·rename_i hle;cases h;simp only[List.length_map,hle,if_true,PD.toD,List.map_take,List.map_drop]
  .cases h
 .rename_i h1;rw[h1];split at h;·rename_i x hx;cases h;simp only[List.getElem?_map,hx,mS,PD.toD]
  .cases h
 grind
theorem y62{P:Program}{a b:Leaf S.TC S.Ty}(h:eqVT P t a b=some r):∃u v,leafD a=.v u/\leafD b=.v v/\eqV P t u v=some r:=by
 unfold eqVT at h;split at h;·rename_i a b hu;exact⟨_,_,rfl,rfl,by simp only[eqV,hu,h]⟩
 .rename_i k κ a κ' b hu;refine⟨_,_,rfl,rfl,?_⟩;simp only[eqV,hu];exact h
 .rename_i a b hu;refine⟨_,_,rfl,rfl,?_⟩;simp only[eqV,hu];exact h
 grind
theorem qmd{P:Program}{xs ys:List (Leaf S.TC S.Ty)}:∀{fs:List Field}{r:Bool},eqFsT P xs ys fs=some r->eqFs P (xs.map leafD) (ys.map leafD) fs=some r
 |[],r,h=>h|f::fs,r,h=>by
  unfold eqFsT at h;split at h;·cases h
  .rename_i hn;split at h
   .rename_i a b ha hb;split at h;·rename_i p q hp hq;cases h;obtain⟨u,v,e1,e2,e3⟩:=y62 hp;have ih:=qmd hq;unfold eqFs;rw[if_neg hn,qlt ha,qlt hb];simp only[PD.toD,e1,e2,e3,ih]
    .cases h
   grind
theorem y0a{P:Program}{op:BinOp}{xs ys:List (Leaf S.TC S.Ty)}(h:y3b P op t xs ys=some r):eqAgg P op t (xs.map leafD) (ys.map leafD)=some r:=by
 unfold y3b at h;unfold eqAgg;split at h
 .rename_i fs hu;rw[hu];simp only;split at h
  .rename_i hc;rw[if_pos hc];split at h;·rw[qmd h]
   .split at h;·rename_i b hb;cases h;rw[qmd hb]
    .cases h
   .cases h
  .cases h
 grind
theorem qth{s:TSt T.S}:∀{l:List Operand}{ps:List (Nat×Nat)},capsT T s l=some ps->qb3 T.E s.toS l=some ps
 |[],ps,h=>by simp only[capsT,sI]at h;subst h;rfl|x::r,ps,h=>by
  simp only[capsT]at h;split at h;·rename_i o a ps' h1 h2;cases h;simp only[qb3,q3e h1 (by simp),TV.toA,TL.toA,qth h2]
  grind
end Go.Ab

namespace Go.Ab
variable {fl : Flag} {q : Bool} {ty : TypeId} {op : Op}
variable {S : Sig} {β : Type} {T : TEn} {P : Program}
theorem qki{s:TSt S}{cs:List (Option S.TC)}{z:Value}{xs:List (TL S)}(h:qdc cs z=some xs):(some (.ptr s.toS.heap.length 0,{s.toS with heap:=s.toS.heap++[(q0j z).cells]}):Option (AV×St))=some ((TV.fl (.ptr s.heap.length 0):TV S).toA,TSt.toS {s with heap:=s.heap++[xs]}):=by rw[qo8 h];simp[TSt.toS,heapA,TV.toA,TL.toA]
theorem qmf(hS:T.S.Ok T.E.P){s s1:TSt T.S}{v:TV T.S}(h:qr0 T fl q ty op s=some (v,s1)):q01 T.E fl q op s.toS=some (v.toA,s1.toS):=by
 unfold qr0 at h;split at h;·exact qe5 h
 .rename_i x hx;split at h;·rename_i w hw;cases h;obtain⟨rfl,hm,hne⟩:=qea hw;cases x with|tmp t=>exact absurd rfl (hx t)|_=>simp only[q01];rw[q6a hne,hm];rfl
  .cases h
 .rename_i x;split at h
  .rename_i w hw;cases h;have key:∀{u:TV T.S},qls u=some v->moveU u.toA=some v.toA/\v=u:=fun{u}hu=>by
    obtain⟨rfl,hm,hne⟩:=qea hu;refine⟨?_,rfl⟩;have:∀y:AV,qpi y=some y->moveU y=some y:=fun y hy=>by cases y<;>first|exact hy|rfl
    exact this _ hm
   simp only[q01];unfold y3a at hw;split at hw
   .rename_i t;have e:ev T.E s.toS (.tmp t)=(getT s.env t).toA:=by show get s.toS.env t=_;rw[show s.toS.env=envA s.env from rfl,q2q]
    rw[e];split at hw;·rename_i h0;cases hw;rw[h0];rfl
    .rw[(key hw).1];rfl
   .obtain⟨rfl,hm,hne⟩:=qea hw;rw[q6a hne,(key hw).1];rfl
  .cases h
 .rename_i e;split at h
  .rename_i z hz;split at h;·rename_i cs hcs;cases h;simp only[q01,hz,mS];exact qki hcs
   .cases h
  .cases h
 .rename_i e x;split at h
  .rename_i w n hw hn;obtain⟨rfl,hm,hne⟩:=qc4 hw;obtain⟨h1,h2⟩:=qu6 _ hw;split at h
   .rename_i hc;cases h;have h3:(evT T s e x).toA.cells.length=n:=by rw[h2];exact hc
    simp only[q01,q6a hne,hm,hn];rw[if_pos h3,h1];simp[TSt.toS,heapA,TV.toA,TL.toA]
   .cases h
  .cases h
 .rename_i t parts;split at h
  .rename_i z ps hz hps;obtain⟨h1,h2⟩:=qps hps;split at h
   .rename_i hpl;split at h
    .rename_i cs0 hcs0;split at h
     .rename_i cs hcs;split at h;·rename_i w hw;cases h;have h3:=qub h1 hcs;rw[<-qft hcs0]at h3;simp only[q01,hz,h2,hpl,if_true,h3,mS,qsf hw]
      .cases h
     .cases h
    .cases h
   .cases h
  .cases h
 .rename_i t n parts;split at h
  .rename_i c e hc he;split at h
   .rename_i ps hps;split at h
    .rename_i xs hxs;split at h;·rename_i hcond;cases h;simp only[q01,he,qk7 hps,qsr hS hxs,List.length_map,q3h hS hc he,hcond,and_self,if_true,TV.toA,TL.toA]
     .cases h
    .cases h
   .cases h
  .cases h
 .rename_i x;split at h;·rename_i hv;cases h;simp only[q01,q3e hv (by simp)];rfl
  .rename_i hv;cases h;simp only[q01,q3e hv (by simp)];rfl
  .rename_i hv;split at h;·rename_i ho;cases h;have ho':=ho;rw[<-qg0,<-q1a]at ho';simp only[q01,q3e hv (by simp),TV.toA,TL.toA,ho',if_true]
   .cases h
  .rename_i hv;cases h;simp only[q01,q3e hv (by simp)];rfl
  .cases h
 .rename_i o t x;split at h
  .rename_i a ha;split at h;·rename_i r hr;cases h;obtain⟨u,w,h1,h2,h3⟩:=y5h hr;simp only[q01,q0h ha,PD.toD,h1,h2,mS,TV.toA,TL.toA,h3]
   .cases h
  .cases h
 .rename_i src dst x;split at h;·cases h
  rename_i hsrc;split at h;·rename_i h1 h2 h3;cases h;simp only[q01,if_neg hsrc,h1,h2,q0h h3,PD.toD,leafD,TV.toA,TL.toA]
  .rename_i h1 h2 h3;cases h;simp only[q01,if_neg hsrc,h1,h2,q0h h3,PD.toD,leafD,TV.toA,TL.toA]
  .cases h
 .rename_i t x i;split at h
  .rename_i off u hf;split at h
   .rename_i m hm;split at h;·rename_i hv;cases h;simp only[q01,hf,hm,q3e hv (by simp),TV.toA,TL.toA]
    .rename_i hv;cases h;simp only[q01,hf,hm,q3e hv (by simp),TV.toA,TL.toA,List.map_drop]
    .rename_i hv;split at h;·rename_i ho;cases h;have ho':=ho;rw[<-qg0,<-q1a]at ho';simp only[q01,hf,hm,q3e hv (by simp),TV.toA,TL.toA,ho',if_true]
     .cases h
    .cases h
   .cases h
  .cases h
 .rename_i t x i;split at h
  .rename_i cs off u hp hf;split at h;·rename_i y hy;cases h;simp only[q01,q0h hp,hf,PD.toD,qlt hy,mS,TV.toA,TL.toA]
   .cases h
  .cases h
 .rename_i t i;split at h
  .rename_i vs hv;have h1:get s.toS.env t=.tup (vs.map TL.toA):=by rw[show s.toS.env=envA s.env from rfl,q2q,hv];rfl
   split at h;·rename_i x hx;cases h;simp only[q01,h1,List.getElem?_map,hx,mS,TL.toA,TV.toA]
   .rename_i o a hx;cases h;simp only[q01,h1,List.getElem?_map,hx,mS,TL.toA,TV.toA]
   .rename_i hx;cases h;simp only[q01,h1,List.getElem?_map,hx,mS,TL.toA,TV.toA]
   .cases h
  .cases h
 .rename_i f first caps;split at h
  .rename_i h0;split at h;·rename_i ps hps;cases h;simp only[q01,h0,if_true,qth hps,mS,TV.toA,TL.toA]
   .cases h
  .cases h
 .rename_i args argTypes;split at h
  .rename_i x t h1 h2;split at h;·rename_i n hn;cases h;obtain⟨h3,h4⟩:=y6t hn;simp only[q01,q2m,h1,h2,q6a h4,h3,mS];rfl
   .cases h
  .cases h
 .rename_i args argTypes;split at h
  .rename_i x y h1;split at h;·rename_i κ a κ' b h2 h3;cases h;simp only[q01,q2m,h1,q0h h2,q0h h3,PD.toD,leafD,TV.toA,TL.toA]
   .cases h
  .cases h
 .rename_i args argTypes;split at h
  .rename_i x y h1;split at h;·rename_i κ a κ' b h2 h3;cases h;simp only[q01,q2m,h1,q0h h2,q0h h3,PD.toD,leafD,TV.toA,TL.toA]
   .cases h
  .cases h
 grind
theorem qrc(c:S.TC)(n:Nat)(x:S.Ty c):(List.replicate n x).map (S.enc c)=List.replicate n (S.enc c x):=by simp
theorem y0c(hS:T.S.Ok T.E.P){s:TSt T.S}{k:TV T.S->TSt T.S->Option β}{r:β}(h:stepT T fl q ty op s k=some r):Does (q01 T.E fl q op s.toS) k r:=by
 unfold stepT at h;split at h
 .rename_i t a;have hne:evT T s 0 a≠.fl .undef:=by intro e;rw[e]at h;unfold loadT at h;split at h<;>cases h
  simp only[q01];rw[q6a hne];exact y07 hS h
 .rename_i c a b;split at h
  .rename_i t hc;split at h
   .split at h;·rename_i x hx;refine⟨_,_,?_,h⟩;simp only[q01,q3e hc (by simp),TV.toA,TL.toA,PD.toD,leafD,if_true,q0h hx,mS]
    .cases h
   .split at h;·rename_i x hx;refine⟨_,_,?_,h⟩;simp only[q01,q3e hc (by simp),TV.toA,TL.toA,PD.toD,leafD,fT,if_false,q0h hx,mS]
    .cases h
  grind
 .rename_i op t x y t';split at h;·rename_i a b ha hb;obtain⟨u,v,z,h1,h2,w,h3,h4,h5⟩:=y04 h;refine⟨_,_,?_,h5⟩;simp only[q01,q0h ha,q0h hb,PD.toD,h1,h2,h3,mS,TV.toA,TL.toA,h4]
  .rename_i xs ys ha hb;split at h;·rename_i r hr;refine⟨_,_,?_,h⟩;simp only[q01,q0h ha,q0h hb,PD.toD,y0a hr,mS,TV.toA,TL.toA,leafD]
   .cases h
  grind
 .rename_i t x lo hi mx;obtain⟨v,h1,h2⟩:=qw4 hS h;refine⟨_,_,?_,h2⟩;simp only[q01,h1,mS]
 .rename_i t x i;split at h;·rename_i n hn;obtain⟨⟨w,h1,h2⟩,h3⟩:=qnk hS h;refine⟨_,_,?_,h2⟩;simp only[q01,y8q hn,q6a h3,h1,mS]
  grind
 .rename_i t x i;split at h;·rename_i n l hu hn hp;obtain⟨h0,b,hb,hk⟩:=qla h;refine⟨_,_,?_,hk⟩;simp only[q01,y8q hn,q0h hp,PD.toD,leafD,qr1,hu,h0,if_true,hb,mS,TV.toA,TL.toA]
  grind
 .rename_i t l c;split at h
  .rename_i cd e n m he hte hl hc;split at h
   .rename_i z b hz hb;split at h
    .rename_i x hx;split at h
     .rename_i hb2;obtain⟨hp,hk⟩:=q5n h;refine⟨_,_,?_,hk⟩;have h1:((q3d T.E.P e).bind fun z=>q4i (q0j z))=some (T.S.enc cd x):=by cases hz0:q3d T.E.P e with|none=>rw[hz0]at hz;cases hz|some z0=>rw[hz0]at hz;simp only[bS]at hz⊢;rw[qfa (by intro hh;rw[hh]at hz;cases hz),qfp hz,qqk hS hx]
      have h2:=q3h hS he hte [x];simp only[List.map_cons,List.map_nil]at h2;simp only[q01,hte,q0h hl,q0h hc,PD.toD,leafD,h1,hb];rw[if_pos ⟨hp.1,hp.2.1,hp.2.2,hb2,h2⟩];simp only[TV.toA,TL.toA,qrc]
     .cases h
    .cases h
   .cases h
  grind
 .rename_i args argTypes;split at h
  .rename_i x y t u h1 h2;split at h;·rename_i htu;subst htu;obtain⟨v,s1,h3,h4⟩:=qs7 hS h;refine⟨v,s1,?_,h4⟩;simp only[q01,q2m,h1,h2,if_true,h3]
   .cases h
  grind
 .rename_i args argTypes;split at h
  .rename_i x y t u h1 h2;split at h;·cases h
   .rename_i hq;obtain⟨v,s1,h3,h4⟩:=y03 hS h;refine⟨v,s1,?_,h4⟩;simp only[q01,q2m,h1,h2,if_neg hq,h3]
  grind
 .split at h
  .rename_i src dst x hsrc;split at h
   .rename_i e c xs he hd hx;split at h;·rename_i hu;obtain⟨hp,hk⟩:=q5n h;refine⟨_,_,?_,hk⟩;simp only[q01,if_pos hsrc,q89,he,hd,q0h hx,PD.toD,leafD,hu,hp,if_true,mS,TV.toA,TL.toA,y8l]
    .cases h
   .cases h
  .split at h;·rename_i v s1 hp;exact⟨v,s1,qmf hS hp,h⟩
   grind
 .split at h;·rename_i v s1 hp;exact⟨v,s1,qmf hS hp,h⟩
  grind
end Go.Ab

namespace Go.Ab
variable {p : Prop} {f : FuncId} {E : Env0} {c : Code} {s : St}
variable {S : Sig} {β : Type} {T : TEn} {P : Program}
def Le{α:Type}(a b:Option α):Prop:=∀r,a=some r->b=some r
theorem Le.to{α:Type}{a b:Option α}{r:α}(h:Le a b)(ha:a=some r):b=some r:=h r ha
theorem qlp(v:TL S):q05 v.toA=ptrsT v:=by cases v<;>rfl
theorem qjf(v:TV S):q42 v.toA=qmc v:=by
 have key:∀vs:List (TL S),(vs.map TL.toA).flatMap q05=vs.flatMap ptrsT:=by intro vs;induction vs with|nil=>rfl|cons v r ih=>simp only[List.map_cons,List.flatMap_cons,qlp,ih]
 cases v with
 |fl x=>cases x with|loc p=>cases p<;>rfl|elt p i off=>cases p<;>rfl|seg p i off=>cases p<;>rfl|_=>rfl
 |agg cs=>exact key cs|tup cs=>exact key cs
theorem qme(m:Nat)(e:TEnv S):dropE m (envA e)=envA (dropT m e):=by induction e with|nil=>rfl|cons p r ih=>
  obtain⟨k,u⟩:=p;simp only[envA,List.map_cons,dropE,dropT,qjf]at ih⊢;split;·simp_all
  .rw[ih];exact q5c _ _
theorem q4w(m:Nat)(h:THeap S):q2r m (heapA h)=q5y m h:=by simp only[q2r,q5y,heapA,<-List.map_take,List.all_map,Function.comp_def,qlp]
theorem qhn(m:Nat)(s:TSt S):trim m s.toS=(trimT m s).toS:=by
 simp only[trim,trimT,show s.toS.heap=heapA s.heap from rfl,q4w];split;·simp only[TSt.toS,qme];simp only[heapA,List.map_take]
 rfl
theorem qmy(vs:List (TL S)):(vs.map TL.toA).flatMap q05=vs.flatMap ptrsT:=by induction vs with|nil=>rfl|cons v r ih=>simp only[List.map_cons,List.flatMap_cons,qlp,ih]
theorem ya9(ρ:Nat->Nat)(v:TL S):renAV ρ v.toA=(renT ρ v).toA:=by cases v<;>rfl
theorem qh8(ρ:Nat->Nat)(vs:List (TL S)):(vs.map TL.toA).map (renAV ρ)=(vs.map (renT ρ)).map TL.toA:=by simp only[List.map_map];congr 1;funext v;exact ya9 ρ v
theorem qlk(ρ:Nat->Nat)(h:THeap S):(heapA h).map (fun cs=>cs.map (renAV ρ))=heapA (h.map fun cs=>cs.map (renT ρ)):=by simp only[heapA,List.map_map];congr 1;funext cs;exact qh8 ρ cs
theorem qwt(ρ:Nat->Nat)(v:TV S):q6y ρ v.toA=(qy0 ρ v).toA:=by cases v with|fl x=>cases x<;>rfl|agg cs=>exact congrArg AV.agg (qh8 ρ cs)|tup cs=>exact congrArg AV.tup (qh8 ρ cs)
theorem y0k(ρ:Nat->Nat)(e:TEnv S):qgk ρ (envA e)=envA (qwz ρ e):=by simp only[qgk,qwz,envA,List.map_map];congr 1;funext p;simp only[Function.comp_def,qwt]
theorem qve(s:TSt S)(o:Nat):qac s.toS o=qs2 s o:=by simp only[qac,qs2,TSt.toS,envA,heapA,List.all_map,Function.comp_def,qjf,qlp]
theorem qpf(h:THeap S)(o:Nat):(heapA h).getD o []=(h.getD o []).map TL.toA:=by simp only[List.getD_eq_getElem?_getD,heapA,List.getElem?_map];cases h[o]?<;>rfl
theorem qqx(o' o0:Nat)(s:TSt S):qhp o' o0 s.toS=(qie o' o0 s).toS:=by simp only[qhp,qie,TSt.toS,qhj,y0k,qpf];congr 1;rw[<-qlk];congr 1;simp only[heapA,List.map_take,List.map_set]
theorem y4s(o:Nat)(v:TV S):ptrTo o v.toA=y1q o v:=by cases v with|fl x=>cases x<;>rfl|_=>rfl
theorem qjk(k:Nat)(s:TSt S):∀m,qd7 k s.toS m=qcz k s m|0=>rfl|m+1=>by simp only[qd7,qcz,qve,qjk k s m,show s.toS.heap=heapA s.heap from rfl,qpf,List.length_map];simp only[heapA,List.length_map]
theorem qq3(k m:Nat):∀(n:Nat)(s:TSt S),regain k m n s.toS=(qrp k m n s).toS
 |0,_=>rfl|n+1,s=>by
  have e1:s.toS.heap.length=s.heap.length:=by simp[TSt.toS,heapA]
  have e2:(s.toS.env.any fun p=>ptrTo (s.heap.length-1) p.2)=s.env.any fun p=>y1q (s.heap.length-1) p.2:=by simp only[TSt.toS,envA,List.any_map,Function.comp_def,y4s]
  simp only[regain,qrp,e1,e2,qjk,qqx];split;·cases qcz k s m with|none=>rfl|some o0=>exact qq3 k m n _
  rfl
theorem qut(k m:Nat)(s:TSt S):endRound k m s.toS=(qmi k m s).toS:=by simp only[endRound,qmi,qq3,qhn]
theorem qmz(h:THeap S):∀(l:List Nat),q4e (heapA h) l=(qgf h l).map heapA|[]=>rfl|o::r=>by simp only[q4e,qgf,ql7,qmz h r];cases h[o]? with|none=>rfl|some cs=>cases qgf h r with|none=>rfl|some hs=>rfl
theorem qg2:∀(os:List Nat)(h hb:THeap S),q25 (heapA h) os (heapA hb)=heapA (qdh h os hb)|[],h,hb=>by cases hb<;>rfl|o::os,h,[]=>rfl|o::os,h,cs::r=>by have:=qg2 os (h.set o cs) r;simp only[qdh,<-this];simp only[heapA,List.map_cons,q25,List.map_set]
theorem qzu(s:TSt S)(objs:List Nat)(h':THeap S):q4c s.toS objs (heapA h')=(qwx s objs h').toS:=by
 have hl:s.toS.heap.length=s.heap.length:=by simp[TSt.toS,heapA]
 simp only[q4c,qwx,TSt.toS,qjp,St.mk.injEq,true_and];rw[show(heapA s.heap).length=s.heap.length by simp[heapA],qlk,qg2];rw[show(heapA h').drop objs.length=heapA (h'.drop objs.length)by simp[heapA,List.map_drop],qlk];simp[heapA]
theorem qx0(vs:List (TL S)):q0o (vs.map TL.toA)=(ql8 vs).toA:=by match vs with|[]=>rfl|[v]=>rfl|v::w::r=>rfl
theorem y4o(ρ:Nat->Nat)(v:TV S):qav ρ v.toA=(y27 ρ v).toA:=by cases v with|fl x=>cases x<;>rfl|tup us=>exact congrArg AV.tup (qh8 ρ us)|agg us=>rfl
theorem y2m(keep:Bool)(k:Nat)(v:TV S)(h:THeap S):q7v keep k (v.toA,heapA h)=((qq4 keep k v h).1.toA,heapA (qq4 keep k v h).2):=by
 have same:∀v:TV S,(∀o,v≠.fl (.ref o))->(∀o p,v≠.tup [.ref o,.ref p])->q7v keep k (v.toA,heapA h)=(v.toA,heapA h):=by intro v hv hv2;cases v with
  |fl x=>cases x<;>first|rfl|exact absurd rfl (hv _)
  |tup vs=>match vs with
   |[]=>rfl|[x]=>cases x<;>rfl|[x,y]=>cases x<;>cases y<;>first|rfl|exact absurd rfl (hv2 _ _)
   |x::y::z::r=>cases x<;>cases y<;>rfl
  |_=>rfl
 unfold qq4;split
 .rename_i o;have e:q7v keep k ((TV.fl (TL.ref o):TV S).toA,heapA h)=if decide (o=k)&&q5y k h then match(heapA h).drop k with|[[.own xs false]]=>(if keep then AV.own xs false else .d (.list xs),(heapA h).take k)|_=>((TV.fl (TL.ref o):TV S).toA,heapA h)else((TV.fl (TL.ref o):TV S).toA,heapA h):=by rw[<-q4w];rfl
  rw[e];split
  .have hd:(heapA h).drop k=heapA (h.drop k):=by simp[heapA,List.map_drop]
   have ht:(heapA h).take k=heapA (h.take k):=by simp[heapA,List.map_take]
   rw[hd,ht];generalize h.drop k=r;rcases r with _|⟨cs,r⟩;·rfl
   .rcases r with _|⟨cs2,r⟩
    .rcases cs with _|⟨x,cs⟩;·rfl
     .rcases cs with _|⟨y,cs⟩;·cases x with|own c ys l=>cases l<;>cases keep<;>rfl|_=>rfl
      .cases x with|own c ys l=>cases l<;>rfl|_=>rfl
    .rcases cs with _|⟨x,cs⟩;·rfl
     .rcases cs with _|⟨y,cs⟩;·cases x with|own c ys l=>cases l<;>rfl|_=>rfl
      .cases x with|own c ys l=>cases l<;>rfl|_=>rfl
  .rfl
 .rename_i o p;have e:q7v keep k ((TV.tup [TL.ref o,TL.ref p]:TV S).toA,heapA h)=if decide (o=k)&&q5y k h then match(heapA h).drop k with|[[.own xs false]]=>(if keep then AV.agg [.own xs false]else .d (.agg [.list xs]),(heapA h).take k)|_=>(AV.undef,heapA h)else(AV.undef,heapA h):=by rw[<-q4w];rfl
  rw[e];split
  .have hd:(heapA h).drop k=heapA (h.drop k):=by simp[heapA,List.map_drop]
   have ht:(heapA h).take k=heapA (h.take k):=by simp[heapA,List.map_take]
   rw[hd,ht];generalize h.drop k=r;rcases r with _|⟨cs,r⟩;·rfl
   .rcases r with _|⟨cs2,r⟩
    .rcases cs with _|⟨x,cs⟩;·rfl
     .rcases cs with _|⟨y,cs⟩;·cases x with|own c ys l=>cases l<;>cases keep<;>rfl|_=>rfl
      .cases x with|own c ys l=>cases l<;>rfl|_=>rfl
    .rcases cs with _|⟨x,cs⟩;·rfl
     .rcases cs with _|⟨y,cs⟩;·cases x with|own c ys l=>cases l<;>rfl|_=>rfl
      .cases x with|own c ys l=>cases l<;>rfl|_=>rfl
  .rfl
 simp_all
theorem qvq{α:Type} [Decidable p]{x y:α}(h:(if p then some x else none)=some y):p/\x=y:=by simp_all
theorem qtm{α:Type} [Decidable p]{x:Option α}{y:α}(h:(if p then x else none)=some y):p/\x=some y:=by simp_all
theorem y69:∀{k:LK S.TC}{x:Leaf S.TC S.Ty}{y:k.Ty S},k.of x=some y->k.mk y=x|.i κ,.i κ' n,y,h=>by have h':(if κ'=κ then some n else(none:Option Int))=some (y:Int):=h;obtain⟨rfl,rfl⟩:=qvq h';rfl|.b,.b x,y,h=>by have h':some x=some (y:Bool):=h;cases h';rfl|.s,.s x,y,h=>by have h':some x=some (y:List UInt8):=h;cases h';rfl|.l c,x,y,h=>by have h':qce c x=some (y:List (S.Ty c)):=h;exact(q7f h').symm|.i _,.b _,_,h|.i _,.s _,_,h|.i _,.l ..,_,h|.i _,.o _,_,h|.b,.i ..,_,h|.b,.s _,_,h|.b,.l ..,_,h|.b,.o _,_,h|.s,.i ..,_,h|.s,.b _,_,h|.s,.l ..,_,h|.s,.o _,_,h=>by cases h
theorem yaf(hS:S.Ok P){c:S.TC}{y:PD S}{z:S.Ty c}(h:ofPD c y=some z):(TL.d (packT (S.agg c) (S.cells c z)):TL S).toA=(TL.d y).toA:=by show AV.d (packT (S.agg c) (S.cells c z)).toD=AV.d y.toD;rw[<-hS.enc_eq,qqk hS h]
theorem y5x(hS:S.Ok P){c:S.TC}{x y:S.Ty c}(h:(TL.d (packT (S.agg c) (S.cells c x)):TL S).toA=(TL.d (packT (S.agg c) (S.cells c y))).toA):x=y:=by have h':AV.d (packT (S.agg c) (S.cells c x)).toD=AV.d (packT (S.agg c) (S.cells c y)).toD:=h;injection h' with h';rw[<-hS.enc_eq,<-hS.enc_eq]at h';exact hS.inj c _ _ h'
theorem of_mk(hS:S.Ok P):∀{a:OT S}{v:TL S}{x:a.Ty},a.of v=some x->(a.mk x).toA=v.toA
 |.lf k,.d (.lf y),x,h=>by have h':k.of y=some (x:k.Ty S):=h;show(TL.d (.lf (k.mk x))).toA=_;rw[y69 h']|.own c l,.own c' xs l',x,h=>by have h':(if l'=l then qce c (.l c' xs)else none)=some (x:List (S.Ty c)):=h;obtain⟨rfl,h2⟩:=qtm h';cases q7f h2;rfl|.ag c,.d y,x,h=>yaf hS (z:=x) h|.ptr o off,.ptr o' off',x,h=>by have h':(if o'=o/\off'=off then some ()else none)=some (x:Unit):=h;obtain⟨⟨rfl,rfl⟩,_⟩:=qvq h';rfl|.fn f cs,.fn f' cs',x,h=>by have h':(if f'=f/\cs'=cs then some ()else none)=some (x:Unit):=h;obtain⟨⟨rfl,rfl⟩,_⟩:=qvq h';rfl|.ref o,.ref o',x,h=>by
  have h':(if o'=o then some ()else none)=some (x:Unit):=h;split at h';·rename_i e;subst e;rfl
  simp_all|.undef,.undef,x,h=>rfl|.undef,.ref _,_,h|.undef,.skipped,_,h|.undef,.d _,_,h|.undef,.own ..,_,h|.undef,.loc _,_,h|.undef,.elt ..,_,h|.undef,.seg ..,_,h|.undef,.ptr ..,_,h|.undef,.view _,_,h|.undef,.fn ..,_,h=>by cases h|.ref _,.undef,_,h|.ref _,.skipped,_,h|.ref _,.d _,_,h|.ref _,.own ..,_,h|.ref _,.loc _,_,h|.ref _,.elt ..,_,h|.ref _,.seg ..,_,h|.ref _,.ptr ..,_,h|.ref _,.view _,_,h|.ref _,.fn ..,_,h=>by cases h|.lf _,.ref _,_,h|.own ..,.ref _,_,h|.ag _,.ref _,_,h|.ptr ..,.ref _,_,h|.fn ..,.ref _,_,h=>by cases h|.lf _,.undef,_,h|.lf _,.skipped,_,h|.lf _,.d (.ag _),_,h|.lf _,.own ..,_,h|.lf _,.loc _,_,h|.lf _,.elt ..,_,h|.lf _,.seg ..,_,h|.lf _,.ptr ..,_,h|.lf _,.view _,_,h|.lf _,.fn ..,_,h=>by cases h|.own ..,.undef,_,h|.own ..,.skipped,_,h|.own ..,.d _,_,h|.own ..,.loc _,_,h|.own ..,.elt ..,_,h|.own ..,.seg ..,_,h|.own ..,.ptr ..,_,h|.own ..,.view _,_,h|.own ..,.fn ..,_,h=>by cases h|.ag _,.undef,_,h|.ag _,.skipped,_,h|.ag _,.own ..,_,h|.ag _,.loc _,_,h|.ag _,.elt ..,_,h|.ag _,.seg ..,_,h|.ag _,.ptr ..,_,h|.ag _,.view _,_,h|.ag _,.fn ..,_,h=>by cases h|.ptr ..,.undef,_,h|.ptr ..,.skipped,_,h|.ptr ..,.d _,_,h|.ptr ..,.own ..,_,h|.ptr ..,.loc _,_,h|.ptr ..,.elt ..,_,h|.ptr ..,.seg ..,_,h|.ptr ..,.view _,_,h|.ptr ..,.fn ..,_,h=>by cases h|.fn ..,.undef,_,h|.fn ..,.skipped,_,h|.fn ..,.d _,_,h|.fn ..,.own ..,_,h|.fn ..,.loc _,_,h|.fn ..,.elt ..,_,h|.fn ..,.seg ..,_,h|.fn ..,.ptr ..,_,h|.fn ..,.view _,_,h=>by cases h
theorem qpo(hS:S.Ok P):∀{l:List (OT S)}{vs:List (TL S)}{x:Prods l},qgv l vs=some x->(vals l x).map TL.toA=vs.map TL.toA|[],[],_,_=>rfl|[],_::_,x,h=>by have h':(none:Option (Prods ([]:List (OT S))))=some x:=h;grind|[a],[v],x,h=>by have h':a.of v=some (x:a.Ty):=h;show [(a.mk x).toA]=[v.toA];rw[of_mk hS h']|[a],[],x,h=>by have h':(none:Option (Prods [a]))=some x:=h;grind|[a],_::_::_,x,h=>by have h':(none:Option (Prods [a]))=some x:=h;grind|a::b::r,[],x,h=>by have h':(none:Option (Prods (a::b::r)))=some x:=h;grind|a::b::r,v::w,x,h=>by have h':(match a.of v,qgv (b::r) w with|some x,some xs=>some (x,xs)|_,_=>(none:Option (a.Ty×Prods (b::r))))=some (x:a.Ty×Prods (b::r)):=h;cases h1:a.of v with|none=>simp_all|some y=>cases h2:qgv (b::r) w with|none=>simp_all|some ys=>rw[h1,h2]at h';cases h';show(a.mk y).toA::(vals (b::r) ys).map TL.toA=_;rw[of_mk hS h1,qpo hS h2];rfl
theorem qfd:∀(l:List (OT S))(x:Prods l),(vals l x).length=l.length|[],_=>rfl|[_],_=>rfl|a::b::r,x=>by simp only[vals,List.length_cons,qfd (b::r) x.2]
theorem qg9:∀(ns:List Nat)(l l':List (TL S)),l.map TL.toA=l'.map TL.toA->heapA (q4k ns l)=heapA (q4k ns l')
 |[],_,_,_=>rfl|n::r,l,l',h=>by
  simp only[q4k,heapA,List.map_cons]at*;have h1:(l.take n).map TL.toA=(l'.take n).map TL.toA:=by simp only[List.map_take,h]
  have h2:(l.drop n).map TL.toA=(l'.drop n).map TL.toA:=by simp only[List.map_drop,h]
  rw[h1];have:=qg9 r _ _ h2;simp only[heapA]at this;grind
theorem q94:∀(h:THeap S),q4k (h.map List.length) h.flatten=h|[]=>rfl|cs::r=>by simp only[List.map_cons,q4k,List.flatten_cons,List.take_left,List.drop_left,q94 r]
theorem q8o:∀(ns:List Nat)(l:List (TL S)),(q4k ns l).flatten=l.take ns.sum|[],l=>by rfl|n::r,l=>by simp only[q4k,List.flatten_cons,q8o r,List.sum_cons,List.take_add]
theorem qrx(hS:S.Ok P){o:OSpec S}{vs:List (TL S)}{hp:THeap S}{x:o.Out}(hv:vs.length=o.res.length)(hl:hp.map List.length=o.heap.map List.length)(h:qgv o.all (vs++hp.flatten)=some x):q0o ((resOf o x).map TL.toA)=q0o (vs.map TL.toA)/\heapA (q2t o x)=heapA hp:=by
 have h1:=qpo hS h;constructor;·congr 1;simp only[resOf,List.map_take,h1,<-hv];simp
 .simp only[q2t];rw[<-hl];rw[qg9 (hp.map List.length) ((vals o.all x).drop o.res.length) hp.flatten (by simp_all),q94]
theorem ybz(hS:S.Ok P):∀{k:LK S.TC}{x y:k.Ty S},leafD (k.mk x)=leafD (k.mk y)->x=y|.i κ,x,y,h=>by have h':D.v (.int κ (x:Int))=D.v (.int κ (y:Int)):=h;grind|.b,x,y,h=>by have h':D.v (.bool (x:Bool))=D.v (.bool (y:Bool)):=h;grind|.s,x,y,h=>by have h':D.v (.string ⟨⟨(x:List UInt8)⟩⟩)=D.v (.string ⟨⟨(y:List UInt8)⟩⟩):=h;grind|.l c,x,y,h=>by have h':D.list ((x:List (S.Ty c)).map (S.enc c))=D.list ((y:List (S.Ty c)).map (S.enc c)):=h;injection h' with h';exact(List.map_inj_right (fun a b hab=>hS.inj c a b hab)).1 h'
theorem y90(hS:S.Ok P):∀{a:OT S}{x y:a.Ty},(a.mk x).toA=(a.mk y).toA->x=y|.lf k,x,y,h=>by have h':AV.d (leafD (k.mk x))=AV.d (leafD (k.mk y)):=h;injection h' with h';exact ybz hS h'|.own c l,x,y,h=>by have h':AV.own ((x:List (S.Ty c)).map (S.enc c)) l=AV.own ((y:List (S.Ty c)).map (S.enc c)) l:=h;injection h' with h';exact(List.map_inj_right (fun a b hab=>hS.inj c a b hab)).1 h'|.ag c,x,y,h=>y5x hS (x:=x) (y:=y) h|.ptr ..,_,_,_=>rfl|.fn ..,_,_,_=>rfl|.ref _,_,_,_=>rfl|.undef,_,_,_=>rfl
theorem qze(hS:S.Ok P):∀{l:List (OT S)}{x y:Prods l},(vals l x).map TL.toA=(vals l y).map TL.toA->x=y|[],_,_,_=>rfl|[a],x,y,h=>by simp only[vals,List.map_cons,List.map_nil,List.cons.injEq,and_true]at h;exact y90 hS h|a::b::r,x,y,h=>by simp only[vals,List.map_cons,List.cons.injEq]at h;exact Prod.ext (y90 hS h.1) (qze hS h.2)
theorem qv7{vs ws:List AV}(hl:vs.length=ws.length)(h:q0o vs=q0o ws):vs=ws:=by match vs,ws,hl with|[],[],_=>rfl|[v],[w],_=>simp only[q0o]at h;rw[h]|v::v'::r,w::w'::r',_=>simpa[q0o]using h
theorem y2d(hS:S.Ok P){o:OSpec S}{x y:o.Out}(h1:q0o ((resOf o x).map TL.toA)=q0o ((resOf o y).map TL.toA))(h2:heapA (q2t o x)=heapA (q2t o y)):x=y:=by
 apply qze hS (l:=o.all);have hx:=qfd o.all x;have hy:=qfd o.all y;have h3:=qv7 (by simp[resOf,hx,hy]) h1;have h4:((vals o.all x).drop o.res.length).map TL.toA=((vals o.all y).drop o.res.length).map TL.toA:=by
  have:=congrArg List.flatten h2;simp only[heapA,q2t]at this;have key:∀l:List (TL S),l.length=o.heap.flatten.length->((q4k (o.heap.map List.length) l).map fun cs=>cs.map TL.toA).flatten=l.map TL.toA:=by intro l hl;rw[<-List.map_flatten,q8o,List.take_of_length_le (by rw[hl,List.length_flatten];exact Nat.le_refl _)]
  rw[key _ (by rw[List.length_drop,hx];simp[OSpec.all]),key _ (by rw[List.length_drop,hy];simp[OSpec.all])]at this;omega
 rw[<-List.take_append_drop o.res.length (vals o.all x),<-List.take_append_drop o.res.length (vals o.all y),List.map_append,List.map_append,h4];simp only[resOf]at h3;rw[h3]
theorem qcy{vs:List (TL T.S)}{hs:THeap T.S}{o:OSpec T.S}{x:o.Out}(h:callC T f vs hs o=some x):CSem T f vs hs o x:=by
 unfold callC at h;split at h;·rename_i hx;cases h;exact hx.choose_spec
 grind
theorem ql9(hS:T.S.Ok T.E.P){vs:List (TL T.S)}{hs:THeap T.S}{o:OSpec T.S}{x:o.Out}(h:CSem T f vs hs o x):callC T f vs hs o=some x:=by unfold callC;have hx:∃x,CSem T f vs hs o x:=⟨x,h⟩;rw[dif_pos hx];congr 1;obtain⟨m,h1⟩:=hx.choose_spec;obtain⟨m',h2⟩:=h;have h3:=qcd h1 (Nat.le_max_left m m');have h4:=qcd h2 (Nat.le_max_right m m');rw[h3]at h4;simp only[sI,pI]at h4;exact y2d hS h4.1 h4.2
theorem y17{n m k:Nat}{q q':Ex×St}(h:exec E f k n c s=some q)(h':exec E f k m c s=some q'):q=q':=by have h1:=qae h (Nat.le_max_left n m);have h2:=qae h' (Nat.le_max_right n m);simp_all
theorem q4u{E:Env0}{f:FuncId}{n m k:Nat}(hle:n<=m):∀{K:List Fr}{ex:Ex}{s:St}{q:Ex×St},unw E f k n K ex s=some q->unw E f k m K ex s=some q
 |[],ex,s,q,h=>h|.seq b::K,ex,s,q,h=>by cases ex with
  |normal=>
   simp only[unw]at h⊢;split at h;·rename_i e1 s1 h1;rw[qae h1 hle];exact q4u hle h
   grind|_=>simp only[unw]at h⊢;exact q4u hle h
 |.block id m::K,ex,s,q,h=>by cases ex with|exit i=>
   simp only[unw]at h⊢;split at h;·rename_i hi;rw[if_pos hi];exact q4u hle h
   .rename_i hi;rw[if_neg hi];exact q4u hle h|_=>simp only[unw]at h⊢;exact q4u hle h
 |.loop b m::K,ex,s,q,h=>by cases ex with
  |normal=>
   simp only[unw]at h⊢;split at h;·rename_i e1 s1 h1;rw[qae h1 hle];exact q4u hle h
   grind|_=>simp only[unw]at h⊢;exact q4u hle h
theorem qr5{E:Env0}{f:FuncId}{k n:Nat}:∀(K:List Fr)(s:St),unw E f k n K .ret s=some (.ret,s)|[],_=>rfl|.seq _::K,s=>by simp only[unw];exact qr5 K s|.block _ _::K,s=>by simp only[unw];exact qr5 K s|.loop _ _::K,s=>by simp only[unw];exact qr5 K s
theorem Goes.uniq{F:Fx}{K:List Fr}{q q':AV×Heap}(h:Goes E F c K s q)(h':Goes E F c K s q'):q=q':=by obtain⟨n,ex,s1,ex',s2,h1,h2,h3⟩:=h;obtain⟨m,fx,t1,fx',t2,g1,g2,g3⟩:=h';have:=y17 h1 g1;cases this;have u1:=q4u (Nat.le_max_left n m) h2;have u2:=q4u (Nat.le_max_right n m) g2;simp_all
theorem qqh{F:Fx}{o:OSpec T.S}{K:List Fr}{s:TSt T.S}{x:o.Out}(h:goC T F o c K s=some x):BSem T F o c K s x:=by
 unfold goC at h;split at h;·rename_i hx;cases h;exact hx.choose_spec
 grind
theorem ybg(hS:T.S.Ok T.E.P){F:Fx}{o:OSpec T.S}{K:List Fr}{s:TSt T.S}{x:o.Out}(h:BSem T F o c K s x):goC T F o c K s=some x:=by unfold goC;have hx:∃x,BSem T F o c K s x:=⟨x,h⟩;rw[dif_pos hx];congr 1;have:=Goes.uniq hx.choose_spec h;simp only[pI]at this;exact y2d hS this.1 this.2
end Go.Ab

namespace Go.Ab
variable {r : Rule} {dst : Option Nat} {m n t u : Nat} {x : Operand} {o : Oper} {ops : Array Oper} {s s1 : St} {E : Env0} {f : FuncId} {b c : Code} {fn : Func}
variable {S : Sig} {β : Type} {T : TEn} {P : Program}
def Runs(A:Nat->Option St)(k:TSt S->Option β)(x:β):Prop:=∃n s1,A n=some (TSt.toS s1)/\k s1=some x
theorem qp5{h:FuncId}{vs:List (TL T.S)}{s:TSt T.S}{k:TSt T.S->Option β}{x:β}(hh:callT T r h vs dst s k=some x):Runs (fun n=>callA T.E r n h (vs.map TL.toA) dst s.toS) k x:=by
 unfold callT at hh;split at hh;·grind
 .rename_i objs ho;split at hh
  .rename_i hm;split at hh
   .rename_i hs hhs;split at hh
    .rename_i y hy;split at hh;·cases hh
     .rename_i hd;obtain⟨m,hc⟩:=qcy hy;refine⟨m+1,_,?_,hh⟩;have hl:s.toS.heap.length=s.heap.length:=by simp[TSt.toS,heapA]
      simp only[callA,qmy,show s.toS.heap=heapA s.heap from rfl,show(heapA s.heap).length=s.heap.length by simp[heapA],ho,hm,if_true,qmz,hhs,mS,qh8,qlk,hc,qx0,y2m];have hlen:∀q:THeap T.S,(heapA q).length=q.length:=fun q=>by simp[heapA]
      rw[hlen,if_neg hd,y4o,qzu,qi0]
    .cases hh
   .cases hh
  grind
theorem qyn{s:TSt T.S}{t:TypeId}{v:TL T.S}(h:argT T s t x=some v):argOf T.E s.toS x=some v.toA:=by
 unfold argT at h;have key:∀{p:PD T.S},q1t T s t x=some p->argOf T.E s.toS x=some (AV.d p.toD):=by
  intro p hp;have h1:=q0h hp;simp only[argOf];split;·rename_i o a hv;cases x with|const c=>have h2:q0j c=AV.ptr o a:=hv;have h3:plainC T.E s.toS (.const c)=q4i (q0j c):=rfl;rw[h3,h2]at h1;cases h1|_=>simp only[plainC,hv,plain]at h1;cases h1
  .rename_i o a hv;cases x with|const c=>have h2:q0j c=AV.fn o a:=hv;have h3:plainC T.E s.toS (.const c)=q4i (q0j c):=rfl;rw[h3,h2]at h1;cases h1|_=>simp only[plainC,hv,plain]at h1;cases h1
  .rename_i a hv;cases x with|const c=>have h2:q0j c=AV.view a:=hv;have h3:plainC T.E s.toS (.const c)=q4i (q0j c):=rfl;rw[h3,h2]at h1;cases h1|_=>simp only[plainC,hv,plain]at h1;cases h1
  .rename_i a hv;cases x with|const c=>have h2:q0j c=AV.ref a:=hv;have h3:plainC T.E s.toS (.const c)=q4i (q0j c):=rfl;rw[h3,h2]at h1;cases h1|_=>simp only[plainC,hv,plain]at h1;cases h1
  grind
 split at h;·rename_i hv;cases h;simp only[argOf,q3e hv (by simp)];rfl
 .rename_i hv;cases h;simp only[argOf,q3e hv (by simp)];rfl
 .rename_i hv;cases h;simp only[argOf,q3e hv (by simp)];rfl
 .rename_i hv;cases h;simp only[argOf,q3e hv (by simp)];rfl
 .split at h;·rename_i p hp;cases h;exact key hp
  grind
theorem qug{s:TSt T.S}:∀{l:List Operand}{ts:List TypeId}{vs:List (TL T.S)},argsT T s ts l=some vs->qaw T.E s.toS l=some (vs.map TL.toA)
 |[],ts,vs,h=>by simp only[argsT,sI]at h;subst h;rfl|x::r,ts,vs,h=>by
  simp only[argsT]at h;split at h;·rename_i v vs' h1 h2;cases h;simp only[qaw,qyn h1,qug h2,List.map_cons]
  grind
def ownL:TL S->List D|.own c xs _=>xs.map (S.enc c)|_=>[]
theorem qjt{s:TSt S}(x:Operand):Ab.shareOf s.toS x=(q7z s x).map fun p=>(p.1,ownL p.2):=by cases x with
 |tmp u=>simp only[Ab.shareOf,q7z,show s.toS.env=envA s.env from rfl,q2q];generalize getT s.env u=v;cases v with
  |fl y=>cases y with
   |own c xs l=>cases l<;>rfl|loc p=>cases p with
    |slot t=>simp only[TV.toA,TL.toA];generalize getT s.env t=w;cases w with
     |fl z=>cases z with|own c xs l=>cases l<;>rfl|_=>rfl
     |_=>rfl
    |cell o off=>rfl
   |_=>rfl
  |_=>rfl
 |_=>rfl
theorem qum{s:TSt S}{v:TL S}(h:q7z s x=some (u,v)):∃c xs,v=.own c xs false:=by unfold q7z at h;grind
theorem qoo{s:TSt S}(x:Operand):Ab.shareCell s.toS x=(q6p s x).map fun p=>(p.1,p.2.1,p.2.2.1,ownL p.2.2.2):=by cases x with
 |tmp u=>simp only[Ab.shareCell,q6p,show s.toS.env=envA s.env from rfl,q2q,show s.toS.heap=heapA s.heap from rfl];generalize getT s.env u=v;cases v with
  |fl y=>cases y with
   |loc p=>cases p with|slot t=>rfl|cell o off=>simp only[TV.toA,TL.toA,q4r];generalize cellT s.heap o off=w;cases w with|own c xs l=>cases l<;>rfl|_=>rfl
   |_=>rfl
  |_=>rfl
 |_=>rfl
theorem qoc{s:TSt S}{o off:Nat}{v:TL S}(h:q6p s x=some (u,o,off,v)):∃c xs,v=.own c xs false:=by unfold q6p at h;grind
theorem qnl(s:TSt S)(x:Operand):Ab.cellShared s.toS x=qf8 s x:=by cases x with
 |tmp u=>simp only[Ab.cellShared,qf8,show s.toS.env=envA s.env from rfl,q2q];generalize getT s.env u=v;cases v with
  |fl y=>cases y with|loc p=>cases p<;>rfl|_=>rfl
  |_=>rfl
 |_=>rfl
theorem qe6(s:TSt S)(l:List Operand):q4y s.toS l=qdo s l:=by unfold q4y qdo;congr 1;funext x;rw[qjt,qnl];cases q7z s x<;>rfl
theorem qdz:∀{l:List Operand}{s s1:TSt T.S}{ts:List TypeId}{vs:List (TL T.S)}{sh:List (Nat×Nat)},q6r T s ts l=some (vs,s1,sh)->q52 T.E s.toS l=some (vs.map TL.toA,s1.toS,sh)|[],s,s1,ts,vs,sh,h=>by simp only[q6r,sI,pI]at h;obtain⟨rfl,rfl,rfl⟩:=h;rfl|x::r,s,s1,ts,vs,sh,h=>by simp only[q6r]at h;cases h1:qo6 T s (ts.headD 0) x with|none=>grind|some q=>obtain⟨v,s2,l0⟩:=q;simp only[h1]at h;cases h2:q6r T s2 ts.tail r with|none=>grind|some q2=>
    obtain⟨vs',s3,l'⟩:=q2;simp only[h2,sI,pI]at h;obtain⟨rfl,rfl,rfl⟩:=h;have one:qh5 T.E s.toS x=some (v.toA,s2.toS,l0):=by unfold qo6 at h1;unfold qh5;rw[qjt];cases hs:q7z s x with
     |none=>rw[hs]at h1;simp only at h1;rw[qoo];cases hsc:q6p s x with|some p=>obtain⟨u,o,off,w⟩:=p;obtain⟨c,xs,rfl⟩:=qoc hsc;rw[hsc]at h1;simp only[sI,pI]at h1;obtain⟨rfl,rfl,rfl⟩:=h1;have e1:q0n (envA s.env)=envA (killT s.env):=qhj s.env;have e2:q0z (heapA s.heap) o off .undef=heapA (qdm s.heap o off .undef):=qem s.heap o off .undef;simp only[Option.map_none,mS,ownL,show s.toS.env=envA s.env from rfl,show s.toS.heap=heapA s.heap from rfl,e1,e2];simp only[TSt.toS,heapA,List.length_map,List.map_append,List.map_cons,List.map_nil,TL.toA]|none=>rw[hsc]at h1;simp only at h1;cases ha:argT T s (ts.headD 0) x with|none=>grind|some w=>rw[ha]at h1;simp only[sI,pI]at h1;obtain⟨rfl,rfl,rfl⟩:=h1;simp only[Option.map_none,qyn ha]
     |some p=>obtain⟨u,w⟩:=p;obtain⟨c,xs,rfl⟩:=qum hs;rw[hs]at h1;simp only[sI,pI]at h1;obtain⟨rfl,rfl,rfl⟩:=h1;have e1:putE (envA s.env) u .undef=envA (putT s.env u (.fl .undef)):=qcr s.env u (.fl .undef);simp only[mS,ownL,e1,TSt.toS,heapA,List.length_map,List.map_append,List.map_cons,List.map_nil,TL.toA]
    simp only[q52,one,qdz h2,List.map_cons]
theorem qtd(o:Nat)(v:TV S):qx2 o v.toA=qzd o v:=by cases v with|fl y=>cases y<;>rfl|_=>rfl
theorem qx4{o:Nat}{s:TSt S}:qxt dst o t s.toS=qx5 dst o t s:=by cases dst with|none=>rfl|some d=>simp only[qxt,qx5,show s.toS.env=envA s.env from rfl,q2q,qtd]
theorem qng{o:Nat}{s s1:TSt S}(h:qfq dst o t s=some s1):q5k dst o t s.toS=some s1.toS:=by
 unfold qfq at h;split at h
 .rename_i c xs d hcs hho;split at h
  .rename_i hc;cases h;have e0:s.toS.heap[o]?=some [.own (xs.map (S.enc c)) false]:=by show(heapA s.heap)[o]?=_;simp only[heapA,List.getElem?_map,hcs,mS,List.map_cons,List.map_nil,TL.toA]
   have e1:s.toS.heap.length=o+1:=by show(heapA s.heap).length=_;simp[heapA,hc.1]
   have e2:q2r o s.toS.heap=true:=by rw[show s.toS.heap=heapA s.heap from rfl,q4w];exact hc.2
   have e3:putE (dropE o (q0n (envA s.env))) d (.own (xs.map (S.enc c)) false)=envA (putT (dropT o (killT s.env)) d (.fl (.own c xs false))):=by rw[qhj,qme];exact qcr _ d (.fl (.own c xs false))
   simp only[q5k,e0,qx4,hho,e1,e2,and_self,if_true];rw[show s.toS.env=envA s.env from rfl,e3];simp only[TSt.toS,heapA,List.map_take]
  grind
 .rename_i hcs;split at h
  .rename_i hc;cases h;have e0:s.toS.heap[o]?=some [.undef]:=by show(heapA s.heap)[o]?=_;simp only[heapA,List.getElem?_map,hcs,mS,List.map_cons,List.map_nil,TL.toA]
   have e1:s.toS.heap.length=o+1:=by show(heapA s.heap).length=_;simp[heapA,hc.1]
   have e2:q2r o s.toS.heap=true:=by rw[show s.toS.heap=heapA s.heap from rfl,q4w];exact hc.2
   have e3:dropE o (envA s.env)=envA (dropT o s.env):=by rw[qme]
   simp only[q5k,e0,e1,e2,and_self,if_true];rw[show s.toS.env=envA s.env from rfl,e3];simp only[TSt.toS,heapA,List.map_take]
  grind
 grind
theorem qju{dst:Option Nat}:∀{l:List (Nat×Nat)}{s s1:TSt S},qdd dst l s=some s1->unshare dst l s.toS=some s1.toS|[],s,s1,h=>by simp only[qdd,sI]at h;subst h;rfl|(o,t)::r,s,s1,h=>by simp only[qdd]at h;cases h1:qdd dst r s with|none=>grind|some s2=>simp only[h1]at h;simp only[unshare,qju h1,qng h]
theorem y0u{j:Nat}{want:Bool}(hg:o.guard=some (j,want))(ht:(ops[j]?).bind (·.dst)=some t):q17 ops s o=match get s.env t with|.d (.v (.bool b))=>some (b==want)|.skipped=>some false|_=>none:=by simp only[q17,hg];grind
theorem qht(hS:T.S.Ok T.E.P){F:Fx}{s:TSt T.S}{k:TSt T.S->Option β}{x:β}(hg:q17 ops s.toS o=some true)(h:doOpT T F r ops o s k=some x):Runs (fun n=>runOp T.E F.f r ops n o s.toS) k x:=by
 unfold doOpT at h;split at h
 .rename_i t a y ho;split at h;·rename_i hd;obtain⟨s1,h1,h2⟩:=qwp hS h;exact⟨1,s1,by simp only[runOp,hg,ho,hd,if_true,h1],h2⟩
  grind
 .rename_i g args argTypes ho;by_cases hsh:qdo s args.toList=true
  .rw[if_pos hsh]at h;by_cases hdr:r.draws=true;·grind
   .rw[if_neg hdr]at h;split at h
    .rename_i f caps vs s1' l hv hvs;obtain⟨n,s1,h1,h2⟩:=qp5 h;simp only at h2;split at h2
     .rename_i s3 hu;refine⟨n+1,s3,?_,h2⟩;have hargs:=qdz hvs;simp only[runOp,hg,ho,qe6,hsh,if_true,if_neg hdr,q3e hv (by simp),TV.toA,TL.toA,hargs];have e:(List.map TL.toA (vs++List.map (fun x=>TL.ptr x.1 x.2) caps):List AV)=List.map TL.toA vs++List.map (fun x=>AV.ptr x.1 x.2) caps:=by rw[List.map_append];congr 1;simp[List.map_map,Function.comp_def,TL.toA]
      have h1':callA T.E (q5o T.E.an F.f r o) n f (List.map TL.toA (vs++List.map (fun x=>TL.ptr x.1 x.2) caps)) o.dst s1'.toS=some s1.toS:=h1;rw[<-e,h1'];exact qju hu
     simp_all
    grind
  .rw[if_neg hsh]at h;split at h;·rename_i f caps vs hv hvs;obtain⟨n,s1,h1,h2⟩:=qp5 h;refine⟨n+1,s1,?_,h2⟩;simp only[runOp,hg,ho,qe6,if_neg hsh,q3e hv (by simp),TV.toA,TL.toA,qug hvs];rw[<-h1,List.map_append];congr 2;simp[List.map_map,Function.comp_def,TL.toA]
   grind
 .rename_i hns hnc;split at h
  .rename_i hr;obtain⟨v,s1,h1,h2⟩:=y0c hS h;simp only at h2;split at h2;·rename_i w hw;refine⟨1,_,?_,h2⟩;have hk:=y59 hw;simp only[runOp,hg];simp only[hr,if_true,h1,hk,qwj,qi0]
   simp_all
  grind
theorem qqw{s:TSt S}{v:TV S}(h:getT s.env t=v):({s with env:=replT s.env t v}:TSt S)=s:=by rw[qt5 h]
theorem y7b(hS:T.S.Ok T.E.P){F:Fx}{s:TSt T.S}{k:TSt T.S->Option β}{x:β}(h:opT T F r ops o s k=some x):Runs (fun n=>runOp T.E F.f r ops n o s.toS) k x:=by
 unfold opT at h;split at h;·rename_i hg;exact qht hS (by simp only[q17,hg]) h
 .rename_i j want hg;split at h;·cases h
  .rename_i t ht;have hgo:=y0u (s:=s.toS) hg ht;rw[show s.toS.env=envA s.env from rfl,q2q]at hgo;split at h
   .rename_i b hb;rw[hb]at hgo;simp only[TV.toA,TL.toA,PD.toD,leafD]at hgo;split at h;·rw[qqw hb]at h;cases want with|true=>exact qht hS hgo h|false=>exact⟨1,_,by simp only[runOp,hgo];exact congrArg some (qi0 s o.dst (.fl .skipped)),h⟩
    .rw[qqw hb]at h;cases want with|true=>exact⟨1,_,by simp only[runOp,hgo];exact congrArg some (qi0 s o.dst (.fl .skipped)),h⟩|false=>exact qht hS hgo h
   .rename_i hb;rw[hb]at hgo;simp only[TV.toA,TL.toA]at hgo;exact⟨1,_,by simp only[runOp,hgo];exact congrArg some (qi0 s o.dst (.fl .skipped)),h⟩
   grind
theorem qbk{l:List Oper}(h:runOps E f r ops n l s=some s1)(hle:n<=m):runOps E f r ops m l s=some s1:=by induction hle with|refl=>exact h|step _ ih=>exact(mono _).ops _ _ _ _ _ _ ih
theorem y5y(h:runOp E f r ops n o s=some s1)(hle:n<=m):runOp E f r ops m o s=some s1:=by induction hle with|refl=>exact h|step _ ih=>exact(mono _).op _ _ _ _ _ _ ih
theorem q53(hS:T.S.Ok T.E.P){F:Fx}{r:Rule}{ops:Array Oper}:∀{l:List Oper}{s:TSt T.S}{k:TSt T.S->Option β}{x:β},opsT T F r ops l s k=some x->Runs (fun n=>runOps T.E F.f r ops n l s.toS) k x|[],s,k,x,h=>⟨0,s,rfl,h⟩|o::l,s,k,x,h=>by obtain⟨n,s1,h1,h2⟩:=y7b hS h;obtain⟨m,s2,h3,h4⟩:=q53 hS h2;refine⟨max n m,s2,?_,h4⟩;simp only[q0q,y5y h1 (Nat.le_max_left n m),qbk h3 (Nat.le_max_right n m)]
theorem y2f{F:Fx}{s:TSt T.S}:qv0 T.E F.f o s.toS=(takeT T F o s).map TSt.toS:=by
 unfold qv0 takeT;split
 .rename_i t r d hop hg hd;simp only[hop,hg,hd];split;·rw[show s.toS.env=envA s.env from rfl,q2q];cases tyAgg T.E.P t with|none=>rfl|some g=>cases g with|false=>rfl|true=>match q0f T.E.P t with|none=>rfl|some 0=>rfl|some (n+2)=>rfl|some 1=>cases getT s.env r with
      |fl x=>cases x with
       |ptr p off=>simp only[TV.toA,TL.toA];rw[show content s.toS (.cell p off)=(cellT s.heap p off).toA from q4r _ _ _];cases cellT s.heap p off with
        |own c xs l=>cases l with|false=>simp only[TL.toA,mS,sI];rw[<-qi0,<-qk8];rfl|true=>rfl
        |d y=>cases y<;>rfl|_=>rfl
       |d y=>cases y<;>rfl|_=>rfl
      |_=>rfl
  rfl
 simp
theorem qti{F:Fx}{s:TSt T.S}:q5i T.E F.f ops s.toS=((headT T F ops s).1,(headT T F ops s).2.toS):=by unfold q5i headT;cases ops.toList with|nil=>rfl|cons o l=>simp only[y2f];cases takeT T F o s<;>rfl
theorem qy4{v:TV S}{x:TL S}(h:outT v=some x):outOf v.toA=some x.toA:=by
 unfold outT at h;split at h;·cases h;rfl
 .cases h;rfl
 .cases h;rfl
 .split at h
  .rename_i p hp;cases h;have h1:=qfp hp;unfold outOf;split;·rename_i hv;rw[hv]at h1;cases h1
   .rename_i hv;rw[hv]at h1;cases h1
   .rename_i hv;rw[hv]at h1;cases h1
   .rw[h1];rfl
  grind
theorem qx7{P:Program}{s:TSt S}{r:ResultVar}{v:TL S}(h:qv6 P s r=some v):q55 P s.toS r=some v.toA:=by unfold qv6 at h;unfold q55;cases r with|tmp t=>simp only at h⊢;rw[show s.toS.env=envA s.env from rfl,q2q];exact qy4 h|cell a t=>
  simp only at h⊢;rw[show s.toS.env=envA s.env from rfl,q2q];split at h
  .rename_i o off hv;rw[hv];simp only[TV.toA,TL.toA];rw[show s.toS.heap=heapA s.heap from rfl,ql7];split at h
   .rename_i n cs h1 h2 h3;rw[h1,h2,h3];simp only[mS];split at h
    .rename_i hle;rw[List.length_map,if_pos hle];split at h
     .rename_i ds hds;cases h;have h4:((cs.map TL.toA).drop off).take n=((cs.drop off).take n).map TL.toA:=by simp[List.map_take,List.map_drop]
      rw[h4,q3x hds];rfl
     .cases h
    .cases h
   .rename_i cs h1 h3;rw[h1,h3];simp only[mS];split at h;·rename_i w hw;simp only[List.getElem?_map,hw,mS];exact qy4 (v:=.fl w) h
    .cases h
   grind
  grind
theorem qjo{P:Program}{s:TSt S}:∀{l:List ResultVar}{vs:List (TL S)},qgb P s l=some vs->q1m P s.toS l=some (vs.map TL.toA)
 |[],vs,h=>by simp only[qgb,sI]at h;subst h;rfl|r::l,vs,h=>by
  simp only[qgb]at h;split at h;·rename_i v vs' h1 h2;cases h;simp only[q1m,qx7 h1,qjo h2,List.map_cons]
  grind
theorem qsj(h:THeap S)(k:Nat):((heapA h).take k).flatMap (fun cs=>cs.flatMap q05)=(h.take k).flatMap fun cs=>cs.flatMap ptrsT:=by rw[heapA,<-List.map_take];generalize h.take k=l;induction l with|nil=>rfl|cons cs r ih=>simp only[List.map_cons,List.flatMap_cons,qmy,ih]
theorem y0d(h:THeap S):(heapA h).flatMap (fun cs=>cs.flatMap q05)=h.flatMap fun cs=>cs.flatMap ptrsT:=by have:=qsj h h.length;rwa [List.take_length,show h.length=(heapA h).length by simp[heapA],List.take_length]at this
theorem y3m{s:TSt S}{k:Nat}(l:List ResultVar):l.all (q7w s.toS k)=l.all (y3l s k):=by congr 1;funext r;cases r with|tmp t=>rfl|cell a t=>simp only[q7w,y3l];rw[show s.toS.env=envA s.env from rfl,q2q];cases getT s.env a with|fl x=>cases x<;>rfl|_=>rfl
theorem qzz(vs:List (TL S)):qgg (q0o (vs.map TL.toA))=y2k vs:=by match vs with
 |[]=>rfl|[x]=>cases x with|d y=>cases y<;>rfl|_=>rfl
 |[x,y]=>cases x<;>cases y<;>rfl|x::y::z::r=>cases x<;>cases y<;>rfl
theorem qrn(hS:S.Ok P){F:Fx}{o:OSpec S}{s:TSt S}{x:o.Out}(h:y24 P F o s=some x):leave P F.fn F.k s.toS=some (q0o ((resOf o x).map TL.toA),heapA (q2t o x)):=by
 unfold y24 at h;unfold leave;split at h;·cases h
 .rename_i vs hvs;rw[qjo hvs];simp only[qmy,show s.toS.heap=heapA s.heap from rfl,qsj,y0d,show(heapA s.heap).length=s.heap.length by simp[heapA],y3m,qzz];split at h;·cases h
  rename_i hmk;rw[if_neg hmk];split at h;·rename_i hc;rw[if_pos hc];obtain⟨⟨h1,h2,h3⟩,h4⟩:=qtm h;obtain⟨h5,h6⟩:=qrx hS h2 h3 h4;rw[if_pos h1,h5,h6];simp[heapA,List.map_take]
  .rename_i hc;rw[if_neg hc];obtain⟨⟨h1,h2,h3⟩,h4⟩:=qtm h;obtain⟨h5,h6⟩:=qrx hS h2 h3 h4;grind
theorem qos(hS:S.Ok P){F:Fx}{o:OSpec S}{s:TSt S}{x:o.Out}(h:qwm P F o s=some x):qmk P F.fn F.k s.toS=some (q0o ((resOf o x).map TL.toA),heapA (q2t o x)):=by
 unfold qwm at h;split at h
 .rename_i t hres;split at h
  .rename_i c xs hg;obtain⟨⟨h1,h2,h3⟩,h4⟩:=qtm h;obtain⟨h5,h6⟩:=qrx hS h2 h3 h4;have hg':get s.toS.env t=.own (xs.map (S.enc c)) false:=by rw[show s.toS.env=envA s.env from rfl,q2q,hg];rfl
   unfold qmk;rw[hres];simp only[hg',show s.toS.heap=heapA s.heap from rfl,q4w,show(heapA s.heap).length=s.heap.length by simp[heapA],h1,if_true,h5,h6];simp[heapA,List.map_take,TL.toA,q0o]
  grind
 .rename_i r t hres;split at h
  .rename_i p hg ht hn;split at h
   .rename_i c xs hct;obtain⟨⟨h1,h2,h3⟩,h4⟩:=qtm h;obtain⟨h5,h6⟩:=qrx hS h2 h3 h4;have hg':get s.toS.env r=.ptr p 0:=by rw[show s.toS.env=envA s.env from rfl,q2q,hg];rfl
    have hc':content s.toS (.cell p 0)=.own (xs.map (S.enc c)) false:=by show q0i (heapA s.heap) p 0=_;rw[q4r,hct];rfl
    unfold qmk;rw[hres];simp only[hg',ht,hn,hc',show s.toS.heap=heapA s.heap from rfl,q4w,show(heapA s.heap).length=s.heap.length by simp[heapA],h1,if_true,h5,h6];simp[heapA,List.map_take,TL.toA,q0o]
   .cases h
  grind
 grind
theorem qe1(hS:S.Ok P){own:Bool}{F:Fx}{o:OSpec S}{s:TSt S}{x:o.Out}(h:qi2 own P F o s=some x):qbh own P F.fn F.k s.toS=some (q0o ((resOf o x).map TL.toA),heapA (q2t o x)):=by
 unfold qi2 at h;unfold qbh;split at h;·rename_i hc;rw[if_pos hc];exact qos hS h
 .rename_i hc;rw[if_neg hc];exact qrn hS h
def KGoes(T:TEn)(F:Fx)(o:OSpec T.S)(ex:Ex)(K:List Fr)(s:St)(x:o.Out):Prop:=∃n ex' s2,unw T.E F.f F.k n K ex s=some (ex',s2)/\fin (T.E.an.own F.f) T.E.P F.fn F.k ex' s2=some (q0o ((resOf o x).map TL.toA),heapA (q2t o x))
theorem q83{F:Fx}{o:OSpec T.S}{K:List Fr}{ex:Ex}{x:o.Out}(h:exec T.E F.f F.k n c s=some (ex,s1))(hk:KGoes T F o ex K s1 x):Goes T.E F c K s (q0o ((resOf o x).map TL.toA),heapA (q2t o x)):=by obtain⟨m,ex',s2,h1,h2⟩:=hk;exact⟨max n m,ex,s1,ex',s2,qae h (Nat.le_max_left n m),q4u (Nat.le_max_right n m) h1,h2⟩
theorem qyx{F:Fx}{o:OSpec T.S}{K:List Fr}{x:o.Out}(h:Goes T.E F c K s (q0o ((resOf o x).map TL.toA),heapA (q2t o x))):∃n ex s1,exec T.E F.f F.k n c s=some (ex,s1)/\KGoes T F o ex K s1 x:=by obtain⟨n,ex,s1,ex',s2,h1,h2,h3⟩:=h;exact⟨n,ex,s1,h1,n,ex',s2,h2,h3⟩
theorem k_seq{F:Fx}{o:OSpec T.S}{K:List Fr}{x:o.Out}(h:Goes T.E F b K s (q0o ((resOf o x).map TL.toA),heapA (q2t o x))):KGoes T F o .normal (.seq b::K) s x:=by obtain⟨n,ex,s1,ex',s2,h1,h2,h3⟩:=h;exact⟨n,ex',s2,by simp only[unw,h1];omega,h3⟩
theorem yax{F:Fx}{o:OSpec T.S}{K:List Fr}{x:o.Out}(h:Goes T.E F (.loop b) K (endRound F.k m s) (q0o ((resOf o x).map TL.toA),heapA (q2t o x))):KGoes T F o .normal (.loop b m::K) s x:=by obtain⟨n,ex,s1,ex',s2,h1,h2,h3⟩:=h;exact⟨n,ex',s2,by simp only[unw,h1];omega,h3⟩
theorem y4a(hS:T.S.Ok T.E.P){F:Fx}{o:OSpec T.S}{s:TSt T.S}{x:o.Out}(h:qi2 (T.E.an.own F.f) T.E.P F o s=some x)(K:List Fr):KGoes T F o .ret K s.toS x:=⟨0,.ret,s.toS,qr5 K _,qe1 hS h⟩
theorem ycm{F:Fx}{o:OSpec T.S}{a:Code}{K:List Fr}{x:o.Out}(ht:twoOf T.E.an F.f a=none)(h:Goes T.E F a (.seq b::K) s (q0o ((resOf o x).map TL.toA),heapA (q2t o x))):Goes T.E F (.seq a b) K s (q0o ((resOf o x).map TL.toA),heapA (q2t o x)):=by obtain⟨n,ex,s1,ex',s2,h1,h2,h3⟩:=h;cases ex with
 |normal=>
  simp only[unw]at h2;split at h2;·rename_i e3 s3 h4;exact⟨n+1,e3,s3,ex',s2,by rw[qg7 _ _ _ _ _ _ ht,h1];exact h4,q4u (Nat.le_succ n) h2,h3⟩
  simp_all|exit i=>simp only[unw]at h2;exact⟨n+1,_,s1,ex',s2,by rw[qg7 _ _ _ _ _ _ ht,h1],q4u (Nat.le_succ n) h2,h3⟩|ret=>simp only[unw]at h2;exact⟨n+1,_,s1,ex',s2,by rw[qg7 _ _ _ _ _ _ ht,h1],q4u (Nat.le_succ n) h2,h3⟩
theorem y5d{F:Fx}{o:OSpec T.S}{id:Nat}{K:List Fr}{x:o.Out}(h:Goes T.E F b (.block id s.heap.length::K) s (q0o ((resOf o x).map TL.toA),heapA (q2t o x))):Goes T.E F (.block id b) K s (q0o ((resOf o x).map TL.toA),heapA (q2t o x)):=by
 obtain⟨n,ex,s1,ex',s2,h1,h2,h3⟩:=h;cases ex with|normal=>simp only[unw]at h2;exact⟨n+1,_,_,ex',s2,by rw[q8l,h1],q4u (Nat.le_succ n) h2,h3⟩|exit i=>
  simp only[unw]at h2;split at h2;·rename_i hi;exact⟨n+1,.normal,_,ex',s2,by rw[q8l,h1];grind,q4u (Nat.le_succ n) h2,h3⟩
  .rename_i hi;exact⟨n+1,.exit i,s1,ex',s2,by rw[q8l,h1];grind,q4u (Nat.le_succ n) h2,h3⟩|ret=>simp only[unw]at h2;exact⟨n+1,_,s1,ex',s2,by rw[q8l,h1],q4u (Nat.le_succ n) h2,h3⟩
theorem y9v{F:Fx}{o:OSpec T.S}{K:List Fr}{x:o.Out}(h:Goes T.E F b (.loop b s.heap.length::K) s (q0o ((resOf o x).map TL.toA),heapA (q2t o x))):Goes T.E F (.loop b) K s (q0o ((resOf o x).map TL.toA),heapA (q2t o x)):=by obtain⟨n,ex,s1,ex',s2,h1,h2,h3⟩:=h;cases ex with
 |normal=>
  simp only[unw]at h2;split at h2;·rename_i e3 s3 h4;exact⟨n+1,e3,s3,ex',s2,by rw[qhc,h1];exact h4,q4u (Nat.le_succ n) h2,h3⟩
  grind|exit i=>simp only[unw]at h2;exact⟨n+1,_,s1,ex',s2,by rw[qhc,h1],q4u (Nat.le_succ n) h2,h3⟩|ret=>simp only[unw]at h2;exact⟨n+1,_,s1,ex',s2,by rw[qhc,h1],q4u (Nat.le_succ n) h2,h3⟩
theorem y1z(s:TSt S):s.toS.heap.length=s.heap.length:=by simp[TSt.toS,heapA]
theorem qdg{s:TSt T.S}{v:TV T.S}(h:evT T s 0 x=v):replO s x v=s:=by cases x with|tmp t=>exact qqw (s:=s) (t:=t) h|_=>rfl
theorem q6t(hS:T.S.Ok T.E.P){F:Fx}{β:Type}:∀(n:Nat){c:Code}{s:TSt T.S}{k:TSt T.S->Option β}{x:β},lineT T F n c s k=some x->∃m s1,exec T.E F.f F.k m c s.toS=some (.normal,s1.toS)/\k s1=some x|0,c,s,k,x,h=>by cases h|n+1,c,s,k,x,h=>by unfold lineT at h;cases c with
  |skip=>exact⟨1,s,rfl,h⟩|region id ops draw=>simp only at h;cases draw with
   |true=>
    simp only at h;split at h
    .rename_i l hl;have hfr:q9d T.E.an F.f ops s.toS=true:=by cases hfb:q9d T.E.an F.f ops s.toS with|true=>rfl|false=>simp[hfb]at h
     simp only[hfr,Bool.true_eq_false,if_false]at h;obtain⟨m,s1,h1,h2⟩:=q53 hS h;refine⟨m+1,{s1 with env:=q81 s1.env (T.E.an.clear F.f id)},?_,h2⟩;rw[q4n];simp only[if_true,hfr,Bool.true_eq_false,if_false,hl,List.map_cons,List.map_nil,agree,h1,mS,clr];simp only[TSt.toS,q40]
    grind|false=>simp only at h;obtain⟨m,s1,h1,h2⟩:=q53 hS h;refine⟨m+1,{s1 with env:=q81 s1.env (T.E.an.clear F.f id)},?_,h2⟩;rw[q4n];simp only[fT,if_false,qti,h1,mS,clr];simp only[TSt.toS,q40]
  |seq a b=>
   simp only at h;split at h;·rename_i ht;obtain⟨m1,s1,g1,h⟩:=q6t hS n h;obtain⟨m2,s2,g2,h⟩:=q6t hS n h;refine⟨max m1 m2+1,s2,?_,h⟩;rw[qg7 _ _ _ _ _ _ ht,qae g1 (by omega)];exact qae g2 (by omega)
   grind|cond y a b=>
   simp only at h;split at h
   .rename_i t ht;have hev:=q3e ht (by simp);split at h;·rw[qdg ht]at h;obtain⟨m,s1,h1,h2⟩:=q6t hS n h;exact⟨m+1,s1,by rw[qbn,hev];exact h1,h2⟩
    .rw[qdg ht]at h;obtain⟨m,s1,h1,h2⟩:=q6t hS n h;exact⟨m+1,s1,by rw[qbn,hev];exact h1,h2⟩
   grind|_=>cases h
theorem qlj(hS:T.S.Ok T.E.P)(F:Fx)(o:OSpec T.S):∀(n:Nat),(∀(c:Code)(K:List Fr)(s:TSt T.S)(x:o.Out),te T F o n c K s=some x->BSem T F o c K s x)/\(∀(ex:Ex)(K:List Fr)(s:TSt T.S)(x:o.Out),teK T F o n ex K s=some x->KGoes T F o ex K s.toS x)
 |0=>⟨fun c K s x h=>qqh h,fun ex K s x h=>by cases h⟩|n+1=>by
  obtain⟨ih,ihK⟩:=qlj hS F o n;constructor;·intro c K s x h;unfold BSem;have hseq1:∀m,exec T.E F.f F.k (m+1) .skip s.toS=some (.normal,s.toS):=fun _=>rfl;unfold te at h;cases c with
   |skip=>exact q83 (n:=1) rfl (ihK _ _ _ _ h)|label l=>exact q83 (n:=1) rfl (ihK _ _ _ _ h)|region id ops draw=>simp only at h;cases draw with
    |true=>
     simp only at h;split at h
     .rename_i l hl;have hfr:q9d T.E.an F.f ops s.toS=true:=by simp_all
      simp only[hfr,Bool.true_eq_false,if_false]at h;obtain⟨m,s1,h1,h2⟩:=q53 hS h;refine q83 (n:=m+1) (ex:=.normal) (s1:={s1.toS with env:=q59 s1.toS.env (T.E.an.clear F.f id)}) ?_ ?_;·rw[q4n];simp only[if_true,hfr,Bool.true_eq_false,if_false,hl,List.map_cons,List.map_nil,agree,h1,mS,clr]
      .have:=ihK _ _ _ _ h2;simp only[TSt.toS]at this⊢;rw[q40];omega
     .rename_i l1 l2 hl;have hfr:q9d T.E.an F.f ops s.toS=true:=by simp_all
      simp only[hfr,Bool.true_eq_false,if_false]at h;obtain⟨m1,s1,h1,h⟩:=q53 hS h;obtain⟨m2,s2,h2,h⟩:=q53 hS h;simp only[sameQ]at h;split at h
      .rename_i he;refine q83 (n:=max m1 m2+1) (ex:=.normal) (s1:={s1.toS with env:=q59 s1.toS.env (T.E.an.clear F.f id)}) ?_ ?_
       .have e1:clr T.E F.f id s2.toS=clr T.E F.f id s1.toS:=by have:=congrArg TSt.toS he;simp only[TSt.toS]at this;simp only[clr,TSt.toS,q40];exact this.symm
        have g1:=qbk h1 (Nat.le_max_left m1 m2);have g2:=qbk h2 (Nat.le_max_right m1 m2);rw[q4n];simp only[if_true,hfr,Bool.true_eq_false,if_false,hl,List.map_cons,List.map_nil,agree,g1,g2,mS,e1];rfl
       .have:=ihK _ _ _ _ h;simp only[TSt.toS]at this⊢;rw[q40];omega
      .cases h
     grind|false=>
     simp only at h;obtain⟨m,s1,h1,h2⟩:=q53 hS h;refine q83 (n:=m+1) (ex:=.normal) (s1:={s1.toS with env:=q59 s1.toS.env (T.E.an.clear F.f id)}) ?_ ?_;·rw[q4n];simp only[fT,if_false,qti,h1,mS,clr]
     .have:=ihK _ _ _ _ h2;simp only[TSt.toS]at this⊢;rw[q40];omega
   |seq a b=>
    simp only at h;split at h;·rename_i ht;exact ycm ht (ih _ _ _ _ h)
    .rename_i id ops l1 l2 ht;obtain⟨m1,s1,g1,h⟩:=q53 hS h;obtain⟨m2,q1,g2,h⟩:=q6t hS _ h;obtain⟨m3,s2,g3,h⟩:=q53 hS h;obtain⟨m4,q2,g4,h⟩:=q6t hS _ h;unfold sameQ at h;split at h
     .rename_i hq;refine q83 (n:=max (max m1 m2) (max m3 m4)+1) (ex:=.normal) (s1:=(trimT s.heap.length q1).toS) ?_ (ihK _ _ _ _ h);simp only[TSt.toS,<-q40]at g2 g4;rw[qz2 _ _ _ _ _ _ ht,qbk g1 (by omega),qbk g3 (by omega)];simp only[TSt.toS];rw[qae g2 (by omega),qae g4 (by omega)];have e1:trim s.heap.length q1.toS=(trimT s.heap.length q1).toS:=qhn _ _;have e2:trim s.heap.length q2.toS=(trimT s.heap.length q1).toS:=by rw[qhn,hq]
      have hl:(heapA s.heap).length=s.heap.length:=by simp[heapA]
      rw[hl];show joinQ s.heap.length (some (.normal,q1.toS)) (some (.normal,q2.toS))=_;show(if(Ex.normal=Ex.normal/\trim s.heap.length q1.toS=trim s.heap.length q2.toS)then some (Ex.normal,trim s.heap.length q1.toS)else none)=_;rw[if_pos ⟨rfl,e1.trans e2.symm⟩,e1];rfl
     grind|cond y a b=>
    simp only at h;split at h
    .rename_i t ht;have hev:=q3e ht (by simp);split at h;·rw[qdg ht]at h;obtain⟨m,ex,s1,h1,h2⟩:=qyx (ih _ _ _ _ h);exact q83 (n:=m+1) (by rw[qbn,hev];exact h1) h2
     .rw[qdg ht]at h;obtain⟨m,ex,s1,h1,h2⟩:=qyx (ih _ _ _ _ h);exact q83 (n:=m+1) (by rw[qbn,hev];exact h1) h2
    grind|block id b=>refine y5d ?_;rw[y1z];exact ih _ _ _ _ h|loop b=>exact qqh h|exit id=>exact q83 (n:=1) rfl (ihK _ _ _ _ h)|ret=>exact q83 (n:=1) rfl (y4a hS h K)|_=>cases h
  .intro ex K s x h;unfold teK at h;split at h;·exact y4a hS h _
   .exact⟨0,.normal,s.toS,rfl,qe1 hS h⟩
   .split at h;·exact k_seq (qqh h)
    .exact k_seq (ih _ _ _ _ h)
   .obtain⟨m,e2,s2,h1,h2⟩:=ihK _ _ _ _ h;rw[<-qhn]at h1;exact⟨m,e2,s2,by simp only[unw];omega,h2⟩
   .refine yax ?_;rw[qut];exact qqh h
   .obtain⟨m,e2,s2,h1,h2⟩:=ihK _ _ _ _ h;exact⟨m,e2,s2,by simp only[unw];omega,h2⟩
   .split at h;·rename_i hi;obtain⟨m,e2,s2,h1,h2⟩:=ihK _ _ _ _ h;rw[<-qhn]at h1;exact⟨m,e2,s2,by simp only[unw,hi,if_true];omega,h2⟩
    .rename_i hi;obtain⟨m,e2,s2,h1,h2⟩:=ihK _ _ _ _ h;exact⟨m,e2,s2,by simp only[unw,hi,if_false];omega,h2⟩
   .obtain⟨m,e2,s2,h1,h2⟩:=ihK _ _ _ _ h;exact⟨m,e2,s2,by simp only[unw];omega,h2⟩
   grind
theorem y7d(hS:T.S.Ok T.E.P){F:Fx}{o:OSpec T.S}{K:List Fr}{s:TSt T.S}(n:Nat){p:Option o.Out}(h:te T F o n b (.loop b s.heap.length::K) s=p):Le p (goC T F o (.loop b) K s):=fun r hr=>ybg hS (y9v (by rw[y1z];exact(qlj hS F o n).1 b (.loop b s.heap.length::K) s r (h.trans hr)))
theorem q09(hS:T.S.Ok T.E.P){F:Fx}{o:OSpec T.S}{K:List Fr}{s:TSt T.S}(n:Nat){p:Option o.Out}(hc:c=.loop b)(h:te T F o n b (.loop b s.heap.length::K) s=p):Le p (goC T F o c K s):=by subst hc;exact y7d hS n h
def qo3:List Nat->Code->Code|0::r,.seq a _=>qo3 r a|1::r,.seq _ b=>qo3 r b|0::r,.cond _ a _=>qo3 r a|1::r,.cond _ _ b=>qo3 r b|0::r,.block _ b=>qo3 r b|0::r,.loop b=>qo3 r b|_,c=>c
def qm7:List Nat->Code->List Nat->List Fr->List Fr|0::r,.seq a b,ms,K=>qm7 r a ms (.seq b::K)|1::r,.seq _ b,ms,K=>qm7 r b ms K|0::r,.cond _ a _,ms,K=>qm7 r a ms K|1::r,.cond _ _ b,ms,K=>qm7 r b ms K|0::r,.block id b,ms,K=>qm7 r b ms.tail (.block id (ms.headD 0)::K)|0::r,.loop b,ms,K=>qm7 r b ms.tail (.loop b (ms.headD 0)::K)|_,_,_,K=>K
theorem q21{k:IntKind}{a b:Int}(h:D.v (.int k a)=D.v (.int k b)):a=b:=by grind
theorem qyu{a b:Bool}(h:D.v (.bool a)=D.v (.bool b)):a=b:=by grind
theorem y9n{a b:List UInt8}(h:D.v (.string ⟨⟨a⟩⟩)=D.v (.string ⟨⟨b⟩⟩)):a=b:=by grind
theorem q0y{α:Type}{e:α->D}(he:∀a b,e a=e b->a=b){xs ys:List α}(h:D.list (xs.map e)=D.list (ys.map e)):xs=ys:=by injection h with h;exact(List.map_inj_right (fun a b hab=>he a b hab)).1 h
def bindT:Nat->List (TL S)->TEnv S|_,[]=>[]|k,v::r=>(k,.fl v)::bindT (k+1) r
theorem qy1:∀(vs:List (TL S))(k:Nat),q2o k (vs.map TL.toA)=envA (bindT k vs)|[],_=>rfl|v::r,k=>by simp only[List.map_cons,q2o,bindT,qy1 r];rfl
theorem q00(hS:T.S.Ok T.E.P){vs:List (TL T.S)}{hs:THeap T.S}{o:OSpec T.S}(n:Nat)(hok:T.E.ok f=true)(hf:T.E.P.funcs[f]?=some fn)(hb:fn.body=some c)(hn0:(decide (vs.length<=fn.ntmps)&&(q8c T.E.P fn c).isNone&&(T.E.seek f).isNone&&(T.E.lib f).isNone)=true){p:Option o.Out}(h:te T ⟨f,fn,hs.length⟩ o n c [] ⟨bindT 0 vs,hs⟩=p):Le p (callC T f vs hs o):=by
 rw[aT,aT,aT]at hn0;have hn:=of_decide_eq_true hn0.1.1.1;have hnil:q8c T.E.P fn c=none:=Option.isNone_iff_eq_none.1 hn0.1.1.2;have hsk:T.E.seek f=none:=Option.isNone_iff_eq_none.1 hn0.1.2;have hlb:T.E.lib f=none:=Option.isNone_iff_eq_none.1 hn0.2;have hro:qe0 T.E.P fn c=c:=by simp[qe0,hnil]
 have hgn:∀vs hp r,q48 T.E.P fn c vs hp r=r:=fun vs hp r=>by simp[q48,hnil]
 intro r hr;obtain⟨m,ex,s1,ex',s2,h1,h2,h3⟩:=(qlj hS ⟨f,fn,hs.length⟩ o n).1 c [] ⟨bindT 0 vs,hs⟩ r (h.trans hr);cases h2;refine ql9 hS ⟨m+1,?_⟩;have he:(⟨q2o 0 (vs.map TL.toA),heapA hs⟩:St)=(⟨bindT 0 vs,hs⟩:TSt T.S).toS:=by simp only[TSt.toS,qy1]
 have hl:(heapA hs).length=hs.length:=by simp[heapA]
 have h1':exec T.E f hs.length m c (⟨bindT 0 vs,hs⟩:TSt T.S).toS=some (ex,s1):=h1;simp only[call,hok,hsk,hlb,if_true,hf,hb,List.length_map,hn,he,hro,hgn,hl,h1'];cases ex with|normal=>simpa[fin,heapA]using h3|ret=>simpa[fin,heapA]using h3|exit i=>cases h3
theorem qhg(hS:T.S.Ok T.E.P){rest:Code}{cl:T.S.TC}{xs:List (T.S.Ty cl)}{o:OSpec T.S}(n:Nat)(hok:T.E.ok f=true)(hf:T.E.P.funcs[f]?=some fn)(hb:fn.body=some c)(hn0:(decide (1<=fn.ntmps)&&(T.E.seek f).isNone&&(T.E.lib f).isNone)=true)(hnil:q8c T.E.P fn c=some rest){p:Option o.Out}(h:te T ⟨f,fn,0⟩ o n rest [] ⟨bindT 0 [.d (.lf (.l cl xs))],[]⟩=p)(he:xs=[]->∀r,p=some r->q0o ((resOf o r).map TL.toA)=.ref 0/\heapA (q2t o r)=[[.own [] false]]):Le p (callC T f [.d (.lf (.l cl xs))] [] o):=by
 rw[aT,aT]at hn0;have hn:=of_decide_eq_true hn0.1.1;have hsk:T.E.seek f=none:=Option.isNone_iff_eq_none.1 hn0.1.2;have hlb:T.E.lib f=none:=Option.isNone_iff_eq_none.1 hn0.2;have hro:qe0 T.E.P fn c=rest:=by simp[qe0,hnil]
 intro r hr;obtain⟨m,ex,s1,ex',s2,h1,h2,h3⟩:=(qlj hS ⟨f,fn,0⟩ o n).1 rest [] ⟨bindT 0 [.d (.lf (.l cl xs))],[]⟩ r (h.trans hr);cases h2;refine ql9 hS ⟨m+1,?_⟩;have hst:(⟨q2o 0 ([TL.d (.lf (.l cl xs))].map TL.toA),heapA ([]:THeap T.S)⟩:St)=(⟨bindT 0 [.d (.lf (.l cl xs))],[]⟩:TSt T.S).toS:=by rfl
 have hg:∀q,q=some (q0o ((resOf o r).map TL.toA),heapA (q2t o r))->q48 T.E.P fn c ([TL.d (.lf (.l cl xs))].map TL.toA) (heapA ([]:THeap T.S)) q=q:=by rintro q rfl;unfold q48;rw[hnil];cases xs with|nil=>obtain⟨e1,e2⟩:=he rfl r hr;rw[e1,e2];rfl|cons x xs=>rfl
 have h1':exec T.E f (heapA ([]:THeap T.S)).length m rest (⟨bindT 0 [.d (.lf (.l cl xs))],[]⟩:TSt T.S).toS=some (ex,s1):=h1;simp only[call,hok,hsk,hlb,if_true,hf,hb,List.length_map,List.length_singleton,hn,hst,hro,h1'];cases ex with|normal=>rw[show fin _ _ _ _ Ex.normal s1=_ from rfl]at h3;exact(hg _ h3).trans h3|ret=>exact(hg _ h3).trans h3|exit i=>cases h3
theorem qy2{E:Env0}{g:FuncId}{ps:List AV}{hp:Heap}{p:Int->Bool}:∀(xs:List Int),(∀n∈xs,∃m,call E m g (.d (.v (.int .i64 n))::ps) hp=some (.d (.v (.bool (p n))),hp))->∃m,seekA (fun x hp=>call E m g (.d (.v (.int .i64 x))::ps) hp) xs hp=some ((match xs.find? p with|some n=>.tup [.d (.v (.int .i64 n)),.d (.v (.bool true))]|none=>.tup [.d (.v (.int .i64 0)),.d (.v (.bool false))]),hp)|[],_=>⟨0,rfl⟩|x::r,h=>by obtain⟨m1,h1⟩:=h x (by simp);obtain⟨m2,h2⟩:=qy2 (E:=E) (g:=g) (ps:=ps) (hp:=hp) (p:=p) r (fun n hn=>h n (by grind));refine⟨max m1 m2,?_⟩;simp only[seekA,qcd h1 (Nat.le_max_left m1 m2),List.find?_cons];cases p x with|true=>rfl|false=>exact qdl (fun x hp q hq=>qcd hq (Nat.le_max_right m1 m2)) h2
def qzg(nextC:Int->Option (Int×Bool)):List Int->Prop|[]=>True|[x]=>∃c,nextC x=some (c,false)|x::y::r=>nextC x=some (y,true)/\qzg nextC (y::r)
theorem qz6{nx:FuncId}:∀{xs:List Int},qzg (fun x=>callC T nx [.d (.lf (.i .i64 x)),.d (.lf (.i .i64 10))] [] ⟨[.lf (.i .i64),.lf .b],[]⟩) xs->∃m,q9j (fun x=>call T.E m nx [.d (.v (.int .i64 x)),.d (.v (.int .i64 10))] []) xs=true|[],_=>⟨0,rfl⟩|[x],⟨c,h⟩=>by obtain⟨m,h1⟩:=qcy h;have h2:call T.E m nx [.d (.v (.int .i64 x)),.d (.v (.int .i64 10))] []=some (.tup [.d (.v (.int .i64 c)),.d (.v (.bool false))],[]):=h1;exact⟨m,by simp only[q9j,h2]⟩|x::y::r,⟨h,hr⟩=>by obtain⟨m1,h1⟩:=qcy h;have h2:call T.E m1 nx [.d (.v (.int .i64 x)),.d (.v (.int .i64 10))] []=some (.tup [.d (.v (.int .i64 y)),.d (.v (.bool true))],[]):=h1;obtain⟨m2,h3⟩:=qz6 hr;refine⟨max m1 m2,?_⟩;simp only[q9j,qcd h2 (Nat.le_max_left m1 m2),decide_true,tA'];exact qa0 (fun x q hq=>qcd hq (Nat.le_max_right m1 m2)) h3
theorem q36(hS:T.S.Ok T.E.P){m:List AV->Heap->Option (AV×Heap)}{vs:List (TL T.S)}{hs:THeap T.S}{o:OSpec T.S}(hok:T.E.ok f=true)(hl:T.E.lib f=some m){x:o.Out}(h:libA m (vs.map TL.toA) (heapA hs)=some (q0o ((resOf o x).map TL.toA),heapA (q2t o x)))(hp:T.E.pre f=none:=by rfl):callC T f vs hs o=some x:=ql9 hS ⟨1,by simp only[call,hok,hl,hp,if_true];exact h⟩
theorem qzw(hS:T.S.Ok T.E.P){g nx:FuncId}{caps:List (Nat×Nat)}{hs:THeap T.S}{o oc:OSpec T.S}{xs:List Int}(hok:T.E.ok f=true)(hlb:T.E.lib f=none)(hsk:T.E.seek f=some (nx,xs))(ht:q5y hs.length hs=true)(hch:qzg (fun x=>callC T nx [.d (.lf (.i .i64 x)),.d (.lf (.i .i64 10))] [] ⟨[.lf (.i .i64),.lf .b],[]⟩) xs){p:Int->Bool}(hstep:∀n∈xs,∃y,callC T g (.d (.lf (.i .i64 n))::caps.map fun(o,a)=>.ptr o a) hs oc=some y/\q0o ((resOf oc y).map TL.toA)=.d (.v (.bool (p n)))/\heapA (q2t oc y)=heapA hs){x:o.Out}(hx:q0o ((resOf o x).map TL.toA)=(match xs.find? p with|some n=>.tup [.d (.v (.int .i64 n)),.d (.v (.bool true))]|none=>.tup [.d (.v (.int .i64 0)),.d (.v (.bool false))]))(hh:heapA (q2t o x)=heapA hs):callC T f [.fn g caps] hs o=some x:=by
 have hps:∀n:Int,((.d (.lf (.i .i64 n))::caps.map fun(o,a)=>.ptr o a:List (TL T.S))).map TL.toA=.d (.v (.int .i64 n))::caps.map fun(o,a)=>.ptr o a:=fun n=>by simp only[List.map_cons,List.map_map];rfl
 obtain⟨m,hm⟩:=qy2 (E:=T.E) (g:=g) (ps:=caps.map fun(o,a)=>.ptr o a) (hp:=heapA hs) (p:=p) xs fun n hn=>by obtain⟨y,h1,h2,h3⟩:=hstep n hn;obtain⟨m,h4⟩:=qcy h1;grind
 obtain⟨m2,hm2⟩:=qz6 hch;refine ql9 hS ⟨max m m2+1,?_⟩;have hlen:(heapA hs).length=hs.length:=by simp[heapA]
 rw[hx,hh];simp only[call,hok,if_true,hlb,hsk,List.map_cons,List.map_nil,TL.toA,hlen,q4w,ht,tA'];rw[if_pos (qa0 (fun x q hq=>qcd hq (Nat.le_max_right m m2)) hm2)];exact qdl (fun x hp q hq=>qcd hq (Nat.le_max_left m m2)) hm
end Go.Ab

namespace Go.Ab
variable {a b n : Int}
theorem Le.refl{α:Type}(a:Option α):Le a a:=fun _ h=>h
theorem Le.trans{α:Type}{a b c:Option α}(h:Le a b)(h':Le b c):Le a c:=fun r hr=>h' r (h r hr)
theorem wrap64(h1:-9223372036854775808<=n)(h2:n<9223372036854775808):IntKind.wrap .i64 n=n:=by
 have key:IntKind.wrap .i64 n=if n%18446744073709551616≥9223372036854775808 then n%18446744073709551616-18446744073709551616 else n%18446744073709551616:=by show(if(true&&decide (n%18446744073709551616≥9223372036854775808))=true then n%18446744073709551616-18446744073709551616 else n%18446744073709551616)=_;simp only[tA',dT']
 omega
theorem q3r(h1:-9223372036854775808<=a+b)(h2:a+b<9223372036854775808):addI .i64 a b=a+b:=wrap64 h1 h2
theorem qby(h1:-9223372036854775808<=a-b)(h2:a-b<9223372036854775808):subI .i64 a b=a-b:=wrap64 h1 h2
theorem shl1{k:Int}(h0:0<=k)(h:k<=62):shlI .i64 1 k=((2^k.toNat:Nat):Int):=by
 obtain⟨n,rfl⟩:=Int.eq_ofNat_of_zero_le h0;have hn:n<=62:=by omega
 simp only[shlI,IntKind.bits,tN,Int.one_mul];rw[Nat.min_eq_left (by omega)];have:(2:Int)^n=((2^n:Nat):Int):=by simp
 rw[this];have h2:2^n<=2^62:=Nat.pow_le_pow_right (by decide) hn;have h3:(2:Nat)^62=4611686018427387904:=by rfl
 generalize 2^n=m at*;exact wrap64 (by omega) (by omega)
theorem q0b(h:a<b):ltB a b=true:=by simp[ltB,h]
theorem q02(h:b<=a):ltB a b=false:=by simp[ltB,h]
theorem q26(h:a<=b):leB a b=true:=by simp[leB,h]
theorem q3c(h:b<a):leB a b=false:=by simp[leB,h]
theorem q56(a:Int):eqB a a=true:=by simp[eqB]
theorem q0v(a:Int):neB a a=false:=by simp[neB]
theorem q7b(h:a≠b):eqB a b=false:=by simp[eqB,h]
theorem q4b(h:a≠b):neB a b=true:=by simp[neB,h]
theorem q13{β:Type}{p:Prop} [Decidable p](h:p)(k:Option β):chk p k=k:=by simp[chk,h]
theorem q0p{β:Type}{n:Nat}(h:n<=q0a)(k:Option β):capOk n k=k:=by simp[capOk,h]
theorem qlm{β:Type}{len:Nat}(h0:0<=n)(h:n<=(len:Int))(k:Nat->Option β):hiK len n k=k n.toNat:=by simp[hiK,h0,h]
def ndiff(a b:Nat):Nat:=a^^^(a&&&b)
theorem q04(a b i:Nat):(ndiff a b).testBit i=(a.testBit i&&!b.testBit i):=by simp only[ndiff,Nat.testBit_xor,Nat.testBit_and];cases a.testBit i<;>cases b.testBit i<;>rfl
theorem q9e(a:Nat):BitVec.ofInt 64 (a:Int)=BitVec.ofNat 64 a:=by simp
theorem mod64{a:Nat}(h:a<2^62):a%2^64=a:=Nat.mod_eq_of_lt (by omega)
theorem qvb{a:Nat}(h:a<2^62):IntKind.wrap .i64 (a:Int)=a:=wrap64 (by omega) (by omega)
theorem qam{a b:Nat}(ha:a<2^62)(hb:b<2^62):orI .i64 (a:Int) (b:Int)=((a|||b:Nat):Int):=by show IntKind.wrap .i64 (((BitVec.ofInt 64 (a:Int))|||(BitVec.ofInt 64 (b:Int))).toNat:Int)=_;rw[q9e,q9e,BitVec.toNat_or,BitVec.toNat_ofNat,BitVec.toNat_ofNat,mod64 ha,mod64 hb];exact qvb (Nat.or_lt_two_pow ha hb)
theorem qli{a b:Nat}(ha:a<2^62)(hb:b<2^62):andI .i64 (a:Int) (b:Int)=((a&&&b:Nat):Int):=by show IntKind.wrap .i64 (((BitVec.ofInt 64 (a:Int))&&&(BitVec.ofInt 64 (b:Int))).toNat:Int)=_;rw[q9e,q9e,BitVec.toNat_and,BitVec.toNat_ofNat,BitVec.toNat_ofNat,mod64 ha,mod64 hb];exact qvb (Nat.and_lt_two_pow _ hb)
theorem qle{a b n:Nat}(h:a<2^n):ndiff a b<2^n:=by apply Nat.lt_pow_two_of_testBit;intro i hi;rw[q04];have:a.testBit i=false:=Nat.testBit_lt_two_pow (Nat.lt_of_lt_of_le h (Nat.pow_le_pow_right (by decide) hi));simp_all
theorem q2z{a b:Nat}(ha:a<2^62)(_hb:b<2^62):q3i .i64 (a:Int) (b:Int)=((ndiff a b:Nat):Int):=by
 have key:(BitVec.ofNat 64 a&&&~~~BitVec.ofNat 64 b).toNat=ndiff a b:=by
  apply Nat.eq_of_testBit_eq;intro i;rw[q04];by_cases hi:i<64;·grind
  .have h1:a.testBit i=false:=Nat.testBit_lt_two_pow (Nat.lt_of_lt_of_le ha (Nat.pow_le_pow_right (by decide) (by omega)));grind
 show IntKind.wrap .i64 (((BitVec.ofInt 64 (a:Int))&&&~~~(BitVec.ofInt 64 (b:Int))).toNat:Int)=_;rw[q9e,q9e,key];exact qvb (qle ha)
theorem y6i(a k:Nat)(hk:k<=64):shrI .i64 (a:Int) (k:Int)=((a>>>k:Nat):Int):=by simp only[shrI,IntKind.bits,tN,Nat.min_eq_left hk,Nat.shiftRight_eq_div_pow];grind
section
variable {α β : Type} {xs r : List α} {i : Nat} {y : α}
theorem q0k(h:xs.drop i=y::r)(k:α->Option β):nth xs (i:Int) k=k y:=by
 have h1:xs[i]?=some y:=by have:=congrArg (·[0]?) h;grind
 simp[nth,h1]
theorem q0g(h:xs.drop i=y::r):xs.drop (i+1)=r:=by rw[show i+1=i+1 from rfl,<-List.drop_drop,h];rfl
theorem q1b(h:xs.drop i=y::r):i<xs.length:=by
 by_cases hl:i<xs.length;·omega
 .rw[List.drop_eq_nil_of_le (by omega)]at h;cases h
theorem q0l(h:xs.drop i=y::r):ltB (i:Int) ((xs.length:Nat):Int)=true:=q0b (by have:=q1b h;omega)
theorem q1h(h:xs.drop i=[]):ltB (i:Int) ((xs.length:Nat):Int)=false:=q02 (by simp_all)
theorem q0d(h:i<4611686018427387904):addI .i64 (i:Int) 1=((i+1:Nat):Int):=by rw[q3r (by omega) (by omega)];omega
end
theorem q37{α β:Type}{xs:List α}{y:α}(h0:0<=n)(h:xs[n.toNat]?=some y)(k:α->Option β):nth xs n k=k y:=by simp[nth,h0,h]
theorem q6l{α β:Type}{xs:List α}{n:Nat}{y:α}(h:xs[n]?=some y)(k:α->Option β):nthN xs n k=k y:=by simp[nthN,h]
def setOrder:List Int:=((List.range 11).flatMap fun k=>(List.range 1024).filter fun s=>((List.range 10).filter fun i=>s.testBit i).length==k).map Int.ofNat
end Go.Ab
